/-
  Part YE of a proof.
-/
import Derived.Test.YtjejejmeddkciaaGreatDoorPA
import Derived.Test.YtjejejmeddkciaaGreatDoorYA
import Derived.Test.YtjejejmeddkciaaGreatDoorTE
import Derived.Test.YtjejejmeddkciaaGreatDoorSA
import Derived.Test.YtjejejmeddkciaaGreatDoorYB
import Derived.Test.YtjejejmeddkciaaGreatDoorYD
import Derived.Test.YtjejejmeddkciaaGreatDoorSK
import Derived.Test.YtjejejmeddkciaaGreatDoorDA
set_option maxHeartbeats 16000000
set_option maxRecDepth 100000
set_option linter.unusedVariables false
set_option linter.unusedSimpArgs false
namespace Go.Proofs.YtjejejmeddkciaaGreatDoor
open Go.RowKit
open K (Am Az)
theorem aDm {p:Am} (h:AC p=0) {i:Nat} {r:Az} (I:p.rules[i]?=some r) {u:List Int} (E:Let p.states.length u) (n:Nat) (k:Int):Let p.states.length (AE r u n k):=by
 obtain⟨-,C,F⟩:=(W2 h).rule i r I;have st:∀{l:List Int} {j:Nat} {z:Int},Let p.states.length l->inN (p.states.length:Int) z=true->Let p.states.length (l.set j z):=fun G M x J=>by
  rcases List.mem_or_eq_of_mem_set J with h|h
  ·exact G x h
  ·rw [h];exact M
 unfold AE;split
 ·next h5=>exact st (st E (F h5).2) C
 ·exact st E C
theorem aCL {L:Nat} {u:List Int} (h:Let L u):okW L (u.map Int.toNat):=fun x C=>by
 obtain⟨y,E,rfl⟩:=List.mem_map.1 C;have:=D3.1 (h y E);omega
theorem aDv {p:Am} {a:WA} {t:List (List Nat)} {ac:List Bool} {i:Nat} {r:Az} (h:AC p=0) (E:p.rules[i]?=some r) (U:a.letters=(p.states.length:Int)) (G:BH p.states.length t ac a.lang)
  (V:aCw (A0 p r).tr (dnx t) (dac ac)) {u:List Int} (F:a.acc u=true) {n:Nat} {k:Int} (O:EnR p.topo r u n k):a.acc (AE r u n k)=true:=by
 unfold WA.acc WA.accV at F ⊢;simp only [Bool.and_eq_true,List.all_eq_true] at F ⊢;obtain⟨⟨h1,C⟩,M⟩:=F;rw [U] at C ⊢;have J:=aDm h E (u:=u) C n k;have I:u.length=(AE r u n k).length:=by unfold AE;split <;> simp
 refine⟨⟨h1,J⟩,?_⟩;have hrel:=(Yc h E (u:=u) (v:=AE r u n k) C I).2 ⟨n,k,O,rfl⟩;have:=V.sound (X3 h r (List.mem_of_getElem? E)).tr_in I hrel (by rw [G.can.lang _ (aCL C)];exact M)
 rwa [G.can.lang _ (aCL J)] at this
end Go.Proofs.YtjejejmeddkciaaGreatDoor
namespace Go.Proofs.YtjejejmeddkciaaGreatDoor
open Go.RowKit
open K (Am Az AB At Ba AW C0 Ah SpOK nameOK protE aCq aCt Ad orE Dv)
attribute [-go_sem] loadCellsFrom storeCells
set_option maxHeartbeats 16000000
set_option maxRecDepth 100000
theorem aDo {p:Am} {q:AB} (h:aCt nameOK p q=0):AC p=0:=by
 unfold aCt aCq at h;simp only [AY] at h;obtain⟨⟨h1,-⟩,E⟩:=h;have C:=(Gg (by decide)).1 E;rw [Bool.or_eq_false_iff] at C;unfold AC;exact AY.2 ⟨h1,(Gg (by decide)).2 C.1⟩
def aCE (p:Am) (a:WA) (i:Nat):Prop:=
 ∃r t ac,p.rules[i]?=some r/\a.ok=true/\a.letters=(p.states.length:Int)/\BH p.states.length t ac a.lang/\aCw (A0 p r).tr (dnx t) (dac ac)
theorem aCK (w:World) (vs:Array Value) (G:vs.size=2) (h1:vs.all (·.oneCell')=true):∃h,Below w.heap.size w h/\Blk h w.heap.size 70 vs/\∀c:Array Value,c.size=2->(storeCells ⟨w.heap.size,0,none⟩ vs.toList 0).run Tryz.prog (w.alloc (.cells c 70))=.ok () h:=by
 obtain⟨h,I,E,C,-⟩:=Ae w vs 70;exact⟨h,E,C,fun c F=>by rw [<-I];exact Dv w 70 2 (by kernel_rfl) G h1 c F⟩
theorem aCS {w:World} {cs ds:List Value} {av:Value} {p:Am} {q:AB} {a:WA} {z:Int} (h:At w w.heap.size cs p) (h':Ba w w.heap.size ds q) (ha:Bj w w.heap.size av a) (b8:p.Small) (b9:q.Small) (he:a.edges.length<=3000000) (hT:SpOK w) (hP:BV w):
  Calls Tryz.prog 7 #[.agg cs.toArray,.agg ds.toArray,av,.int .i64 z] w (Ret fun r w'=>Below w.heap.size w w'/\∃x:Bool,r=.bool x/\(x=true->AC p=0/\0<=z/\aCE p a z.toNat)):=by
 obtain⟨A1,c1,A2,c2,A3,c3,A4,c4,A5,c5,A6,c6,A7,c7,ar,q0,q1,q2,q3,q4,q5,q6,q7,q8,q9,-⟩:=h.cells;obtain⟨B1,d1,B2,d2,B3,d3,B4,d4,b6,-⟩:=h'.cells;have aR:=hide ha;obtain⟨E1,k1,E2,k2,E3,k3,rfl,-,-,-,-⟩:=ha;obtain⟨w1,ci,ai,aE,-⟩:=Ae w cs.toArray 27;obtain⟨w2,cj,aj,aH,-⟩:=Ae w1 ds.toArray 30;obtain⟨w3,ck,a7,aJ,-⟩:=Ae w2 #[.int .i64 a.letters,.int .i64 a.states,.slice E1 a.start.length k1,.slice E2 a.accept.length k2,.slice E3 a.edges.length k3] 33;have af:=ai.trans (aj.mono ai.size);have J:=af.trans (a7.mono af.size);have aF:=hide ((aE.below aj).below a7);have bi:=hide (aH.below a7);have bj:=hide aJ;have aT:=hide J;have al:=hide (K.check_any (h.keep (w':=w3) (B':=w3.heap.size) (fun _ O=>J.cell O) J.size) (h'.keep (w':=w3) (B':=w3.heap.size) (fun _ O=>J.cell O) J.size) b8 b9 (hT.below J));have aW:=hide (fun wx (E:Below w.heap.size w wx) (L:Nat) (hL:L<=60)=>aC4 (L:=L) (aR.out.keep (w':=wx) (B':=wx.heap.size) (fun _ O=>E.cell O) E.size) he hL (hP.below E));have b7:=hide (fun wx (E:Below w.heap.size w wx) (i:Nat) r (hr:p.rules[i]?=some r) (hL:p.states.length<=60)=>aAx (h.keep (w':=wx) (B':=wx.heap.size) (fun _ O=>E.cell O) E.size) hr hL);obtain⟨ns,aq⟩:∃n,n=p.states.length:=⟨_,rfl⟩;obtain⟨nr,ap⟩:∃n,n=p.rules.length:=⟨_,rfl⟩;rw [<-aq] at q2;rw [<-ap] at q9;have a2:=hide aq;have bu:=hide ap;generalize cs.toArray=pc at*;generalize ds.toArray=qc at*;have bs:=Ah aF.out ar;have bt:=Ah bi.out b6;have bw:=hide ar;have bH:=hide q2;have bO:=hide q9;obtain⟨e,an⟩:∃e,e=aCt nameOK p q:=⟨_,rfl⟩;rw [<-an] at al;have br:=hide an;clear h h' aR b8 b9 he hT hP ai aj a7 aE aH aJ af J ar b6 q0 q1 q2 q3 q4 q5 q6 q7 q8 q9 aq ap an;go_enter Tryz.func7,Tryz.ntmps7;go_wp2_with fail;refine Calls.ret al.out ?_;rintro v w4 ⟨rfl,a8⟩;have G:=hide (aT.out.trans (a8.mono aT.out.size));have ad:=hide (aF.out.below a8);have bk:=hide (bj.out.below a8);have aD:=(ad.out.cell 9).trans bO.out;have aC:=(ad.out.cell 2).trans bH.out;have aY:=Ah bk.out (n:=5) rfl;clear a8 bs bt al;by_cases M:e=0
 case neg=>
  have bq:(e != 0)=true:=by simp [M]
  clear M;go_wp2_with fail;go_ret;exact⟨G.out,false,rfl,fun h=>by cases h⟩
 have bq:(e != 0)=false:=by simp [M]
 have aw:=hide (aDo (br.out.symm.trans M));by_cases cm:z<0
 case pos=>
  clear M;go_wp2_with fail;go_ret;exact⟨G.out,false,rfl,fun h=>by cases h⟩
 by_cases cn:(nr:Int)<=z
 case pos=>
  clear M;go_wp2_with fail;go_ret;exact⟨G.out,false,rfl,fun h=>by cases h⟩
 obtain⟨i,rfl⟩:∃i:Nat,z=(i:Int):=⟨z.toNat,by omega⟩;obtain⟨r,hr⟩:=An (l:=p.rules) (i:=i) (by have:=bu.out;omega);have au:=hide hr;have ch:ns<=6:=by rw [a2.out];exact(W2 aw.out).ns.2
 have am:=hide (aW.out w4 G.out ns (by omega));clear hr M aW;go_wp2_with fail;refine Calls.ret am.out ?_;rintro v U ⟨W,rfl|⟨b5,aZ,t,ac,d,aK,aS,rfl,a5⟩⟩
 ·obtain⟨F,I,a4,a3⟩:=aCK U #[sn0,sn0] rfl (by simp [Value.oneCell']);have bz:∀c:Array Value,c.size=2->(storeCells ⟨U.heap.size,0,none⟩ [sn0,sn0] 0).run Tryz.prog (U.alloc (.cells c 70))=.ok () F:=a3;have V:=hide ((G.out.trans (W.mono G.out.size)).trans (I.mono (G.out.trans (W.mono G.out.size)).size));clear W I a4 a3 am aD aC aY;go_wp2_with fail;refine Reg.cC [0,1,3,3,15,3,63,127,255] [0,1,2,3,5,4,6,7,8] ?_ (by kernel_rfl) (by repeat (first|exact Reg.NoQ.body (fun _ _ h=>h) (fun _ h=>h)|refine Reg.NoQ.then ?_|refine Reg.NoQ.inBlock ?_));refine Reg.rest_walk' [0,1,2,3,5] [4,6,7,8] rfl (by kernel_rfl) ?_;intro Qf C;go_wp2_with fail;first|refine C _ _ ?_|skip
  (try clear C);refine Reg.rest_act' 4 [6,7,8] [5] rfl (by kernel_rfl) ?_;intro Qf C;try simp only [gT,gS,gZ]
  go_wp2_with fail;first|refine C _ _ ⟨Reg.same_below (Below.refl _ _) [5] rfl,?_⟩|refine⟨Reg.same_below (Below.refl _ _) [5] rfl,?_⟩
  (try clear C);refine Reg.rest_act' 6 [7,8] [] rfl (by kernel_rfl) ?_;intro Qf C;try simp only [gT,gS,gZ]
  go_wp2_with fail;first|refine C _ _ ⟨Reg.nm,?_⟩|refine⟨Reg.nm,?_⟩
  (try clear C);refine Reg.rest_walk' [7,8] [] rfl (by kernel_rfl) ?_;intro Qf C;go_wp2_with fail;first|refine C _ _ ?_|skip
  (try clear C);first|refine Reg.rest_end ?_|skip
  go_wp2_with fail;go_ret;exact⟨V.out.trans ((Ap F).mono V.out.size),false,rfl,fun h=>by cases h⟩
 ·obtain⟨F1,j1,F2,j2,hd,-,-⟩:=a5 U (Ac.refl _ _);subst hd;obtain⟨n1,b0⟩:∃n,n=t.length:=⟨_,rfl⟩;obtain⟨n2,b4⟩:∃n,n=ac.length:=⟨_,rfl⟩;rw [<-b0,<-b4] at a5 ⊢;obtain⟨F,I,a4,a3⟩:=aCK U #[.slice F1 n1 j1,.slice F2 n2 j2] rfl (by simp [Value.oneCell']);have bz:∀c:Array Value,c.size=2->(storeCells ⟨U.heap.size,0,none⟩ [.slice F1 n1 j1,.slice F2 n2 j2] 0).run Tryz.prog (U.alloc (.cells c 70))=.ok () F:=a3;have ag:=G.out.trans (W.mono G.out.size);have V:=ag.trans (I.mono ag.size);have ak:=I.trans ((Ap F).mono I.size);have ah:=hide (V.trans ((Ap F).mono V.size));have aG:=((ad.out.below W).below I).below (Ap F);have cf:=Ah aG bw.out;have cg:=Ah (a4.below (Ap F)) (n:=2) rfl;have bx:=hide (b7.out F.drew ah.out i r au.out (by rw [<-a2.out];omega));have bl:=hide (fun wx (E:Below F.drew.heap.size F.drew wx)=>a5 wx (Ac.of_below (ak.trans (E.mono ak.size)) _));have aL:=hide aK;have bm:=hide aS;have bv:=hide b5;have ao:=hide aZ;have a6:=hide (show(A0 p r).tr.In/\(A0 p r).tr.letters=(ns:Int)/\(A0 p r).tr.states<=36/\0<=(A0 p r).tr.states from by
   have:=(X3 aw.out).at (A0 p r).tr (List.mem_map.2 ⟨r,List.mem_of_getElem? au.out,rfl⟩);exact⟨this.1,by rw [this.2.2.1,a2.out],this.2.2.2,by simp [Drw.tr]⟩)
  clear W I a4 a3 am aD aC aY ag V ak aG b7 a5 aK aS b5 aZ b0 b4;go_wp2_with fail;refine Reg.cC [0,1,3,3,15,3,63,127,255] [0,1,2,3,5,4,6,7,8] ?_ (by kernel_rfl) (by repeat (first|exact Reg.NoQ.body (fun _ _ h=>h) (fun _ h=>h)|refine Reg.NoQ.then ?_|refine Reg.NoQ.inBlock ?_));refine Reg.rest_walk' [0,1,2,3,5] [4,6,7,8] rfl (by kernel_rfl) ?_;intro Qf C;go_wp2_with fail;first|refine C _ _ ?_|skip
  (try clear C);refine Reg.rest_act' 4 [6,7,8] [5] rfl (by kernel_rfl) ?_;intro Qf C;try simp only [gT,gS,gZ]
  go_wp2_with fail;refine Calls.ret bx.out ?_;rintro vt w7 ⟨Z,ax,aO⟩;have aP:=aO w7 (Ac.refl _ _);have aU:=hide (ah.out.trans (Z.mono ah.out.size));have bo:=hide (aC0 (L:=ns) aP (bl.out w7 Z) a6.out.1 a6.out.2.1 (by have:=aL.out.ok;unfold WA.L at this;rw [ao.out,Int.toNat_natCast] at this;exact this) bm.out ⟨a6.out.2.2.2,a6.out.2.2.1⟩ (by unfold Drw.size at ax;simp [Drw.tr];omega) (by unfold Drw.size at ax;simp [Drw.tr];omega));clear aO aP ax;go_wp2_with fail;first|refine C _ _ ⟨Reg.same_below Z [5] rfl,?_⟩|refine⟨Reg.same_below Z [5] rfl,?_⟩
  (try clear C);clear Z;refine Reg.rest_act' 6 [7,8] [] rfl (by kernel_rfl) ?_;intro Qf C;try simp only [gT,gS,gZ]
  go_wp2_with fail;refine Calls.ret bo.out ?_;rintro q w8 ⟨aV,x,rfl,E⟩;have bn:=hide (aU.out.trans (aV.mono aU.out.size));have bA:=hide E;clear aV E;go_wp2_with fail;first|refine C _ _ ⟨Reg.nm,?_⟩|refine⟨Reg.nm,?_⟩
  (try clear C);refine Reg.rest_walk' [7,8] [] rfl (by kernel_rfl) ?_;intro Qf C;go_wp2_with fail;first|refine C _ _ ?_|skip
  (try clear C);first|refine Reg.rest_end ?_|skip
  go_wp2_with fail;go_ret;refine⟨bn.out,x,rfl,fun bB=>⟨aw.out,by omega,r,t,ac,by simpa using au.out,bv.out,by rw [<-a2.out];exact ao.out,?_,bA.out bB⟩⟩;have:=aL.out;unfold WA.L at this;rw [ao.out,Int.toNat_natCast,a2.out] at this;exact this
end Go.Proofs.YtjejejmeddkciaaGreatDoor
