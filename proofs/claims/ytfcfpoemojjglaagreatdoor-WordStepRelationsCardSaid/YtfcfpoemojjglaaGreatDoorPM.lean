/-
  Part PM of a proof.
-/
import Derived.Test.YtfcfpoemojjglaaGreatDoorPA
import Derived.Test.YtfcfpoemojjglaaGreatDoorPL
import Derived.Test.YtfcfpoemojjglaaGreatDoorPB
set_option maxHeartbeats 16000000
set_option maxRecDepth 100000
set_option linter.unusedVariables false
set_option linter.unusedSimpArgs false
namespace Go.Proofs.YtfcfpoemojjglaaGreatDoor
open Go.RowKit
set_option maxHeartbeats 16000000
set_option maxRecDepth 100000
def LV (w:World) (a:WA) (r:Value) (w':World):Prop:=
 Below w.heap.size w w'∧((a.ok=false∧r=.tuple #[.slice none 0 0,.bool false,.int .i64 1])∨
  (a.ok=true∧∃far,a.nf.Far far∧((a.nf.shortR far=none∧r=.tuple #[.slice none 0 0,.bool false,.int .i64 0])∨
   ∃u A c,a.nf.shortR far=some u∧r=.tuple #[.slice A u.length c,.bool true,.int .i64 0]∧Sl w' w'.heap.size 1 Ai A (Ak u))))
theorem WA.cat_le {a:WA} (z:a.edges.length≤3000000) (m:List Bool) (x:Nat) (h:m.length=a.nf.n) (y:x<a.nf.L):(a.nf.cat (AJ m) x).length≤4000000:=by
 have:=WA.cat_len (a:=a) (h.trans a.nf_n) y
 omega
theorem LW {v:Value} {a:WA} {w:World} (h:Bj w w.heap.size v a) (F:a.edges.length≤3000000) (Z:a.start.length≤4000000):
  Calls Tryz.prog 31 #[v] w (Ret fun r w'=>LV w a r w'):=by
 have a9:=hide h
 obtain⟨A1,c1,A2,c2,A3,c3,rfl,h1,h2,h3,h4⟩:=h
 obtain⟨w1,aC,E,I,ah⟩:=Ae w #[.int .i64 a.letters,.int .i64 a.states,.slice A1 a.start.length c1,.slice A2 a.accept.length c2,.slice A3 a.edges.length c3] 35
 have W:=E.size
 have aA:=I.cell
 have ad:=hide E
 have a5:=hide I
 have C:=Iv (a9.out.keep (fun p V=>E.cell V) W)
 cases y:a.ok
 ·rw [y,show De false=1 from rfl] at C
  have M:=hide y
  clear h1 h2 h3 h4 ah E I F Z y
  go_enter Tryz.func31,Tryz.ntmps31
  go_wp2_with fail
  refine Calls.ret C ?_
  rintro r w3 ⟨rfl,z⟩
  have J:=hide (ad.out.trans (z.mono W))
  clear C z
  go_wp2_with fail
  exact bodyPost_ret (v:=.tuple #[.slice none 0 0,.bool false,.int .i64 1]) (by simp [results,Tryz.results31,go_sem]) rfl ⟨J.out,.inl ⟨M.out,rfl⟩⟩
 ·rw [y,show De true=0 from rfl] at C
  have U:=(WA.ok_iff.1 y).2
  have aq:=(WA.ok_iff.1 y).1
  have au:=hide (fun(G:World) (hb:Below w.heap.size w G)=>HM (a9.out.keep (w':=G) (fun p V=>hb.cell V) hb.size) U ⟨by omega,by omega⟩ ⟨by omega,by omega⟩ F)
  have ax:=hide (fun(G:World) (d:Value) (hI:Cn G G.heap.size d a.nf)=>S6 hI (WA.nf_ok U) (by rw [a.nf_n]; unfold WA.n; omega) (show a.L≤8 by unfold WA.L; omega) (Nat.le_trans a.ps_len F) Z (WA.cat_le F))
  have M:=hide y
  clear h1 h2 h3 h4 ah E I F Z y U aq
  go_enter Tryz.func31,Tryz.ntmps31
  go_wp2_with fail
  refine Calls.ret C ?_
  rintro r w3 ⟨rfl,z⟩
  have O:=hide (ad.out.trans (z.mono W))
  have aB:=(a5.out.below z).cell
  have az:=hide (a5.out.below z)
  clear C z
  go_wp2_with fail
  refine Calls.ret (au.out _ O.out) ?_
  rintro nf w4 ⟨a8,ae⟩
  have ab:=hide (O.out.trans (ae.mono O.out.size))
  have ag:=ax.out _ _ a8
  clear a8 ae
  go_wp2_with fail
  refine Calls.ret ag ?_
  rintro r w5 ⟨af,far,hF,hr⟩
  have J:=hide (ab.out.trans (af.mono ab.out.size))
  have a7:=hide hF
  clear ag af hF
  rcases hr with⟨hn,rfl⟩ | ⟨u,A,c,hs,rfl,hS⟩
  ·have ar:=hide hn
   clear hn
   go_wp2_with fail
   exact bodyPost_ret (v:=.tuple #[.slice none 0 0,.bool false,.int .i64 0]) (by simp [results,Tryz.results31,go_sem]) rfl ⟨J.out,.inr ⟨M.out,far,a7.out,.inl ⟨ar.out,rfl⟩⟩⟩
  ·have aw:=hide hs
   have ap:=hide hS
   clear hs hS
   go_wp2_with fail
   exact bodyPost_ret (v:=.tuple #[.slice A u.length c,.bool true,.int .i64 0]) (by simp [results,Tryz.results31,go_sem]) rfl ⟨J.out,.inr ⟨M.out,far,a7.out,.inr ⟨u,A,c,aw.out,rfl,ap.out⟩⟩⟩
def WA.big (a:WA):Bool:=decide (600<a.start.length)||decide (600<a.accept.length)||decide (1000<a.edges.length)
def a0:WA:=⟨1,0,[],[],[]⟩
def a1:WA:=⟨1,1,[0],[0],[]⟩
theorem LZ (w:List Nat):a0.lang w=false:=by
 unfold WA.lang NF.lang
 rcases h:a0.nf.has (Ay a0.nf.after a0.nf.st w) with _ | _
 ·rfl
 ·obtain⟨s,y,_⟩:=NF.has_iff.1 h
  rw [a0.nf_n] at y
  exact absurd y (by show ¬s<0; omega)
theorem L0:¬a0.nf.Large 400:=by
 rintro⟨i,l,z,h⟩
 have C:a0.nf.n=0:=by rw [a0.nf_n]; rfl
 have h0:∀s∈l,s=[]:=fun s E=>by
  obtain⟨w,F,rfl⟩:=z.inv.reach s E
  exact List.length_eq_zero_iff.1 ((a0.nf.run_len F).trans C)
 match l,h,z.inv.nodup,h0 with
 | [],h,_,_=>simp at h
 | [_],h,_,_=>simp at h
 | x::y::l,_,hnd,h0=>
  rw [List.nodup_cons] at hnd
  exact hnd.1 (by rw [h0 x List.mem_cons_self,h0 y (List.mem_cons_of_mem _ List.mem_cons_self)]; exact List.mem_cons_self)
theorem Rm:BH 1 [[0]] [false] (fun _=>false):=by
  have hd:∀q x,q<1→x<1→dnx [[0]] q x=0:=fun q x M C=>by
    obtain rfl:q=0:=by omega
    obtain rfl:x=0:=by omega
    rfl
  have h:∀w,okW 1 w→Ay (dnx [[0]]) 0 w=0:=fun w z=>Ew (I:=fun q=>q=0) (fun s x C E=>by rw [E]; exact hd 0 x (by omega) C) w 0 z rfl
  refine⟨⟨rfl,by decide,fun r h=>?_⟩,fun w z=>?_,fun u v F G _=>?_,?_⟩
  · have:r=[0]:=by simpa using h
    subst this
    exact⟨rfl,fun y J=>by have:y=0:=by simpa using J
                          subst this; decide⟩
  · rw [h w z]; rfl
  · rw [h u F,h v G]
  · exact Exp.row (l:=[0]) (i:=0) (s:=0) .start rfl
theorem IG:a1.ok=true:=by decide
theorem L1 {far:List Int} (h:a1.nf.Far far):a1.nf.shortR far≠none:=fun e=>by
 have y:=(NF.shortR_ok h (WA.nf_ok (WA.ok_iff.1 IG).2)).non e [] (okW.nil _)
 revert y
 decide
theorem Er {w:World} (hT:BV w):Calls Tryz.prog 10 #[] w (Ret fun v w'=>v=.bool true∧Below w.heap.size w w'):=by
 have a7:Bj w w.heap.size (.agg #[.int .i64 1,.int .i64 0,.slice none 0 0,.slice none 0 0,.slice none 0 0]) a0:=⟨none,0,none,0,none,0,rfl,Sl.nil rfl,Sl.nil rfl,Sl.nil rfl,by decide⟩
 have aa:=RX a7 (by decide) (by decide) hT
 clear a7 hT
 go_enter Tryz.func10,Tryz.ntmps10
 go_wp2_with fail
 refine Calls.ret aa ?_
 rintro v w1 ⟨F,hr⟩
 rcases hr with⟨h,_⟩ | ⟨_,h,_⟩ | ⟨_,_,t,ac,d,Z,hl,rfl,hD⟩
 ·exact absurd h (by decide)
 ·exact absurd h L0
 have ak:=BH.unique (Z.congr (Λ':=fun _=>false) (fun w _=>(LZ w).symm)) Rm (fun _ _=>rfl)
 obtain⟨rfl,rfl⟩:=ak
 obtain⟨A1,c1,A2,c2,A3,c3,rfl,-⟩:=hD w1 (Ac.refl _ _)
 have hp:AG a0.L [[0]] [false]=⟨1,1,[0],[],[⟨0,0,0⟩]⟩:=by rfl
 rw [hp]
 simp only [List.length_cons,List.length_nil,Nat.zero_add]
 obtain⟨w2,ay,G,W,an⟩:=Ae w1 #[.int .i64 1,.int .i64 1,.slice A1 1 c1,.slice A2 0 c2,.slice A3 1 c3] 35
 obtain⟨V,az,J,C,ao⟩:=Ae w2 #[.int .i64 0] 3
 obtain⟨y,aA,z,E,ap⟩:=Ae V #[.int .i64 0] 3
 have au:=F.size
 have ax:=G.size
 have av:=J.size
 have I:=J.trans (z.mono av)
 have a4:Sl y y.heap.size 1 Ai (some ⟨w2.heap.size,0,none⟩) [0]:=⟨by decide,fun _=>⟨_,0,rfl,by have:=(C.below z).lt; omega,fun k d hd j hj=>by
  have hk:=AP hd
  have U:k=0:=by simpa using hk
  have O:j=0:=by omega
  subst U O
  have:d=0:=by simpa using hd.symm
  subst this
  exact(C.below z).cell 0⟩⟩
 have a5:Sl y y.heap.size 1 Ai (some ⟨V.heap.size,0,none⟩) [0]:=⟨by decide,fun _=>⟨_,0,rfl,E.lt,fun k d hd j hj=>by
  have hk:=AP hd
  have U:k=0:=by simpa using hk
  have O:j=0:=by omega
  subst U O
  have:d=0:=by simpa using hd.symm
  subst this
  exact E.cell 0⟩⟩
 have a8:Bj y y.heap.size (.agg #[.int .i64 1,.int .i64 1,.slice (some ⟨w2.heap.size,0,none⟩) 1 1,.slice (some ⟨V.heap.size,0,none⟩) 1 1,.slice none 0 0]) a1:=⟨_,1,_,1,none,0,rfl,a4,a5,Sl.nil rfl,by decide⟩
 have ad:=LW a8 (by decide) (by decide)
 have aj:=hide (W.below I)
 have a9:=hide ((F.trans (G.mono au)).trans (I.mono (by omega)))
 clear aa F Z hD hl hp G W an J C ao z E ap a4 a5 a8 I
 go_wp2_with fail
 refine Calls.ret ad ?_
 rintro v w5 ⟨M,⟨h,_⟩ | ⟨_,far,hF,⟨h,_⟩ | ⟨u,A,c,_,rfl,_⟩⟩⟩
 ·rw [IG] at h; cases h
 ·exact absurd h (L1 hF)
 have aw:=(aj.out.below M).cell
 have al:=hide (a9.out.trans (M.mono a9.out.size))
 clear ad M hF
 go_wp2_with fail
 go_ret
 exact⟨rfl,al.out⟩
end Go.Proofs.YtfcfpoemojjglaaGreatDoor
