/-
  Part PM of a proof.
-/
import Derived.Test.YtlakpndhhelliaaGreatDoorPA
import Derived.Test.YtlakpndhhelliaaGreatDoorPL
import Derived.Test.YtlakpndhhelliaaGreatDoorPB
set_option maxHeartbeats 16000000
set_option maxRecDepth 100000
set_option linter.unusedVariables false
set_option linter.unusedSimpArgs false
namespace Go.Proofs.YtlakpndhhelliaaGreatDoor
open Go.RowKit
set_option maxHeartbeats 16000000
set_option maxRecDepth 100000
def Od (w:World) (a:WA) (r:Value) (w':World):Prop:=
 Below w.heap.size w w'∧((a.ok=false∧r=.tuple #[.slice none 0 0,.bool false,.int .i64 1])∨
  (a.ok=true∧∃far,a.nf.Far far∧((a.nf.shortR far=none∧r=.tuple #[.slice none 0 0,.bool false,.int .i64 0])∨
   ∃u A c,a.nf.shortR far=some u∧r=.tuple #[.slice A u.length c,.bool true,.int .i64 0]∧Sl w' w'.heap.size 1 Ai A (Aj u))))
theorem WA.cat_le {a:WA} (y:a.edges.length≤3000000) (m:List Bool) (x:Nat) (f:m.length=a.nf.n) (h:x<a.nf.L):(a.nf.cat (AC m) x).length≤4000000:=by
 have:=WA.cat_len (a:=a) (f.trans a.nf_n) h
 omega
theorem PB {v:Value} {a:WA} {w:World} (h:Cb w w.heap.size v a) (C:a.edges.length≤3000000) (M:a.start.length≤4000000):
  Calls Tryz.prog 11 #[v] w (Ret fun r w'=>Od w a r w'):=by
 have Z:=hide h
 obtain⟨A1,c1,A2,c2,A3,c3,rfl,h1,h2,h3,h4⟩:=h
 obtain⟨w1,az,E,G,a6⟩:=Ag w #[.int .i64 a.letters,.int .i64 a.states,.slice A1 a.start.length c1,.slice A2 a.accept.length c2,.slice A3 a.edges.length c3] 39
 have O:=E.size
 have aA:=G.cell
 have a7:=hide E
 have a8:=hide G
 have z:=It (Z.out.keep (fun p U=>E.cell U) O)
 cases f:a.ok
 ·rw [f,show DU false=1 from rfl] at z
  have I:=hide f
  clear h1 h2 h3 h4 a6 E G C M f
  go_enter Tryz.func11,Tryz.ntmps11
  go_wp2_with fail
  refine Calls.ret z ?_
  rintro r w3 ⟨rfl,y⟩
  have J:=hide (a7.out.trans (y.mono O))
  clear z y
  go_wp2_with fail
  exact bodyPost_ret (v:=.tuple #[.slice none 0 0,.bool false,.int .i64 1]) (by simp [results,Tryz.results11,go_sem]) rfl ⟨J.out,.inl ⟨I.out,rfl⟩⟩
 ·rw [f,show DU true=0 from rfl] at z
  have V:=(WA.ok_iff.1 f).2
  have aq:=(WA.ok_iff.1 f).1
  have ar:=hide (fun(F:World) (hb:Below w.heap.size w F)=>Il (Z.out.keep (w':=F) (fun p U=>hb.cell U) hb.size) V ⟨by omega,by omega⟩ ⟨by omega,by omega⟩ C)
  have au:=hide (fun(F:World) (d:Value) (hI:Cc F F.heap.size d a.nf)=>KP hI (WA.nf_ok V) (by rw [a.nf_n]; unfold WA.n; omega) (show a.L≤8 by unfold WA.L; omega) (Nat.le_trans a.ps_len C) M (WA.cat_le C))
  have I:=hide f
  clear h1 h2 h3 h4 a6 E G C M f V aq
  go_enter Tryz.func11,Tryz.ntmps11
  go_wp2_with fail
  refine Calls.ret z ?_
  rintro r w3 ⟨rfl,y⟩
  have W:=hide (a7.out.trans (y.mono O))
  have aB:=(a8.out.below y).cell
  have aC:=hide (a8.out.below y)
  clear z y
  go_wp2_with fail
  refine Calls.ret (ar.out _ W.out) ?_
  rintro nf w4 ⟨aa,ab⟩
  have ad:=hide (W.out.trans (ab.mono W.out.size))
  have ae:=au.out _ _ aa
  clear aa ab
  go_wp2_with fail
  refine Calls.ret ae ?_
  rintro r w5 ⟨af,far,hF,hr⟩
  have J:=hide (ad.out.trans (af.mono ad.out.size))
  have ah:=hide hF
  clear ae af hF
  rcases hr with⟨hn,rfl⟩ | ⟨u,A,c,hs,rfl,hS⟩
  ·have aw:=hide hn
   clear hn
   go_wp2_with fail
   exact bodyPost_ret (v:=.tuple #[.slice none 0 0,.bool false,.int .i64 0]) (by simp [results,Tryz.results11,go_sem]) rfl ⟨J.out,.inr ⟨I.out,far,ah.out,.inl ⟨aw.out,rfl⟩⟩⟩
  ·have ax:=hide hs
   have ay:=hide hS
   clear hs hS
   go_wp2_with fail
   exact bodyPost_ret (v:=.tuple #[.slice A u.length c,.bool true,.int .i64 0]) (by simp [results,Tryz.results11,go_sem]) rfl ⟨J.out,.inr ⟨I.out,far,ah.out,.inr ⟨u,A,c,ax.out,rfl,ay.out⟩⟩⟩
def WA.big (a:WA):Bool:=decide (600<a.start.length)||decide (600<a.accept.length)||decide (1000<a.edges.length)
theorem WA.big_not {a:WA} (h:a.big=false):a.start.length≤600∧a.accept.length≤600∧a.edges.length≤1000:=by
 simp only [WA.big,Bool.or_eq_false_iff,decide_eq_false_iff_not] at h
 omega
def a0:WA:=⟨1,0,[],[],[]⟩
def a1:WA:=⟨1,1,[0],[0],[]⟩
theorem Q4 (w:List Nat):a0.lang w=false:=by
 unfold WA.lang NF.lang
 rcases h:a0.nf.has (AG a0.nf.after a0.nf.st w) with _ | _
 ·rfl
 ·obtain⟨s,f,_⟩:=NF.has_iff.1 h
  rw [a0.nf_n] at f
  exact absurd f (by show ¬s<0; omega)
theorem Lq:¬a0.nf.Large 400:=by
 rintro⟨i,l,z,f⟩
 have C:a0.nf.n=0:=by rw [a0.nf_n]; rfl
 have h:∀s∈l,s=[]:=fun s E=>by
  obtain⟨w,F,rfl⟩:=z.inv.reach s E
  exact List.length_eq_zero_iff.1 ((a0.nf.run_len F).trans C)
 match l,f,z.inv.nodup,h with
 | [],f,_,_=>simp at f
 | [_],f,_,_=>simp at f
 | x::y::l,_,hnd,h=>
  rw [List.nodup_cons] at hnd
  exact hnd.1 (by rw [h x List.mem_cons_self,h y (List.mem_cons_of_mem _ List.mem_cons_self)]; exact List.mem_cons_self)
theorem Rr:CU 1 [[0]] [false] (fun _=>false):=by
  have hd:∀q x,q<1→x<1→dnx [[0]] q x=0:=fun q x J z=>by
    obtain rfl:q=0:=by omega
    obtain rfl:x=0:=by omega
    rfl
  have f:∀w,okW 1 w→AG (dnx [[0]]) 0 w=0:=fun w h=>Ex (I:=fun q=>q=0) (fun s x z C=>by rw [C]; exact hd 0 x (by omega) z) w 0 h rfl
  refine⟨⟨rfl,by decide,fun r f=>?_⟩,fun w h=>?_,fun u v E F _=>?_,?_⟩
  · have:r=[0]:=by simpa using f
    subst this
    exact⟨rfl,fun y G=>by have:y=0:=by simpa using G
                          subst this; decide⟩
  · rw [f w h]; rfl
  · rw [f u E,f v F]
  · exact Exp.row (l:=[0]) (i:=0) (s:=0) .start rfl
theorem HJ:a1.ok=true:=by decide
theorem OO {far:List Int} (h:a1.nf.Far far):a1.nf.shortR far≠none:=fun e=>by
 have f:=(NF.shortR_ok h (WA.nf_ok (WA.ok_iff.1 HJ).2)).non e [] (okW.nil _)
 revert f
 decide
theorem I0 {w:World} (V:Ca w):Calls Tryz.prog 5 #[] w (Ret fun v w'=>v=.bool true∧Below w.heap.size w w'):=by
 have W:Cb w w.heap.size (.agg #[.int .i64 1,.int .i64 0,.slice none 0 0,.slice none 0 0,.slice none 0 0]) a0:=⟨none,0,none,0,none,0,rfl,Sl.nil rfl,Sl.nil rfl,Sl.nil rfl,by decide⟩
 have Z:=Qv W (by decide) (by decide) V
 clear W V
 go_enter Tryz.func5,Tryz.ntmps5
 go_wp2_with fail
 refine Calls.ret Z ?_
 rintro v w1 ⟨z,hr⟩
 rcases hr with⟨h,_⟩ | ⟨_,h,_⟩ | ⟨_,_,t,ac,d,hC,hl,rfl,hD⟩
 ·exact absurd h (by decide)
 ·exact absurd h Lq
 have af:=CU.unique (hC.congr (Λ':=fun _=>false) (fun w _=>(Q4 w).symm)) Rr (fun _ _=>rfl)
 obtain⟨rfl,rfl⟩:=af
 obtain⟨A1,c1,A2,c2,A3,c3,rfl,-⟩:=hD w1 (Ae.refl _ _)
 have hp:AZ a0.L [[0]] [false]=⟨1,1,[0],[],[⟨0,0,0⟩]⟩:=by rfl
 rw [hp]
 simp only [List.length_cons,List.length_nil,Nat.zero_add]
 obtain⟨w2,av,C,a5,al⟩:=Ag w1 #[.int .i64 1,.int .i64 1,.slice A1 1 c1,.slice A2 0 c2,.slice A3 1 c3] 39
 obtain⟨E,aw,F,G,am⟩:=Ag w2 #[.int .i64 0] 3
 obtain⟨f,ax,y,I,an⟩:=Ag E #[.int .i64 0] 3
 have ao:=z.size
 have ay:=C.size
 have ap:=F.size
 have J:=F.trans (y.mono ap)
 have a6:Sl f f.heap.size 1 Ai (some ⟨w2.heap.size,0,none⟩) [0]:=⟨by decide,fun _=>⟨_,0,rfl,by have:=(G.below y).lt; omega,fun k d hd j hj=>by
  have hk:=AO hd
  have M:k=0:=by simpa using hk
  have O:j=0:=by omega
  subst M O
  have:d=0:=by simpa using hd.symm
  subst this
  exact(G.below y).cell 0⟩⟩
 have a7:Sl f f.heap.size 1 Ai (some ⟨E.heap.size,0,none⟩) [0]:=⟨by decide,fun _=>⟨_,0,rfl,I.lt,fun k d hd j hj=>by
  have hk:=AO hd
  have M:k=0:=by simpa using hk
  have O:j=0:=by omega
  subst M O
  have:d=0:=by simpa using hd.symm
  subst this
  exact I.cell 0⟩⟩
 have a8:Cb f f.heap.size (.agg #[.int .i64 1,.int .i64 1,.slice (some ⟨w2.heap.size,0,none⟩) 1 1,.slice (some ⟨E.heap.size,0,none⟩) 1 1,.slice none 0 0]) a1:=⟨_,1,_,1,none,0,rfl,a6,a7,Sl.nil rfl,by decide⟩
 have a9:=PB a8 (by decide) (by decide)
 have ar:=hide (a5.below J)
 have aa:=hide ((z.trans (C.mono ao)).trans (J.mono (by omega)))
 clear Z z hC hD hl hp C a5 al F G am y I an a6 a7 a8 J
 go_wp2_with fail
 refine Calls.ret a9 ?_
 rintro v w5 ⟨U,⟨h,_⟩ | ⟨_,far,hF,⟨h,_⟩ | ⟨u,A,c,_,rfl,_⟩⟩⟩
 ·rw [HJ] at h; cases h
 ·exact absurd h (OO hF)
 have aA:=(ar.out.below U).cell
 have au:=hide (aa.out.trans (U.mono aa.out.size))
 clear a9 U hF
 go_wp2_with fail
 go_ret
 exact⟨rfl,au.out⟩
end Go.Proofs.YtlakpndhhelliaaGreatDoor
