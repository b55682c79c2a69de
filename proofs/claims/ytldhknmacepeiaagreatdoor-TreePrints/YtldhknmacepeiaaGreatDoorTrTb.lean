/-
  A logic of walks. No condition.
-/
import Derived.Test.YtldhknmacepeiaaGreatDoorSuTb
set_option linter.unusedVariables false
set_option linter.unusedSimpArgs false
section
namespace Fly
set_option maxRecDepth 100000
open Go Go.Proofs
noncomputable def tb:Tabs Tryz.prog:=Su.qme.sound.tb
theorem mo:Tryz.prog.follows .mixedOrders=true:=by kernel_rfl
end Fly
end
section
namespace Fly
open Go Go.Proofs
set_option maxRecDepth 10000
attribute [local irreducible] WC WE WR Opr St Go.Calls Qy Qf yR Owe One Qg
theorem c47{V:qc}{sx sy:Value}{cx cy:List Value}{m m' f:Nat}{Ix Iy:Nat→List Value→Prop}{g:Nat→Bool}(hsx:Sl 7 V sx cx)(hsy:Sl 7 V sy cy)(hx:Jr 7 cx m Ix)(hy:Jr 7 cy m' Iy)(hg:tb.go f=true)
 (hf:∀i c c',i<m→i<m'→Ix i c→Iy i c'→ji Tryz.prog f [.agg c.toArray,.agg c'.toArray] V (.bool (g i))):ji Tryz.prog 136 [sx,sy,.func (.func f) #[] #[]] V (.bool (JK m m' g)):=by
 refine qT Tryz.func136 rfl Tryz.ntmps136 rfl ?_;intro X w hM hw hV0 hR;dsimp only[qZ,Nat.zero_add,Nat.reduceAdd]
 (repeat'(first|refine qq ?_|refine qa ?_|refine qo ?_|refine qe ?_|refine qt ?_|refine qF ?_|refine qO ?_|(refine qn rfl ?_;first|refine qX tb rfl hsx rfl rfl hx.1 (by decide) ?_|refine qX tb rfl hsy rfl rfl hy.1 (by decide) ?_|refine qh rfl ?_|refine qd rfl ?_|refine qg8 rfl rfl ?_)|refine qkb rfl (fun _=>?_) (fun _=>?_)))
 · (refine qR hM hw hV0 hR (jU rfl rfl) ?_)
   rw[qht];intro h;subst h;contradiction
 · rename_i he
   obtain rfl:m=m':=by omega
   refine jC (fun L' V' G' μ=>∃i:Nat,i≤m∧μ=m-i∧Sub V V'∧G'=[]∧L'=[(15,.int .i64 i),(14,.int .i64 m),(0,sx),(1,sy),(2,.func (.func f) #[] #[])]∧∀j,j<i→g j=true) (G0:=[]) (m0:=m) (by repeat(first|exact .nil|refine .cons rfl ?_)) (Vy _) ⟨0,by omega,by omega,Sub.refl _,rfl,rfl,fun j hj=>by omega⟩ ?_
   rintro L' V' G' μ ⟨i,hi,hμ,hVs,hGe,hLe,hall⟩
   subst hGe hLe
   replace hsx:=hsx.mono hVs
   replace hsy:=hsy.mono hVs
   (repeat'(first|refine qq ?_|refine qa ?_|refine qo ?_|refine qe ?_|refine qt ?_|refine qF ?_|refine jh ?_|refine qG ?_|refine qD ?_|refine qI ?_|refine qO ?_|(refine qn rfl ?_;first|refine qh rfl ?_|refine qd rfl ?_|refine jV rfl rfl ?_)|refine yL rfl (fun _=>?_) (fun _=>?_)))
   · rename_i hlt
     obtain⟨ax,lx,qx,rfl,hq1,hq2,hlx,hpx⟩:=hsx;obtain⟨ay,ly,qy,rfl,_,_,hly,hpy⟩:=hsy;have hxl:=hx.1;have hyl:=hy.1;have hlx':lx=m:=by omega
     have hly':ly=m:=by omega
     subst hlx';have hbig:lx≤9223372036854775807:=by unfold maxLen at hq2;omega
     obtain⟨bx,ox,rfl,hrx⟩:=hpx.resolve_left (by omega)
     obtain⟨bY,oY,rfl,hry⟩:=hpy.resolve_left (by omega)
     obtain⟨c,hc1,hc2,hc3⟩:=hx.rd hrx (i:=i) (by omega)
     obtain⟨c',hc1',hc2',hc3'⟩:=hy.rd hry (i:=i) (by omega)
     (refine jo 9 mo rfl (by kernel_rfl) rfl ?_;(repeat (apply Prog.step (Q9 _) (jg _) rfl rfl;· (intro V1 F1 hs1;(repeat(first|refine jt ?_|refine js ?_));refine qW ?_;(first|refine qB tb rfl rfl rfl (by omega) (by omega) ?_|refine jw tb rfl rfl hc1 (by decide) hc3 (by assumption) ?_|refine jw tb rfl rfl hc1' (by decide) hc3' (by assumption) ?_|refine qh rfl ?_);exact Qc)));refine Prog.done ?_;intro V1 hs1;repeat(first|refine jp ?_|refine jr ?_))
     (repeat'(first|refine qq ?_|refine qa ?_|refine qo ?_|refine qe ?_|refine qF ?_|refine qS ?_|refine qO ?_|(refine qn rfl ?_;first|refine qet tb rfl rfl hg ((hf i c c' (by omega) (by omega) hc2 hc2').mono (hVs.trans hs1)) ?_|refine qh rfl ?_|refine qd rfl ?_|refine qck rfl ?_|refine jf rfl rfl (by omega) (by omega) ?_)|refine qhs rfl (fun _=>?_) (fun _=>?_)))
     · rename_i hgi
       (refine qR hM hw hV0 hR (jU rfl rfl) ?_)
       rw[qa3 (by omega) hgi]
     · rename_i hgi
       exact jb (by repeat(first|exact .nil|refine .cons rfl ?_)) (Vy _) ⟨i+1,by omega,rfl,hVs.trans hs1,rfl,rfl,fun j hj=>if h:j=i then h ▸ hgi else hall j (by omega)⟩ (by omega)
   · (refine qR hM hw hV0 hR (jU rfl rfl) ?_)
     rw[qcB rfl (fun j hj=>hall j (by omega))]
theorem c45{V:qc}{sx sy:Value}{cx cy:List Value}{m m' f:Nat}{Ix Iy:Nat→List Value→Prop}{g:Nat→Bool}(hsx:Sl 15 V sx cx)(hsy:Sl 15 V sy cy)(hx:Jr 15 cx m Ix)(hy:Jr 15 cy m' Iy)(hg:tb.go f=true)
 (hf:∀i c c',i<m→i<m'→Ix i c→Iy i c'→ji Tryz.prog f [.agg c.toArray,.agg c'.toArray] V (.bool (g i))):ji Tryz.prog 100 [sx,sy,.func (.func f) #[] #[]] V (.bool (JK m m' g)):=by
 refine qT Tryz.func100 rfl Tryz.ntmps100 rfl ?_;intro X w hM hw hV0 hR;dsimp only[qZ,Nat.zero_add,Nat.reduceAdd]
 (repeat'(first|refine qq ?_|refine qa ?_|refine qo ?_|refine qe ?_|refine qt ?_|refine qF ?_|refine qO ?_|(refine qn rfl ?_;first|refine qX tb rfl hsx rfl rfl hx.1 (by decide) ?_|refine qX tb rfl hsy rfl rfl hy.1 (by decide) ?_|refine qh rfl ?_|refine qd rfl ?_|refine qg8 rfl rfl ?_)|refine qkb rfl (fun _=>?_) (fun _=>?_)))
 · (refine qR hM hw hV0 hR (jU rfl rfl) ?_)
   rw[qht];intro h;subst h;contradiction
 · rename_i he
   obtain rfl:m=m':=by omega
   refine jC (fun L' V' G' μ=>∃i:Nat,i≤m∧μ=m-i∧Sub V V'∧G'=[]∧L'=[(15,.int .i64 i),(14,.int .i64 m),(0,sx),(1,sy),(2,.func (.func f) #[] #[])]∧∀j,j<i→g j=true) (G0:=[]) (m0:=m) (by repeat(first|exact .nil|refine .cons rfl ?_)) (Vy _) ⟨0,by omega,by omega,Sub.refl _,rfl,rfl,fun j hj=>by omega⟩ ?_
   rintro L' V' G' μ ⟨i,hi,hμ,hVs,hGe,hLe,hall⟩
   subst hGe hLe
   replace hsx:=hsx.mono hVs
   replace hsy:=hsy.mono hVs
   (repeat'(first|refine qq ?_|refine qa ?_|refine qo ?_|refine qe ?_|refine qt ?_|refine qF ?_|refine jh ?_|refine qG ?_|refine qD ?_|refine qI ?_|refine qO ?_|(refine qn rfl ?_;first|refine qh rfl ?_|refine qd rfl ?_|refine jV rfl rfl ?_)|refine yL rfl (fun _=>?_) (fun _=>?_)))
   · rename_i hlt
     obtain⟨ax,lx,qx,rfl,hq1,hq2,hlx,hpx⟩:=hsx;obtain⟨ay,ly,qy,rfl,_,_,hly,hpy⟩:=hsy;have hxl:=hx.1;have hyl:=hy.1;have hlx':lx=m:=by omega
     have hly':ly=m:=by omega
     subst hlx';have hbig:lx≤9223372036854775807:=by unfold maxLen at hq2;omega
     obtain⟨bx,ox,rfl,hrx⟩:=hpx.resolve_left (by omega)
     obtain⟨bY,oY,rfl,hry⟩:=hpy.resolve_left (by omega)
     obtain⟨c,hc1,hc2,hc3⟩:=hx.rd hrx (i:=i) (by omega)
     obtain⟨c',hc1',hc2',hc3'⟩:=hy.rd hry (i:=i) (by omega)
     (refine jo 9 mo rfl (by kernel_rfl) rfl ?_;(repeat (apply Prog.step (Q9 _) (jg _) rfl rfl;· (intro V1 F1 hs1;(repeat(first|refine jt ?_|refine js ?_));refine qW ?_;(first|refine qB tb rfl rfl rfl (by omega) (by omega) ?_|refine jw tb rfl rfl hc1 (by decide) hc3 (by assumption) ?_|refine jw tb rfl rfl hc1' (by decide) hc3' (by assumption) ?_|refine qh rfl ?_);exact Qc)));refine Prog.done ?_;intro V1 hs1;repeat(first|refine jp ?_|refine jr ?_))
     (repeat'(first|refine qq ?_|refine qa ?_|refine qo ?_|refine qe ?_|refine qF ?_|refine qS ?_|refine qO ?_|(refine qn rfl ?_;first|refine qet tb rfl rfl hg ((hf i c c' (by omega) (by omega) hc2 hc2').mono (hVs.trans hs1)) ?_|refine qh rfl ?_|refine qd rfl ?_|refine qck rfl ?_|refine jf rfl rfl (by omega) (by omega) ?_)|refine qhs rfl (fun _=>?_) (fun _=>?_)))
     · rename_i hgi
       (refine qR hM hw hV0 hR (jU rfl rfl) ?_)
       rw[qa3 (by omega) hgi]
     · rename_i hgi
       exact jb (by repeat(first|exact .nil|refine .cons rfl ?_)) (Vy _) ⟨i+1,by omega,rfl,hVs.trans hs1,rfl,rfl,fun j hj=>if h:j=i then h ▸ hgi else hall j (by omega)⟩ (by omega)
   · (refine qR hM hw hV0 hR (jU rfl rfl) ?_)
     rw[qcB rfl (fun j hj=>hall j (by omega))]
theorem c43{V:qc}{sx sy:Value}{cx cy:List Value}{m m' f:Nat}{Ix Iy:Nat→List Value→Prop}{g:Nat→Bool}(hsx:Sl 20 V sx cx)(hsy:Sl 20 V sy cy)(hx:Jr 20 cx m Ix)(hy:Jr 20 cy m' Iy)(hg:tb.go f=true)
 (hf:∀i c c',i<m→i<m'→Ix i c→Iy i c'→ji Tryz.prog f [.agg c.toArray,.agg c'.toArray] V (.bool (g i))):ji Tryz.prog 98 [sx,sy,.func (.func f) #[] #[]] V (.bool (JK m m' g)):=by
 refine qT Tryz.func98 rfl Tryz.ntmps98 rfl ?_;intro X w hM hw hV0 hR;dsimp only[qZ,Nat.zero_add,Nat.reduceAdd]
 (repeat'(first|refine qq ?_|refine qa ?_|refine qo ?_|refine qe ?_|refine qt ?_|refine qF ?_|refine qO ?_|(refine qn rfl ?_;first|refine qX tb rfl hsx rfl rfl hx.1 (by decide) ?_|refine qX tb rfl hsy rfl rfl hy.1 (by decide) ?_|refine qh rfl ?_|refine qd rfl ?_|refine qg8 rfl rfl ?_)|refine qkb rfl (fun _=>?_) (fun _=>?_)))
 · (refine qR hM hw hV0 hR (jU rfl rfl) ?_)
   rw[qht];intro h;subst h;contradiction
 · rename_i he
   obtain rfl:m=m':=by omega
   refine jC (fun L' V' G' μ=>∃i:Nat,i≤m∧μ=m-i∧Sub V V'∧G'=[]∧L'=[(15,.int .i64 i),(14,.int .i64 m),(0,sx),(1,sy),(2,.func (.func f) #[] #[])]∧∀j,j<i→g j=true) (G0:=[]) (m0:=m) (by repeat(first|exact .nil|refine .cons rfl ?_)) (Vy _) ⟨0,by omega,by omega,Sub.refl _,rfl,rfl,fun j hj=>by omega⟩ ?_
   rintro L' V' G' μ ⟨i,hi,hμ,hVs,hGe,hLe,hall⟩
   subst hGe hLe
   replace hsx:=hsx.mono hVs
   replace hsy:=hsy.mono hVs
   (repeat'(first|refine qq ?_|refine qa ?_|refine qo ?_|refine qe ?_|refine qt ?_|refine qF ?_|refine jh ?_|refine qG ?_|refine qD ?_|refine qI ?_|refine qO ?_|(refine qn rfl ?_;first|refine qh rfl ?_|refine qd rfl ?_|refine jV rfl rfl ?_)|refine yL rfl (fun _=>?_) (fun _=>?_)))
   · rename_i hlt
     obtain⟨ax,lx,qx,rfl,hq1,hq2,hlx,hpx⟩:=hsx;obtain⟨ay,ly,qy,rfl,_,_,hly,hpy⟩:=hsy;have hxl:=hx.1;have hyl:=hy.1;have hlx':lx=m:=by omega
     have hly':ly=m:=by omega
     subst hlx';have hbig:lx≤9223372036854775807:=by unfold maxLen at hq2;omega
     obtain⟨bx,ox,rfl,hrx⟩:=hpx.resolve_left (by omega)
     obtain⟨bY,oY,rfl,hry⟩:=hpy.resolve_left (by omega)
     obtain⟨c,hc1,hc2,hc3⟩:=hx.rd hrx (i:=i) (by omega)
     obtain⟨c',hc1',hc2',hc3'⟩:=hy.rd hry (i:=i) (by omega)
     (refine jo 9 mo rfl (by kernel_rfl) rfl ?_;(repeat (apply Prog.step (Q9 _) (jg _) rfl rfl;· (intro V1 F1 hs1;(repeat(first|refine jt ?_|refine js ?_));refine qW ?_;(first|refine qB tb rfl rfl rfl (by omega) (by omega) ?_|refine jw tb rfl rfl hc1 (by decide) hc3 (by assumption) ?_|refine jw tb rfl rfl hc1' (by decide) hc3' (by assumption) ?_|refine qh rfl ?_);exact Qc)));refine Prog.done ?_;intro V1 hs1;repeat(first|refine jp ?_|refine jr ?_))
     (repeat'(first|refine qq ?_|refine qa ?_|refine qo ?_|refine qe ?_|refine qF ?_|refine qS ?_|refine qO ?_|(refine qn rfl ?_;first|refine qet tb rfl rfl hg ((hf i c c' (by omega) (by omega) hc2 hc2').mono (hVs.trans hs1)) ?_|refine qh rfl ?_|refine qd rfl ?_|refine qck rfl ?_|refine jf rfl rfl (by omega) (by omega) ?_)|refine qhs rfl (fun _=>?_) (fun _=>?_)))
     · rename_i hgi
       (refine qR hM hw hV0 hR (jU rfl rfl) ?_)
       rw[qa3 (by omega) hgi]
     · rename_i hgi
       exact jb (by repeat(first|exact .nil|refine .cons rfl ?_)) (Vy _) ⟨i+1,by omega,rfl,hVs.trans hs1,rfl,rfl,fun j hj=>if h:j=i then h ▸ hgi else hall j (by omega)⟩ (by omega)
   · (refine qR hM hw hV0 hR (jU rfl rfl) ?_)
     rw[qcB rfl (fun j hj=>hall j (by omega))]
mutual
theorem c18{V:qc}:∀(x y:Ex) {cx cy:List Value},Ex.Is V x cx→Ex.Is V y cy→ji Tryz.prog 82 [.agg cx.toArray,.agg cy.toArray] V (.bool (Yv x y))
 | .mk op p b i f nm es,.mk op' p' b' i' f' nm' es',cx,cy,hx,hy=>by
  simp only[Ex.Is]at hx hy;obtain⟨sx,ex,rfl,hsx,has⟩:=hx;obtain⟨sy,ey,rfl,hsy,has'⟩:=hy;have hc:=c47 (f:=82) (g:=at2 Yv es.list es'.list) hsx hsy (Exs.parts has) (Exs.parts has') rfl (by
   rintro i c c' hi hi' ⟨x,h1,h2⟩ ⟨y,h3,h4⟩
   simp only[at2,h1,h3];exact c18s es x (zO h1) y h2 h4)
  refine qT Tryz.func82 rfl Tryz.ntmps82 rfl ?_;intro X w hM hw hV0 hR;dsimp only[qZ,Nat.zero_add,Nat.reduceAdd]
  (repeat'(first|refine qq ?_|refine qa ?_|refine qo ?_|refine qe ?_|refine qO ?_|((first|refine qn rfl ?_|refine Qa rfl rfl rfl ?_);(first|refine qA tb rfl rfl hc ?_|refine qh rfl ?_|refine qd rfl ?_|refine jI rfl rfl ?_|refine qY rfl rfl ?_|refine ja rfl rfl ?_|refine qb tb rfl rfl ?_|refine qer rfl rfl ?_|refine qlO rfl rfl (by kernel_rfl) ?_|(apply qp tb rfl rfl;(·(refine At.own (?_);repeat(first|exact .here|refine .there ?_)));(·exact rfl))|(refine qJ rfl ?_;intro b)))|refine JI rfl rfl rfl rfl ?_|refine yB rfl rfl (fun _=>?_) (fun _=>?_)))
  all_goals (refine qR hM hw hV0 hR (jU rfl rfl) ?_)
  all_goals (simp only[Yv,qa0];simp[*])
 termination_by structural x=>x
theorem c18s{V:qc}:∀(es:Exs),∀x∈es.list,∀(y:Ex) {cx cy:List Value},Ex.Is V x cx→Ex.Is V y cy→ji Tryz.prog 82 [.agg cx.toArray,.agg cy.toArray] V (.bool (Yv x y))
 | .nil,x,hm,_,_,_,_,_=>by simp[Exs.list]at hm
 | .cons e r,x,hm,y,_,_,hx,hy=>by
  rcases zK.1 hm with h|h
  · rw[h]at hx ⊢;exact c18 e y hx hy
  · exact c18s r x h y hx hy
 termination_by structural x=>x
end
end Fly
end
section
namespace Fly
open Go Go.Proofs
set_option maxRecDepth 10000
attribute [local irreducible] WC WE WR Opr St Go.Calls Qy Qf yR Owe One Qg
theorem Ex.Is.lit{V:qc}{x:Ex}{c:List Value}(h:Ex.Is V x c):∃a0 a1 a2 a3 a4 a5 a6:Value,c=[a0,a1,a2,a3,a4,a5,a6]:=by
 cases x with
 | mk op p b i f nm es=>
  simp only[Ex.Is]at h;obtain⟨sl,css,rfl,_⟩:=h;exact⟨_,_,_,_,_,_,_,rfl⟩
mutual
theorem c46{V:qc}:∀(x y:St_) {cx cy:List Value},St_.Is V x cx→St_.Is V y cy→ji Tryz.prog 101 [.agg cx.toArray,.agg cy.toArray] V (.bool (ZQ x y))
 | .mk kd p nm ix ex lo hi tn el,.mk kd' p' nm' ix' ex' lo' hi' tn' el',cx,cy,hx,hy=>by
  simp only[St_.Is]at hx hy;obtain⟨s1,c1,ce,s2,c2,s3,c3,rfl,g1,h1,he,g2,h2,g3,h3⟩:=hx;obtain⟨s1',c1',ce',s2',c2',s3',c3',rfl,g1',h1',he',g2',h2',g3',h3'⟩:=hy;obtain⟨a0,a1,a2,a3,a4,a5,a6,rfl⟩:=he.lit;obtain⟨a0',a1',a2',a3',a4',a5',a6',rfl⟩:=he'.lit;simp only[zD,zy];have k1:=c47 (f:=82) (g:=at2 Yv ix.list ix'.list) g1 g1' (Exs.parts h1) (Exs.parts h1') rfl (by
   rintro i c c' hi hi' ⟨x,h1,h2⟩ ⟨y,h3,h4⟩
   simp only[at2,h1,h3];exact c18 x y h2 h4)
  have k2:=c18 ex ex' he he';have k3:=c45 (f:=101) (g:=at2 ZQ tn.list tn'.list) g2 g2' (Sts.parts h2) (Sts.parts h2') rfl (by
   rintro i c c' hi hi' ⟨x,h1,h2⟩ ⟨y,h3,h4⟩
   simp only[at2,h1,h3];exact c46s tn x (zO h1) y h2 h4)
  have k4:=c45 (f:=101) (g:=at2 ZQ el.list el'.list) g3 g3' (Sts.parts h3) (Sts.parts h3') rfl (by
   rintro i c c' hi hi' ⟨x,h1,h2⟩ ⟨y,h3,h4⟩
   simp only[at2,h1,h3];exact c46s el x (zO h1) y h2 h4)
  refine qT Tryz.func101 rfl Tryz.ntmps101 rfl ?_;intro X w hM hw hV0 hR;dsimp only[qZ,Nat.zero_add,Nat.reduceAdd]
  (repeat'(first|refine qq ?_|refine qa ?_|refine qo ?_|refine qe ?_|refine qO ?_|((first|refine qn rfl ?_|refine Qa rfl rfl rfl ?_);(first|refine qA tb rfl rfl k1 ?_|refine qA tb rfl rfl k2 ?_|refine qA tb rfl rfl k3 ?_|refine qA tb rfl rfl k4 ?_|refine qh rfl ?_|refine qd rfl ?_|refine jI rfl rfl ?_|refine qY rfl rfl ?_|refine ja rfl rfl ?_|refine qb tb rfl rfl ?_|refine qer rfl rfl ?_|(apply qp tb rfl rfl;(·(refine At.own (?_);repeat(first|exact .here|refine .there ?_)));(·exact rfl))|(apply qK tb rfl rfl;(·(refine At.own (?_);repeat(first|exact .here|refine .there ?_)));(·exact rfl))|(refine qJ rfl ?_;intro b)))|refine JI rfl rfl rfl rfl ?_|refine yB rfl rfl (fun _=>?_) (fun _=>?_)|refine qes rfl rfl (fun _=>?_) (fun _=>?_)))
  all_goals (refine qR hM hw hV0 hR (jU rfl rfl) ?_)
  all_goals (simp only[ZQ,qa0,qa1];simp[*])
 termination_by structural x=>x
theorem c46s{V:qc}:∀(es:Sts),∀x∈es.list,∀(y:St_) {cx cy:List Value},St_.Is V x cx→St_.Is V y cy→ji Tryz.prog 101 [.agg cx.toArray,.agg cy.toArray] V (.bool (ZQ x y))
 | .nil,x,hm,_,_,_,_,_=>by simp[Sts.list]at hm
 | .cons e r,x,hm,y,_,_,hx,hy=>by
  rcases zK.1 hm with h|h
  · rw[h]at hx ⊢;exact c46 e y hx hy
  · exact c46s r x h y hx hy
 termination_by structural x=>x
end
theorem c44{V:qc}(x y:Dc){cx cy:List Value}(hx:Dc.Is V x cx)(hy:Dc.Is V y cy):ji Tryz.prog 99 [.agg cx.toArray,.agg cy.toArray] V (.bool (qeo x y)):=by
 obtain⟨ce,cf,rfl,he,hf⟩:=hx;obtain⟨ce',cf',rfl,he',hf'⟩:=hy;have k1:=c18 _ _ he he';have k2:=c18 _ _ hf hf';obtain⟨a0,a1,a2,a3,a4,a5,a6,rfl⟩:=he.lit;obtain⟨a0',a1',a2',a3',a4',a5',a6',rfl⟩:=he'.lit;obtain⟨b0,b1,b2,b3,b4,b5,b6,rfl⟩:=hf.lit;obtain⟨b0',b1',b2',b3',b4',b5',b6',rfl⟩:=hf'.lit;simp only[zD,zy];refine qT Tryz.func99 rfl Tryz.ntmps99 rfl ?_;intro X w hM hw hV0 hR;dsimp only[qZ,Nat.zero_add,Nat.reduceAdd]
 (repeat'(first|refine qq ?_|refine qa ?_|refine qo ?_|refine qe ?_|refine qO ?_|((first|refine qn rfl ?_|refine Qa rfl rfl rfl ?_);(first|refine qA tb rfl rfl k1 ?_|refine qA tb rfl rfl k2 ?_|refine qh rfl ?_|refine qd rfl ?_|refine jI rfl rfl ?_|refine qY rfl rfl ?_|refine ja rfl rfl ?_|refine qb tb rfl rfl ?_|refine qer rfl rfl ?_|refine qlO rfl rfl (by kernel_rfl) ?_|(apply qp tb rfl rfl;(·(refine At.own (?_);repeat(first|exact .here|refine .there ?_)));(·exact rfl))|(apply qK tb rfl rfl;(·(refine At.own (?_);repeat(first|exact .here|refine .there ?_)));(·exact rfl))|(refine qJ rfl ?_;intro b)))|refine JI rfl rfl rfl rfl ?_|refine yB rfl rfl (fun _=>?_) (fun _=>?_)|refine qes rfl rfl (fun _=>?_) (fun _=>?_)))
 all_goals (refine qR hM hw hV0 hR (jU rfl rfl) ?_)
 all_goals (simp only[qeo];simp[*])
theorem c17{V:qc}(x y:Pg){cx cy:List Value}(hx:Pg.Is V x cx)(hy:Pg.Is V y cy):ji Tryz.prog 44 [.agg cx.toArray,.agg cy.toArray] V (.bool (qiF x y)):=by
 obtain⟨sd,cd,si,ci,ss,cS,rfl,g1,h1,g2,h2,g3,h3⟩:=hx;obtain⟨sd',cd',si',ci',ss',cS',rfl,g1',h1',g2',h2',g3',h3'⟩:=hy;have k1:=c43 (f:=99) (g:=at2 qeo x.ds y.ds) g1 g1' (QA.parts h1) (QA.parts h1') rfl (by
  rintro i c c' hi hi' ⟨x,h1,h2⟩ ⟨y,h3,h4⟩
  simp only[at2,h1,h3];exact c44 x y h2 h4)
 have k2:=c45 (f:=101) (g:=at2 ZQ x.ini.list y.ini.list) g2 g2' (Sts.parts h2) (Sts.parts h2') rfl (by
  rintro i c c' hi hi' ⟨x,h1,h2⟩ ⟨y,h3,h4⟩
  simp only[at2,h1,h3];exact c46 x y h2 h4)
 have k3:=c45 (f:=101) (g:=at2 ZQ x.step.list y.step.list) g3 g3' (Sts.parts h3) (Sts.parts h3') rfl (by
  rintro i c c' hi hi' ⟨x,h1,h2⟩ ⟨y,h3,h4⟩
  simp only[at2,h1,h3];exact c46 x y h2 h4)
 refine qT Tryz.func44 rfl Tryz.ntmps44 rfl ?_;intro X w hM hw hV0 hR;dsimp only[qZ,Nat.zero_add,Nat.reduceAdd]
 (repeat'(first|refine qq ?_|refine qa ?_|refine qo ?_|refine qe ?_|refine qO ?_|((first|refine qn rfl ?_|refine Qa rfl rfl rfl ?_);(first|refine qA tb rfl rfl k1 ?_|refine qA tb rfl rfl k2 ?_|refine qA tb rfl rfl k3 ?_|refine qh rfl ?_|refine qd rfl ?_|refine jI rfl rfl ?_|refine qY rfl rfl ?_|refine ja rfl rfl ?_|refine qb tb rfl rfl ?_|(apply qp tb rfl rfl;(·(refine At.own (?_);repeat(first|exact .here|refine .there ?_)));(·exact rfl))|(refine qJ rfl ?_;intro b)))|refine JI rfl rfl rfl rfl ?_|refine yB rfl rfl (fun _=>?_) (fun _=>?_)|refine qes rfl rfl (fun _=>?_) (fun _=>?_)))
 all_goals (refine qR hM hw hV0 hR (jU rfl rfl) ?_)
 all_goals (simp only[qiF,qep,qa1];simp[*])
end Fly
end
section
namespace Fly
open Go Go.Proofs
theorem Sl.lit{k:Nat}{V:qc}{v:Value}{cs:List Value}(h:Sl k V v cs):∃a l q,v = .slice a l q:=by
 obtain⟨a,l,q,h,_⟩:=h;exact⟨a,l,q,h⟩
theorem Ex.Is.lits{V:qc}{x:Ex}{c:List Value}(h:Ex.Is V x c):∃op p b i f nm a l q,c=[.int .u8 op,.int .i64 p,.bool b,.int .i32 i,.int .u64 f,.string nm,.slice a l q]:=by
 cases x with
 | mk op p b i f nm es=>
  simp only[Ex.Is]at h;obtain⟨sl,css,rfl,h,_⟩:=h;obtain⟨a,l,q,rfl⟩:=h.lit;exact⟨_,_,_,_,_,_,_,_,_,rfl⟩
end Fly
end
section
namespace Fly
open Go
structure qV where
 itoa:Int→List UInt8
 flt:Int→List UInt8
def opE:Ex→Int
 | .mk op _ _ _ _ _ _=>op
def yU(o:Int):Bool:=decide (5≤o)&&decide (o≤16)
def ZC(o:Int):List UInt8 :=
 if o=5 then[43]else if o=6 then[45]else if o=7 then[42]else if o=8 then[47]else if o=9 then[60]else if o=10 then[60,61]else if o=11 then[61,61]else if o=12 then[33,61]
 else if o=13 then[62]else if o=14 then[62,61]else if o=15 then[38,38]else[124,124]
def Jh(ts:List (Int×List UInt8))(i:Nat):List UInt8 :=
 match ts[i]? with
 | some p=>p.2
 | none=>[]
def j0(ts:List (Int×List UInt8))(i:Nat):List UInt8 :=
 match ts[i]? with
 | some p=>if yU p.1 then[40]++p.2++[41]else p.2
 | none=>[]
def qgr(nm:List UInt8)(ts:List (Int×List UInt8)):List UInt8:=if ts.length=0 then nm else nm++[91]++Jh ts 0++[93]
mutual
def jJ(l:qV):Ex→List UInt8
 | .mk op _ b i f nm es=>
  if yU op then j0 (textEs l es) 0++([32]++ZC op++[32])++j0 (textEs l es) 1
  else if op=1 then(if b then[116,114,117,101]else[102,97,108,115,101])
  else if op=2 then l.itoa i
  else if op=3 then l.flt f
  else if op=4 then qgr nm.data.toList (textEs l es)
  else if op=17 then[45]++j0 (textEs l es) 0
  else if op=18 then[33]++j0 (textEs l es) 0
  else if op=19 then[105,110,116,40]++Jh (textEs l es) 0++[41]
  else if op=20 then[102,108,111,97,116,40]++Jh (textEs l es) 0++[41]
  else if op=21 then[97,98,115,40]++Jh (textEs l es) 0++[41]
  else[]
def textEs(l:qV):Exs→List (Int×List UInt8)
 | .nil=>[]
 | .cons e r=>(opE e,jJ l e)::textEs l r
end
theorem Yb(l:qV):∀(es:Exs) (i:Nat),(textEs l es)[i]?=(es.list[i]?).map fun x=>(opE x,jJ l x)
 | .nil,i=>by simp[textEs,Exs.list]
 | .cons e r,0=>by simp[textEs,Exs.list]
 | .cons e r,i+1=>by simp[textEs,Exs.list,Yb l r i]
theorem Ji(l:qV):∀es:Exs,(textEs l es).length=es.list.length
 | .nil=>rfl
 | .cons e r=>by simp[textEs,Exs.list,Ji l r]
theorem QL{l:qV}{es:Exs}{i:Nat}{x:Ex}(h:es.list[i]?=some x):Jh (textEs l es) i=jJ l x:=by simp[Jh,Yb,h]
theorem JT{l:qV}{es:Exs}{i:Nat}(h:es.list[i]?=none):Jh (textEs l es) i=[]:=by simp[Jh,Yb,h]
theorem qbf{l:qV}{es:Exs}{i:Nat}{x:Ex}(h:es.list[i]?=some x):j0 (textEs l es) i=if yU (opE x)then[40]++jJ l x++[41]else jJ l x:=by simp[j0,Yb,h]
theorem qbg{l:qV}{es:Exs}{i:Nat}(h:es.list[i]?=none):j0 (textEs l es) i=[]:=by simp[j0,Yb,h]
end Fly
end
section
namespace Fly
open Go
def QO(n:Nat):List UInt8:=List.replicate n 9
theorem Yc(n:Nat):(QO n).length=n:=WO
def qjo(ts:List (Int×List UInt8)):List UInt8:=if ts.length=0 then[]else[91]++Jh ts 0++[93]
mutual
def yF(l:qV)(n:Nat):St_→List UInt8
 | .mk kd _ nm ix ex lo hi tn el=>
  if kd=1 then QO n++nm.data.toList++qjo (textEs l ix)++([32,61,32]++jJ l ex++[59])++[10]
  else if kd=2 then QO n++([105,102,32]++jJ l ex)++([32,123,10]++textSs l (n+1) tn++(QO n++[125]))++(if el.list.length=0 then[]else[32,101,108,115,101]++([32,123,10]++textSs l (n+1) el++(QO n++[125])))++[10]
  else if kd=3 then QO n++([102,111,114,32]++nm.data.toList++[32,61,32]++l.itoa lo++[32,46,46,32]++l.itoa hi)++([32,123,10]++textSs l (n+1) tn++(QO n++[125]))++[10]
  else[]
def textSs(l:qV)(n:Nat):Sts→List UInt8
 | .nil=>[]
 | .cons s r=>yF l n s++textSs l n r
end
def Jy(l:qV)(n:Nat)(es:Sts):List UInt8:=[32,123,10]++textSs l (n+1) es++(QO n++[125])
theorem Yz(l:qV)(n:Nat):∀es:Sts,textSs l n es=(es.list.map (yF l n)).flatten
 | .nil=>rfl
 | .cons s r=>by simp[textSs,Sts.list,Yz l n r]
def qbZ(t:Int):List UInt8:=if t=1 then[98,111,111,108]else if t=2 then[105,110,116]else if t=3 then[102,108,111,97,116]else[]
def qaP(l:qV)(d:Dc):List UInt8 :=
 ((if d.inp then[105,110,112,117,116,32]else[118,97,114,32])++d.nm.data.toList++[58,32]++qbZ d.ty)++(if 0<d.len then[91]++l.itoa d.len++[93]else[]) ++
   (if d.rng then[32,105,110,32,91]++jJ l d.lo++[44,32]++jJ l d.hi++[93]else[])++[59,10]
def yg(l:qV)(ds:List Dc):List UInt8:=(ds.map (qaP l)).flatten
def Yd(l:qV)(p:Pg):List UInt8 :=
 ([116,105,99,107,115,32]++l.itoa p.ticks++[59,10])++yg l p.ds++[105,110,105,116]++Jy l 0 p.ini++[10,115,116,101,112]++Jy l 0 p.step++[10]
mutual
def wE:Ex→Nat
 | .mk _ _ _ _ _ nm al=>1+nm.size+wEs al
def wEs:Exs→Nat
 | .nil=>0
 | .cons e r=>wE e+wEs r
end
mutual
def wS:St_→Nat
 | .mk _ _ nm ix ex _ _ tn el=>1+nm.size+wEs ix+wE ex+wSs tn+wSs el
def wSs:Sts→Nat
 | .nil=>0
 | .cons s r=>wS s+wSs r
end
def wD(d:Dc):Nat:=1+d.nm.size+wE d.lo+wE d.hi
def wDs:List Dc→Nat
 | []=>0
 | d::r=>wD d+wDs r
def wP(p:Pg):Nat:=wDs p.ds+wSs p.ini+wSs p.step
structure LeafLen (l:qV):Prop where
 i:∀z,(l.itoa z).length≤30
 f:∀z,(l.flt z).length≤2000010
def wTs(ts:List (Int×List UInt8)):Nat:=(ts.map fun p=>p.2.length+2).sum
theorem qhP:∀(ts:List (Int×List UInt8)) (i:Nat),(Jh ts i).length≤wTs ts
 | [],i=>by simp[Jh]
 | p::r,0=>by simp only[Jh,Vp,wTs,KH,WI];omega
 | p::r,i+1=>by
  have:=qhP r i
  simp only[Jh,K8,wTs,KH,WI]at this ⊢;omega
theorem qeW:∀(ts:List (Int×List UInt8)) (i:Nat),(j0 ts i).length≤wTs ts
 | [],i=>by simp[j0]
 | p::r,0=>by
  simp only[j0,Vp,wTs,KH,WI];split <;> (try simp only[zb,zf,zk]) <;> omega
 | p::r,i+1=>by
  have:=qeW r i
  simp only[j0,K8,wTs,KH,WI]at this ⊢;omega
theorem qnX:∀(ts:List (Int×List UInt8)),(j0 ts 0).length+(j0 ts 1).length≤wTs ts
 | []=>by simp[j0]
 | p::r=>by
  have h1:=qeW r 0
  have h0:(j0 (p::r) 0).length≤p.2.length+2:=by
   simp only[j0,Vp];split <;> (try simp only[zb,zf,zk]) <;> omega
  have h2:j0 (p::r) 1=j0 r 0:=by simp only[j0,K8]
  rw[h2];simp only[wTs,KH,WI]at h1 ⊢;omega
theorem qjp(o:Int):(ZC o).length≤2:=by
 unfold ZC
 repeat' split
 all_goals simp
mutual
theorem Ye{l:qV}(hl:LeafLen l):∀x:Ex,(jJ l x).length+2≤2000064*wE x
 | .mk op p b i f nm es=>by
  have h:=textEs_le hl es;have h1:=qhP (textEs l es) 0
  have h2:=qeW (textEs l es) 0
  have h3:=qnX (textEs l es)
  have h4:=qjp op;have h5:=hl.i i;have h6:=hl.f f;have hn:nm.data.toList.length=nm.size:=by rw[Ks];rfl
  simp only[jJ,wE]
  repeat' split
  all_goals first
   | omega
   | (simp only[zb,zf,zk];omega)
   | (unfold qgr;split <;> (try simp only[zb,zf,zk]) <;> omega)
theorem textEs_le{l:qV}(hl:LeafLen l):∀x:Exs,wTs (textEs l x)≤2000064*wEs x
 | .nil=>by simp[textEs,wTs]
 | .cons e r=>by
  have h1:=Ye hl e;have h2:=textEs_le hl r;simp only[textEs,wTs,wEs,KH,WI]at h2 ⊢;omega
end
mutual
theorem qqh{l:qV}(hl:LeafLen l)(M:Nat):∀(x:St_) (n:Nat),n+wS x≤M→(yF l n x).length≤(2000400+3*M)*wS x
 | .mk kd p nm ix ex lo hi tn el,n,h=>by
  simp only[wS]at h;have h1:=textSs_le hl M tn (n+1) (by omega)
  have h2:=textSs_le hl M el (n+1) (by omega)
  have h3:=Ye hl ex;have h4:=textEs_le hl ix;have h5:=qhP (textEs l ix) 0
  have h6:=hl.i lo;have h7:=hl.i hi;have h8:=Yc n;have hn:nm.data.toList.length=nm.size:=by rw[Ks];rfl
  have e:(2000400+3*M)*wS (.mk kd p nm ix ex lo hi tn el)=(2000400+3*M)+(2000400+3*M)*nm.size+(2000400+3*M)*wEs ix+(2000400+3*M)*wE ex+(2000400+3*M)*wSs tn+(2000400+3*M)*wSs el:=by
   simp only[wS,KB,KK]
  have m1:nm.size≤(2000400+3*M)*nm.size:=Nat.le_mul_of_pos_left _ (by omega)
  have m2:2000064*wEs ix≤(2000400+3*M)*wEs ix:=zG _ (by omega)
  have m3:2000064*wE ex≤(2000400+3*M)*wE ex:=zG _ (by omega)
  rw[e];generalize (2000400+3*M)*nm.size=a1 at *
  generalize (2000400+3*M)*wEs ix=a2 at *
  generalize (2000400+3*M)*wE ex=a3 at *
  generalize (2000400+3*M)*wSs tn=a4 at *
  generalize (2000400+3*M)*wSs el=a5 at *
  simp only[yF];split
  · unfold qjo
    split <;> simp only[zb,zf,zk] <;> omega
  · split
    · split <;> simp only[zb,zf,zk] <;> omega
    · split
      · simp only[zb,zf,zk];omega
      · simp
theorem textSs_le{l:qV}(hl:LeafLen l)(M:Nat):∀(x:Sts) (n:Nat),n+wSs x≤M→(textSs l n x).length≤(2000400+3*M)*wSs x
 | .nil,n,_=>by simp[textSs]
 | .cons s r,n,h=>by
  simp only[wSs]at h;have h1:=qqh hl M s n (by omega)
  have h2:=textSs_le hl M r n (by omega)
  simp only[textSs,wSs,zb,KB];omega
end
theorem qjq{l:qV}(hl:LeafLen l)(es:Sts)(h:wSs es≤10000):(Jy l 0 es).length≤30000000000:=by
 have h1:=textSs_le hl 10001 es (0+1) (by omega)
 have h2:(2000400+3*10001)*wSs es≤(2000400+3*10001)*10000:=z8 _ h
 have h8:=Yc 0
 simp only[Jy,zb,zf,zk];omega
theorem qqi(t:Int):(qbZ t).length≤5:=by
 unfold qbZ
 repeat' split
 all_goals simp
theorem qqj{l:qV}(hl:LeafLen l)(d:Dc):(qaP l d).length≤6001000*wD d:=by
 have h1:=Ye hl d.lo;have h2:=Ye hl d.hi;have h3:=hl.i d.len;have h4:=qqi d.ty;have hn:d.nm.data.toList.length=d.nm.size:=by rw[Ks];rfl
 simp only[qaP,wD]
 repeat' split
 all_goals (simp only[zb,zf,zk];omega)
theorem qgs{l:qV}(hl:LeafLen l):∀ds:List Dc,(yg l ds).length≤6001000*wDs ds
 | []=>by simp[yg]
 | d::r=>by
  have h1:=qqj hl d;have h2:=qgs hl r;unfold yg at h2 ⊢
  simp only[KH,Wc,zb,wDs];omega
theorem qgt{l:qV}(hl:LeafLen l)(p:Pg)(h:wP p≤10000):(Yd l p).length≤200000000000:=by
 unfold wP at h;have h1:=qgs hl p.ds;have h2:=qjq hl p.ini (by omega)
 have h3:=qjq hl p.step (by omega)
 have h4:=hl.i p.ticks;simp only[Yd,zb,zf,zk];omega
end Fly
end
section
namespace Fly
open Go
mutual
def QP:Ex→List Int
 | .mk op _ _ _ f _ al=>(if op=3 then[f]else[])++floEs al
def floEs:Exs→List Int
 | .nil=>[]
 | .cons e r=>QP e++floEs r
end
mutual
def ZJ:St_→List Int
 | .mk _ _ _ ix ex _ _ tn el=>floEs ix++QP ex++floSs tn++floSs el
def floSs:Sts→List Int
 | .nil=>[]
 | .cons s r=>ZJ s++floSs r
end
def Y2:List Dc→List Int
 | []=>[]
 | d::r=>QP d.lo++QP d.hi++Y2 r
def qeX(p:Pg):List Int:=Y2 p.ds++floSs p.ini++floSs p.step
mutual
theorem Zo:∀x:Ex,(QP x).length≤wE x
 | .mk op _ _ _ f nm al=>by
  have:=floEs_le al
  simp only[QP,wE,zb];split <;> simp only[zf,zk] <;> omega
theorem floEs_le:∀x:Exs,(floEs x).length≤wEs x
 | .nil=>by simp[floEs]
 | .cons e r=>by
  have h1:=Zo e;have h2:=floEs_le r;simp only[floEs,wEs,zb];omega
end
mutual
theorem qtT:∀x:St_,(ZJ x).length≤wS x
 | .mk _ _ nm ix ex _ _ tn el=>by
  have h1:=floEs_le ix;have h2:=Zo ex;have h3:=floSs_le tn;have h4:=floSs_le el;simp only[ZJ,wS,zb];omega
theorem floSs_le:∀x:Sts,(floSs x).length≤wSs x
 | .nil=>by simp[floSs]
 | .cons e r=>by
  have h1:=qtT e;have h2:=floSs_le r;simp only[floSs,wSs,zb];omega
end
theorem qeY:∀ds:List Dc,(Y2 ds).length≤wDs ds
 | []=>by simp[Y2]
 | d::r=>by
  have h1:=Zo d.lo;have h2:=Zo d.hi;have h3:=qeY r;simp only[Y2,wDs,wD,zb];omega
theorem qtU(p:Pg):(qeX p).length≤wP p:=by
 have h1:=qeY p.ds;have h2:=floSs_le p.ini;have h3:=floSs_le p.step;simp only[qeX,wP,zb];omega
theorem Zp:∀es:Exs,floEs es=(es.list.map QP).flatten
 | .nil=>rfl
 | .cons s r=>by simp[floEs,Exs.list,Zp r]
theorem qbh:∀es:Sts,floSs es=(es.list.map ZJ).flatten
 | .nil=>rfl
 | .cons s r=>by simp[floSs,Sts.list,qbh r]
theorem qbi:∀ds:List Dc,Y2 ds=(ds.map fun d=>QP d.lo++QP d.hi).flatten
 | []=>rfl
 | d::r=>by simp[Y2,qbi r]
def Y3{α:Type}(f:α→List Int)(l:List α)(i:Nat):List Int:=((l.take i).map f).flatten
theorem qgu{α:Type}(f:α→List Int)(l:List α):Y3 f l 0=[]:=rfl
theorem qaB{α:Type}{f:α→List Int}{l:List α}{i:Nat}{x:α}(h:l[i]?=some x):Y3 f l (i+1)=Y3 f l i++f x:=by
 unfold Y3;rw[VO,h];simp
theorem qb0{α:Type}(f:α→List Int)(l:List α){i:Nat}(h:l.length≤i):Y3 f l i=(l.map f).flatten:=by
 unfold Y3;rw[zP h]
theorem qhQ{α:Type}(f:α→List Int)(l:List α)(i:Nat):(Y3 f l i).length≤((l.map f).flatten).length:=by
 have:(l.map f).flatten=Y3 f l i++((l.drop i).map f).flatten:=by
  unfold Y3;rw[← Wy,← Kr,Kw]
 rw[this,zb];omega
end Fly
end
section
namespace Su
open Go Fly
def bs(l:List UInt8):ByteArray:=⟨l.toArray⟩
def lb(b:ByteArray):List UInt8:=b.data.toList
theorem qdd(b:ByteArray):bs (lb b)=b:=by
 apply ByteArray.ext
 show b.data.toList.toArray=b.data
 exact Vq
theorem qgv(l:List UInt8):lb (bs l)=l:=rfl
theorem jB(l:List UInt8):(bs l).size=l.length:=by
 show l.toArray.size=_
 simp
theorem qwP(l:List UInt8)(i:Nat):(bs l)[i]?=l[i]?:=by
 by_cases h:i<l.length
 · rw[zA h,getElem?_pos (bs l) i (by rw[jB];exact h)]
   rfl
 · rw[Kk (by omega),getElem?_neg (bs l) i (by rw[jB];exact h)]
theorem qqk(l:List UInt8)(a b:Nat):(bs l).extract a b=bs ((l.drop a).take (b-a)):=by
 apply ByteArray.ext
 rw[ByteArray.data_extract];apply Array.toList_inj.1
 simp[bs,List.extract_eq_take_drop]
theorem QY(l m:List UInt8):bs l++bs m=bs (l++m):=by
 apply ByteArray.ext
 rw[ByteArray.data_append];simp[bs]
theorem qql{l m:List UInt8}:bs l=bs m↔l=m:=⟨fun h=>by
 have:=congrArg lb h
 exact this,fun h=>by rw[h]⟩
theorem qgw(l:List UInt8):ByteArray.mk (List.toArray l)=bs l:=rfl
theorem qwQ(l:List Int):byI l=bs (l.map fun n=>UInt8.ofNat n.toNat):=rfl
theorem onB{P:ByteArray→Prop}(h:∀l,P (bs l))(b:ByteArray):P b:=by rw[← qdd b];exact h _
theorem qwR(l m:List UInt8):decide (bs l=bs m)=decide (l=m):=by
 by_cases h:l=m
 · rw[zh h,zh (qql.2 h)]
 · rw[zq h,zq (fun e=>h (qql.1 e))]
def yG(c:UInt8)(l:List UInt8):List UInt8:=(l.reverse.dropWhile (·== c)).reverse
theorem QH(c x:UInt8)(l:List UInt8):yG c (l++[x])=bif x == c then yG c l else l++[x]:=by
 unfold yG;rw[List.reverse_append,List.reverse_singleton,WM,List.dropWhile_cons];cases h:x == c <;> simp
def dgT:Nat→Nat→List UInt8
 | 0,n=>[UInt8.ofNat (48+n % 10)]
 | f+1,n=>bif Nat.blt n 10 then[UInt8.ofNat (48+n)]else dgT f (n / 10)++[UInt8.ofNat (48+n % 10)]
def dg(n:Nat):List UInt8:=dgT n n
theorem qqm:∀(f g n:Nat),n≤f→n≤g→dgT f n=dgT g n
 | 0,0,_,_,_=>rfl
 | 0,g+1,n,h,_=>by
  have:n=0:=by omega
  subst this;rfl
 | f+1,0,n,_,h=>by
  have:n=0:=by omega
  subst this;rfl
 | f+1,g+1,n,h1,h2=>by
  unfold dgT;cases h:Nat.blt n 10 with
  | true=>rfl
  | false=>
   rw[zo,zo,qqm f g (n / 10) (by omega) (by omega)]
theorem ZD{n:Nat}(h:n<10):dg n=[UInt8.ofNat (48+n)]:=by
 unfold dg;cases n with
 | zero=>rfl
 | succ n=>
  unfold dgT;rw[show Nat.blt (n+1) 10=true by rw[VY];exact h,zg]
theorem qb1{n:Nat}(h:10≤n):dg n=dg (n / 10)++[UInt8.ofNat (48+n % 10)]:=by
 obtain⟨m,rfl⟩:∃m,n=m+1:=⟨n-1,by omega⟩
 have hb:Nat.blt (m+1) 10=false:=by
  cases hb:Nat.blt (m+1) 10 with
  | false=>rfl
  | true=>rw[VY]at hb;omega
 have e:dgT (m+1) (m+1)=dgT m ((m+1) / 10)++[UInt8.ofNat (48+(m+1) % 10)]:=by
  rw[dgT,hb,zo]
 unfold dg;rw[e,qqm m _ _ (by omega) (zI _)]
def dv(l:List UInt8):Nat:=l.foldl (fun n c=>n*10+(c.toNat-48)) 0
theorem qhR{n:Nat}(h:n<10):(UInt8.ofNat (48+n)).toNat=48+n:=by
 rw[UInt8.toNat_ofNat'];omega
theorem qvo(n:Nat):dg n≠[]:=by
 by_cases h:n<10
 · rw[ZD h];simp
 · rw[qb1 (by omega)];simp
def qeZ(c:UInt8):List UInt8→Int
 | []=>-1
 | b::l=>bif b == c then 0 else bif decide (qeZ c l = -1)then -1 else qeZ c l+1
def qqn(p:ByteArray×Int):Option Int:=some (qeZ (UInt8.ofNat p.2.toNat) (lb p.1))
theorem qmf(c:UInt8):∀l,-1≤qeZ c l∧qeZ c l<(l.length:Int)
 | []=>⟨Int.le_refl _,by show(-1:Int)<0;omega⟩
 | b::l=>by
  obtain⟨h1,h2⟩:=qmf c l;unfold qeZ;rw[zf];cases b == c with
  | true=>exact⟨by simp only[zg];omega,by simp only[zg];omega⟩
  | false=>
   simp only[zo];by_cases h:qeZ c l = -1
   · rw[zh h];exact⟨by simp only[zg];omega,by simp only[zg];omega⟩
   · rw[zq h];exact⟨by simp only[zo];omega,by simp only[zo];omega⟩
def itT(n:Int):List UInt8:=bif decide (n<0)then 45::dg n.natAbs else dg n.toNat
def qgx(n:Int):Option ByteArray:=bif decide (-1000000≤n)&&decide (n≤1000000)then some (bs (itT n))else none
theorem qhS{n:Int}(h : -1000000≤n)(h2:n≤1000000):(itT n).length≤1000002:=by
 have key:∀m,(dg m).length≤m+1:=by
  intro m;induction m using Nat.strongRecOn with
  | ind m ih=>
   by_cases h:m<10
   · rw[ZD h];simp
   · rw[qb1 (by omega)]
     have:=ih (m / 10) (by omega)
     simp;omega
 unfold itT;have k1:=key n.natAbs;have k2:=key n.toNat;cases decide (n<0) <;> simp <;> omega
end Su
end
section
namespace Fly
open Go Su
theorem r32{z:Int}(h:inR .i32 z=true) : -2147483648≤z∧z≤2147483647:=by
 obtain⟨h0,h1⟩:=qtO.1 h;exact⟨h0,by omega⟩
theorem qgy{z:Int}(h:inR .i32 z=true):inR .i64 z=true:=by
 obtain⟨h0,h1⟩:=r32 h;exact QX.2 ⟨by omega,by omega⟩
mutual
def qe0:Ex→Prop
 | .mk _ _ _ i f _ al=>(inR .i32 i=true∧inR .u64 f=true)∧RngEs al
def RngEs:Exs→Prop
 | .nil=>True
 | .cons e r=>qe0 e∧RngEs r
end
mutual
def qjr:St_→Prop
 | .mk _ _ _ ix ex lo hi tn el=>RngEs ix∧qe0 ex∧inR .i32 lo=true∧inR .i32 hi=true∧RngSs tn∧RngSs el
def RngSs:Sts→Prop
 | .nil=>True
 | .cons e r=>qjr e∧RngSs r
end
def qtV(d:Dc):Prop:=inR .i64 d.len=true∧qe0 d.lo∧qe0 d.hi
def qnY(p:Pg):Prop:=inR .i64 p.ticks=true∧(∀d∈p.ds,qtV d)∧RngSs p.ini∧RngSs p.step
theorem qe1:∀ {es:Exs} {x:Ex},x∈es.list→RngEs es→qe0 x
 | .nil,x,hm,_=>by simp[Exs.list]at hm
 | .cons e r,x,hm,h=>by
  rcases zK.1 hm with h1|h1
  · rw[h1];exact h.1
  · exact qe1 h1 h.2
theorem qe2:∀ {es:Sts} {x:St_},x∈es.list→RngSs es→qjr x
 | .nil,x,hm,_=>by simp[Sts.list]at hm
 | .cons e r,x,hm,h=>by
  rcases zK.1 hm with h1|h1
  · rw[h1];exact h.1
  · exact qe2 h1 h.2
theorem qe3:∀ {es:Exs} {x:Ex},x∈es.list→∀ {f:Int},f∈QP x→f∈floEs es
 | .nil,x,hm,_,_=>by simp[Exs.list]at hm
 | .cons e r,x,hm,f,h=>by
  rcases zK.1 hm with h1|h1
  · rw[h1]at h;simp only[floEs,zS];exact .inl h
  · simp only[floEs,zS];exact .inr (qe3 h1 h)
theorem qe4:∀ {es:Sts} {x:St_},x∈es.list→∀ {f:Int},f∈ZJ x→f∈floSs es
 | .nil,x,hm,_,_=>by simp[Sts.list]at hm
 | .cons e r,x,hm,f,h=>by
  rcases zK.1 hm with h1|h1
  · rw[h1]at h;simp only[floSs,zS];exact .inl h
  · simp only[floSs,zS];exact .inr (qe4 h1 h)
theorem qe5:∀ {ds:List Dc} {d:Dc},d∈ds→∀ {f:Int},f∈QP d.lo∨f∈QP d.hi→f∈Y2 ds
 | [],d,hm,_,_=>by simp at hm
 | e::r,d,hm,f,h=>by
  rcases zK.1 hm with h1|h1
  · rw[h1]at h
    simp only[Y2,zS];exact .inl h
  · simp only[Y2,zS];exact .inr (qe5 h1 h)
end Fly
end
