/-
  A small logic of walks: judgements, operations, regions, loops, calls. No condition.
-/
import Derived.Test.YtldhknmacepeiaaGreatDoorSuTb
import Derived.Test.YtldhknmacepeiaaGreatDoorTr1
import Derived.Laws.Externs
set_option linter.unusedVariables false
set_option linter.unusedSimpArgs false
section
namespace Fly
set_option maxRecDepth 100000
open Go Go.Proofs
noncomputable def tb:Tabs Tryz.prog:=Su.qlH.sound.tb
theorem mo:Tryz.prog.follows .mixedOrders=true:=by kernel_rfl
end Fly
end
section
namespace Fly
open Go Go.Proofs
set_option maxRecDepth 10000
attribute [local irreducible] WC WE WR Opr St Go.Calls Js QE Qj Owe One QS
theorem c47{V:qa}{sx sy:Value}{cx cy:List Value}{m m' f:Nat}{Ix Iy:Nat→List Value→Prop}{g:Nat→Bool}(hsx:Sl 7 V sx cx)(hsy:Sl 7 V sy cy)(hx:Jh 7 cx m Ix)(hy:Jh 7 cy m' Iy)(hg:tb.go f=true)
 (hf:∀i c c',i<m→i<m'→Ix i c→Iy i c'→jC Tryz.prog f [.agg c.toArray,.agg c'.toArray] V (.bool (g i))):jC Tryz.prog 136 [sx,sy,.func (.func f) #[] #[]] V (.bool (JD m m' g)):=by
 refine jk Tryz.func136 rfl Tryz.ntmps136 rfl ?_;intro X w hM hw hV0 hR;dsimp only[je,Nat.zero_add,Nat.reduceAdd]
 (repeat' (first | refine qq ?_ | refine qc ?_ | refine qo ?_ | refine qh ?_ | refine qz ?_ | refine qG ?_ | refine qT ?_ | ((refine qn rfl ?_);(first | (refine jE tb rfl hsx rfl rfl hx.1 (by decide) ?_) | (refine jE tb rfl hsy rfl rfl hy.1 (by decide) ?_) | refine qk rfl ?_ | refine qm rfl ?_ | refine Y3 rfl rfl ?_)) | refine ZC rfl (fun _=>?_) (fun _=>?_)))
 · (refine qY hM hw hV0 hR (yy rfl rfl) ?_)
   rw[qg5];intro h;subst h;contradiction
 · rename_i he
   obtain rfl:m=m':=by omega
   refine yL (fun L' V' G' μ=>∃i:Nat,i≤m∧μ=m-i∧Sub V V'∧G'=[]∧L'=[(15,.int .i64 i),(14,.int .i64 m),(0,sx),(1,sy),(2,.func (.func f) #[] #[])]∧∀j,j<i→g j=true) (G0:=[]) (m0:=m) (by repeat (first | exact SubL.nil | refine SubL.cons rfl ?_)) (Vu _) ⟨0,by omega,by omega,Sub.refl _,rfl,rfl,fun j hj=>by omega⟩ ?_
   rintro L' V' G' μ ⟨i,hi,hμ,hVs,hGe,hLe,hall⟩
   subst hGe hLe
   replace hsx:=hsx.mono hVs
   replace hsy:=hsy.mono hVs
   (repeat' (first | refine qq ?_ | refine qc ?_ | refine qo ?_ | refine qh ?_ | refine qz ?_ | refine qG ?_ | refine jm ?_ | refine qF ?_ | refine qD ?_ | refine qP ?_ | refine qT ?_ | ((refine qn rfl ?_);(first | refine qk rfl ?_ | refine qm rfl ?_ | refine jx rfl rfl ?_)) | refine jW rfl (fun _=>?_) (fun _=>?_)))
   · rename_i hlt
     obtain⟨ax,lx,qx,rfl,hq1,hq2,hlx,hpx⟩:=hsx;obtain⟨ay,ly,qy,rfl,_,_,hly,hpy⟩:=hsy;have hxl:=hx.1;have hyl:=hy.1;have hlx':lx=m:=by omega
     have hly':ly=m:=by omega
     subst hlx';have hbig:lx≤9223372036854775807:=by unfold maxLen at hq2;omega
     obtain⟨bx,ox,rfl,hrx⟩:=hpx.resolve_left (by omega)
     obtain⟨bY,oY,rfl,hry⟩:=hpy.resolve_left (by omega)
     obtain⟨c,hc1,hc2,hc3⟩:=hx.rd hrx (i:=i) (by omega)
     obtain⟨c',hc1',hc2',hc3'⟩:=hy.rd hry (i:=i) (by omega)
     (refine j9 9 mo rfl (by kernel_rfl) rfl ?_;(repeat (apply Prog.step (yE _) (qH _) rfl rfl;· (intro V1 F1 hs1;(repeat (first | refine qX ?_ | refine qW ?_));refine qZ ?_;(first | (refine qV tb rfl rfl rfl (by omega) (by omega) ?_) | (refine Q3 tb rfl rfl hc1 (by decide) hc3 (by assumption) ?_) | (refine Q3 tb rfl rfl hc1' (by decide) hc3' (by assumption) ?_) | refine qk rfl ?_);exact jh)));refine Prog.done ?_;intro V1 hs1;repeat (first | refine yc ?_ | refine yd ?_))
     (repeat' (first | refine qq ?_ | refine qc ?_ | refine qo ?_ | refine qh ?_ | refine qG ?_ | refine jg ?_ | refine qT ?_ | ((refine qn rfl ?_);(first | (refine qef tb rfl rfl hg ((hf i c c' (by omega) (by omega) hc2 hc2').mono (hVs.trans hs1)) ?_) | refine qk rfl ?_ | refine qm rfl ?_ | refine Qe rfl ?_ | refine jD rfl rfl (by omega) (by omega) ?_)) | refine Yk rfl (fun _=>?_) (fun _=>?_)))
     · rename_i hgi
       (refine qY hM hw hV0 hR (yy rfl rfl) ?_)
       rw[qaW (by omega) hgi]
     · rename_i hgi
       exact yo (by repeat (first | exact SubL.nil | refine SubL.cons rfl ?_)) (Vu _) ⟨i+1,by omega,rfl,hVs.trans hs1,rfl,rfl,fun j hj=>if h:j=i then h ▸ hgi else hall j (by omega)⟩ (by omega)
   · (refine qY hM hw hV0 hR (yy rfl rfl) ?_)
     rw[qcu rfl (fun j hj=>hall j (by omega))]
theorem c45{V:qa}{sx sy:Value}{cx cy:List Value}{m m' f:Nat}{Ix Iy:Nat→List Value→Prop}{g:Nat→Bool}(hsx:Sl 15 V sx cx)(hsy:Sl 15 V sy cy)(hx:Jh 15 cx m Ix)(hy:Jh 15 cy m' Iy)(hg:tb.go f=true)
 (hf:∀i c c',i<m→i<m'→Ix i c→Iy i c'→jC Tryz.prog f [.agg c.toArray,.agg c'.toArray] V (.bool (g i))):jC Tryz.prog 100 [sx,sy,.func (.func f) #[] #[]] V (.bool (JD m m' g)):=by
 refine jk Tryz.func100 rfl Tryz.ntmps100 rfl ?_;intro X w hM hw hV0 hR;dsimp only[je,Nat.zero_add,Nat.reduceAdd]
 (repeat' (first | refine qq ?_ | refine qc ?_ | refine qo ?_ | refine qh ?_ | refine qz ?_ | refine qG ?_ | refine qT ?_ | ((refine qn rfl ?_);(first | (refine jE tb rfl hsx rfl rfl hx.1 (by decide) ?_) | (refine jE tb rfl hsy rfl rfl hy.1 (by decide) ?_) | refine qk rfl ?_ | refine qm rfl ?_ | refine Y3 rfl rfl ?_)) | refine ZC rfl (fun _=>?_) (fun _=>?_)))
 · (refine qY hM hw hV0 hR (yy rfl rfl) ?_)
   rw[qg5];intro h;subst h;contradiction
 · rename_i he
   obtain rfl:m=m':=by omega
   refine yL (fun L' V' G' μ=>∃i:Nat,i≤m∧μ=m-i∧Sub V V'∧G'=[]∧L'=[(15,.int .i64 i),(14,.int .i64 m),(0,sx),(1,sy),(2,.func (.func f) #[] #[])]∧∀j,j<i→g j=true) (G0:=[]) (m0:=m) (by repeat (first | exact SubL.nil | refine SubL.cons rfl ?_)) (Vu _) ⟨0,by omega,by omega,Sub.refl _,rfl,rfl,fun j hj=>by omega⟩ ?_
   rintro L' V' G' μ ⟨i,hi,hμ,hVs,hGe,hLe,hall⟩
   subst hGe hLe
   replace hsx:=hsx.mono hVs
   replace hsy:=hsy.mono hVs
   (repeat' (first | refine qq ?_ | refine qc ?_ | refine qo ?_ | refine qh ?_ | refine qz ?_ | refine qG ?_ | refine jm ?_ | refine qF ?_ | refine qD ?_ | refine qP ?_ | refine qT ?_ | ((refine qn rfl ?_);(first | refine qk rfl ?_ | refine qm rfl ?_ | refine jx rfl rfl ?_)) | refine jW rfl (fun _=>?_) (fun _=>?_)))
   · rename_i hlt
     obtain⟨ax,lx,qx,rfl,hq1,hq2,hlx,hpx⟩:=hsx;obtain⟨ay,ly,qy,rfl,_,_,hly,hpy⟩:=hsy;have hxl:=hx.1;have hyl:=hy.1;have hlx':lx=m:=by omega
     have hly':ly=m:=by omega
     subst hlx';have hbig:lx≤9223372036854775807:=by unfold maxLen at hq2;omega
     obtain⟨bx,ox,rfl,hrx⟩:=hpx.resolve_left (by omega)
     obtain⟨bY,oY,rfl,hry⟩:=hpy.resolve_left (by omega)
     obtain⟨c,hc1,hc2,hc3⟩:=hx.rd hrx (i:=i) (by omega)
     obtain⟨c',hc1',hc2',hc3'⟩:=hy.rd hry (i:=i) (by omega)
     (refine j9 9 mo rfl (by kernel_rfl) rfl ?_;(repeat (apply Prog.step (yE _) (qH _) rfl rfl;· (intro V1 F1 hs1;(repeat (first | refine qX ?_ | refine qW ?_));refine qZ ?_;(first | (refine qV tb rfl rfl rfl (by omega) (by omega) ?_) | (refine Q3 tb rfl rfl hc1 (by decide) hc3 (by assumption) ?_) | (refine Q3 tb rfl rfl hc1' (by decide) hc3' (by assumption) ?_) | refine qk rfl ?_);exact jh)));refine Prog.done ?_;intro V1 hs1;repeat (first | refine yc ?_ | refine yd ?_))
     (repeat' (first | refine qq ?_ | refine qc ?_ | refine qo ?_ | refine qh ?_ | refine qG ?_ | refine jg ?_ | refine qT ?_ | ((refine qn rfl ?_);(first | (refine qef tb rfl rfl hg ((hf i c c' (by omega) (by omega) hc2 hc2').mono (hVs.trans hs1)) ?_) | refine qk rfl ?_ | refine qm rfl ?_ | refine Qe rfl ?_ | refine jD rfl rfl (by omega) (by omega) ?_)) | refine Yk rfl (fun _=>?_) (fun _=>?_)))
     · rename_i hgi
       (refine qY hM hw hV0 hR (yy rfl rfl) ?_)
       rw[qaW (by omega) hgi]
     · rename_i hgi
       exact yo (by repeat (first | exact SubL.nil | refine SubL.cons rfl ?_)) (Vu _) ⟨i+1,by omega,rfl,hVs.trans hs1,rfl,rfl,fun j hj=>if h:j=i then h ▸ hgi else hall j (by omega)⟩ (by omega)
   · (refine qY hM hw hV0 hR (yy rfl rfl) ?_)
     rw[qcu rfl (fun j hj=>hall j (by omega))]
theorem c43{V:qa}{sx sy:Value}{cx cy:List Value}{m m' f:Nat}{Ix Iy:Nat→List Value→Prop}{g:Nat→Bool}(hsx:Sl 20 V sx cx)(hsy:Sl 20 V sy cy)(hx:Jh 20 cx m Ix)(hy:Jh 20 cy m' Iy)(hg:tb.go f=true)
 (hf:∀i c c',i<m→i<m'→Ix i c→Iy i c'→jC Tryz.prog f [.agg c.toArray,.agg c'.toArray] V (.bool (g i))):jC Tryz.prog 98 [sx,sy,.func (.func f) #[] #[]] V (.bool (JD m m' g)):=by
 refine jk Tryz.func98 rfl Tryz.ntmps98 rfl ?_;intro X w hM hw hV0 hR;dsimp only[je,Nat.zero_add,Nat.reduceAdd]
 (repeat' (first | refine qq ?_ | refine qc ?_ | refine qo ?_ | refine qh ?_ | refine qz ?_ | refine qG ?_ | refine qT ?_ | ((refine qn rfl ?_);(first | (refine jE tb rfl hsx rfl rfl hx.1 (by decide) ?_) | (refine jE tb rfl hsy rfl rfl hy.1 (by decide) ?_) | refine qk rfl ?_ | refine qm rfl ?_ | refine Y3 rfl rfl ?_)) | refine ZC rfl (fun _=>?_) (fun _=>?_)))
 · (refine qY hM hw hV0 hR (yy rfl rfl) ?_)
   rw[qg5];intro h;subst h;contradiction
 · rename_i he
   obtain rfl:m=m':=by omega
   refine yL (fun L' V' G' μ=>∃i:Nat,i≤m∧μ=m-i∧Sub V V'∧G'=[]∧L'=[(15,.int .i64 i),(14,.int .i64 m),(0,sx),(1,sy),(2,.func (.func f) #[] #[])]∧∀j,j<i→g j=true) (G0:=[]) (m0:=m) (by repeat (first | exact SubL.nil | refine SubL.cons rfl ?_)) (Vu _) ⟨0,by omega,by omega,Sub.refl _,rfl,rfl,fun j hj=>by omega⟩ ?_
   rintro L' V' G' μ ⟨i,hi,hμ,hVs,hGe,hLe,hall⟩
   subst hGe hLe
   replace hsx:=hsx.mono hVs
   replace hsy:=hsy.mono hVs
   (repeat' (first | refine qq ?_ | refine qc ?_ | refine qo ?_ | refine qh ?_ | refine qz ?_ | refine qG ?_ | refine jm ?_ | refine qF ?_ | refine qD ?_ | refine qP ?_ | refine qT ?_ | ((refine qn rfl ?_);(first | refine qk rfl ?_ | refine qm rfl ?_ | refine jx rfl rfl ?_)) | refine jW rfl (fun _=>?_) (fun _=>?_)))
   · rename_i hlt
     obtain⟨ax,lx,qx,rfl,hq1,hq2,hlx,hpx⟩:=hsx;obtain⟨ay,ly,qy,rfl,_,_,hly,hpy⟩:=hsy;have hxl:=hx.1;have hyl:=hy.1;have hlx':lx=m:=by omega
     have hly':ly=m:=by omega
     subst hlx';have hbig:lx≤9223372036854775807:=by unfold maxLen at hq2;omega
     obtain⟨bx,ox,rfl,hrx⟩:=hpx.resolve_left (by omega)
     obtain⟨bY,oY,rfl,hry⟩:=hpy.resolve_left (by omega)
     obtain⟨c,hc1,hc2,hc3⟩:=hx.rd hrx (i:=i) (by omega)
     obtain⟨c',hc1',hc2',hc3'⟩:=hy.rd hry (i:=i) (by omega)
     (refine j9 9 mo rfl (by kernel_rfl) rfl ?_;(repeat (apply Prog.step (yE _) (qH _) rfl rfl;· (intro V1 F1 hs1;(repeat (first | refine qX ?_ | refine qW ?_));refine qZ ?_;(first | (refine qV tb rfl rfl rfl (by omega) (by omega) ?_) | (refine Q3 tb rfl rfl hc1 (by decide) hc3 (by assumption) ?_) | (refine Q3 tb rfl rfl hc1' (by decide) hc3' (by assumption) ?_) | refine qk rfl ?_);exact jh)));refine Prog.done ?_;intro V1 hs1;repeat (first | refine yc ?_ | refine yd ?_))
     (repeat' (first | refine qq ?_ | refine qc ?_ | refine qo ?_ | refine qh ?_ | refine qG ?_ | refine jg ?_ | refine qT ?_ | ((refine qn rfl ?_);(first | (refine qef tb rfl rfl hg ((hf i c c' (by omega) (by omega) hc2 hc2').mono (hVs.trans hs1)) ?_) | refine qk rfl ?_ | refine qm rfl ?_ | refine Qe rfl ?_ | refine jD rfl rfl (by omega) (by omega) ?_)) | refine Yk rfl (fun _=>?_) (fun _=>?_)))
     · rename_i hgi
       (refine qY hM hw hV0 hR (yy rfl rfl) ?_)
       rw[qaW (by omega) hgi]
     · rename_i hgi
       exact yo (by repeat (first | exact SubL.nil | refine SubL.cons rfl ?_)) (Vu _) ⟨i+1,by omega,rfl,hVs.trans hs1,rfl,rfl,fun j hj=>if h:j=i then h ▸ hgi else hall j (by omega)⟩ (by omega)
   · (refine qY hM hw hV0 hR (yy rfl rfl) ?_)
     rw[qcu rfl (fun j hj=>hall j (by omega))]
mutual
theorem c18{V:qa}:∀(x y:Ex) {cx cy:List Value},Ex.Is V x cx→Ex.Is V y cy→jC Tryz.prog 82 [.agg cx.toArray,.agg cy.toArray] V (.bool (Qy x y))
 | .mk op p b i f nm es,.mk op' p' b' i' f' nm' es',cx,cy,hx,hy=>by
  simp only[Ex.Is]at hx hy;obtain⟨sx,ex,rfl,hsx,has⟩:=hx;obtain⟨sy,ey,rfl,hsy,has'⟩:=hy;have hc:=c47 (f:=82) (g:=at2 Qy es.list es'.list) hsx hsy (Exs.parts has) (Exs.parts has') rfl (by
   rintro i c c' hi hi' ⟨x,h1,h2⟩ ⟨y,h3,h4⟩
   simp only[at2,h1,h3];exact c18s es x (zW h1) y h2 h4)
  refine jk Tryz.func82 rfl Tryz.ntmps82 rfl ?_;intro X w hM hw hV0 hR;dsimp only[je,Nat.zero_add,Nat.reduceAdd]
  (repeat' (first | refine qq ?_ | refine qc ?_ | refine qo ?_ | refine qh ?_ | refine qT ?_ | ((first | refine qn rfl ?_ | refine yh rfl rfl rfl ?_);(first | (refine qE tb rfl rfl hc ?_) | refine qk rfl ?_ | refine qm rfl ?_ | refine jJ rfl rfl ?_ | refine qK rfl rfl ?_ | refine qL rfl rfl ?_ | refine qf tb rfl rfl ?_ | refine Yx rfl rfl ?_ | refine Za rfl rfl (by kernel_rfl) ?_ | (apply qu tb rfl rfl;(· (refine At.own (?_);repeat (first | exact Has.here | refine Has.there ?_)));(· exact rfl)) | (refine qO rfl ?_;intro b))) | refine Qr rfl rfl rfl rfl ?_ | refine jp rfl rfl (fun _=>?_) (fun _=>?_)))
  all_goals (refine qY hM hw hV0 hR (yy rfl rfl) ?_)
  all_goals (simp only[Qy,qaT];simp[*])
 termination_by structural x=>x
theorem c18s{V:qa}:∀(es:Exs),∀x∈es.list,∀(y:Ex) {cx cy:List Value},Ex.Is V x cx→Ex.Is V y cy→jC Tryz.prog 82 [.agg cx.toArray,.agg cy.toArray] V (.bool (Qy x y))
 | .nil,x,hm,_,_,_,_,_=>by simp[Exs.list]at hm
 | .cons e r,x,hm,y,_,_,hx,hy=>by
  rcases zO.1 hm with h | h
  · rw[h]at hx ⊢;exact c18 e y hx hy
  · exact c18s r x h y hx hy
 termination_by structural x=>x
end
end Fly
end
section
namespace Fly
open Go Go.Proofs
set_option maxRecDepth 10000
attribute [local irreducible] WC WE WR Opr St Go.Calls Js QE Qj Owe One QS
theorem Ex.Is.lit{V:qa}{x:Ex}{c:List Value}(h:Ex.Is V x c):∃a0 a1 a2 a3 a4 a5 a6:Value,c=[a0,a1,a2,a3,a4,a5,a6]:=by
 cases x with
 | mk op p b i f nm es=>
  simp only[Ex.Is]at h;obtain⟨sl,css,rfl,_⟩:=h;exact⟨_,_,_,_,_,_,_,rfl⟩
mutual
theorem c46{V:qa}:∀(x y:St_) {cx cy:List Value},St_.Is V x cx→St_.Is V y cy→jC Tryz.prog 101 [.agg cx.toArray,.agg cy.toArray] V (.bool (Ji x y))
 | .mk kd p nm ix ex lo hi tn el,.mk kd' p' nm' ix' ex' lo' hi' tn' el',cx,cy,hx,hy=>by
  simp only[St_.Is]at hx hy;obtain⟨s1,c1,ce,s2,c2,s3,c3,rfl,g1,h1,he,g2,h2,g3,h3⟩:=hx;obtain⟨s1',c1',ce',s2',c2',s3',c3',rfl,g1',h1',he',g2',h2',g3',h3'⟩:=hy;obtain⟨a0,a1,a2,a3,a4,a5,a6,rfl⟩:=he.lit;obtain⟨a0',a1',a2',a3',a4',a5',a6',rfl⟩:=he'.lit;simp only[zA,zx];have k1:=c47 (f:=82) (g:=at2 Qy ix.list ix'.list) g1 g1' (Exs.parts h1) (Exs.parts h1') rfl (by
   rintro i c c' hi hi' ⟨x,h1,h2⟩ ⟨y,h3,h4⟩
   simp only[at2,h1,h3];exact c18 x y h2 h4)
  have k2:=c18 ex ex' he he';have k3:=c45 (f:=101) (g:=at2 Ji tn.list tn'.list) g2 g2' (Sts.parts h2) (Sts.parts h2') rfl (by
   rintro i c c' hi hi' ⟨x,h1,h2⟩ ⟨y,h3,h4⟩
   simp only[at2,h1,h3];exact c46s tn x (zW h1) y h2 h4)
  have k4:=c45 (f:=101) (g:=at2 Ji el.list el'.list) g3 g3' (Sts.parts h3) (Sts.parts h3') rfl (by
   rintro i c c' hi hi' ⟨x,h1,h2⟩ ⟨y,h3,h4⟩
   simp only[at2,h1,h3];exact c46s el x (zW h1) y h2 h4)
  refine jk Tryz.func101 rfl Tryz.ntmps101 rfl ?_;intro X w hM hw hV0 hR;dsimp only[je,Nat.zero_add,Nat.reduceAdd]
  (repeat' (first | refine qq ?_ | refine qc ?_ | refine qo ?_ | refine qh ?_ | refine qT ?_ | ((first | refine qn rfl ?_ | refine yh rfl rfl rfl ?_);(first | (refine qE tb rfl rfl k1 ?_) | (refine qE tb rfl rfl k2 ?_) | (refine qE tb rfl rfl k3 ?_) | (refine qE tb rfl rfl k4 ?_) | refine qk rfl ?_ | refine qm rfl ?_ | refine jJ rfl rfl ?_ | refine qK rfl rfl ?_ | refine qL rfl rfl ?_ | refine qf tb rfl rfl ?_ | refine Yx rfl rfl ?_ | (apply qu tb rfl rfl;(· (refine At.own (?_);repeat (first | exact Has.here | refine Has.there ?_)));(· exact rfl)) | (apply qQ tb rfl rfl;(· (refine At.own (?_);repeat (first | exact Has.here | refine Has.there ?_)));(· exact rfl)) | (refine qO rfl ?_;intro b))) | refine Qr rfl rfl rfl rfl ?_ | refine jp rfl rfl (fun _=>?_) (fun _=>?_) | refine Jj rfl rfl (fun _=>?_) (fun _=>?_)))
  all_goals (refine qY hM hw hV0 hR (yy rfl rfl) ?_)
  all_goals (simp only[Ji,qaT,qaU];simp[*])
 termination_by structural x=>x
theorem c46s{V:qa}:∀(es:Sts),∀x∈es.list,∀(y:St_) {cx cy:List Value},St_.Is V x cx→St_.Is V y cy→jC Tryz.prog 101 [.agg cx.toArray,.agg cy.toArray] V (.bool (Ji x y))
 | .nil,x,hm,_,_,_,_,_=>by simp[Sts.list]at hm
 | .cons e r,x,hm,y,_,_,hx,hy=>by
  rcases zO.1 hm with h | h
  · rw[h]at hx ⊢;exact c46 e y hx hy
  · exact c46s r x h y hx hy
 termination_by structural x=>x
end
theorem c44{V:qa}(x y:Dc){cx cy:List Value}(hx:Dc.Is V x cx)(hy:Dc.Is V y cy):jC Tryz.prog 99 [.agg cx.toArray,.agg cy.toArray] V (.bool (YI x y)):=by
 obtain⟨ce,cf,rfl,he,hf⟩:=hx;obtain⟨ce',cf',rfl,he',hf'⟩:=hy;have k1:=c18 _ _ he he';have k2:=c18 _ _ hf hf';obtain⟨a0,a1,a2,a3,a4,a5,a6,rfl⟩:=he.lit;obtain⟨a0',a1',a2',a3',a4',a5',a6',rfl⟩:=he'.lit;obtain⟨b0,b1,b2,b3,b4,b5,b6,rfl⟩:=hf.lit;obtain⟨b0',b1',b2',b3',b4',b5',b6',rfl⟩:=hf'.lit;simp only[zA,zx];refine jk Tryz.func99 rfl Tryz.ntmps99 rfl ?_;intro X w hM hw hV0 hR;dsimp only[je,Nat.zero_add,Nat.reduceAdd]
 (repeat' (first | refine qq ?_ | refine qc ?_ | refine qo ?_ | refine qh ?_ | refine qT ?_ | ((first | refine qn rfl ?_ | refine yh rfl rfl rfl ?_);(first | (refine qE tb rfl rfl k1 ?_) | (refine qE tb rfl rfl k2 ?_) | refine qk rfl ?_ | refine qm rfl ?_ | refine jJ rfl rfl ?_ | refine qK rfl rfl ?_ | refine qL rfl rfl ?_ | refine qf tb rfl rfl ?_ | refine Yx rfl rfl ?_ | refine Za rfl rfl (by kernel_rfl) ?_ | (apply qu tb rfl rfl;(· (refine At.own (?_);repeat (first | exact Has.here | refine Has.there ?_)));(· exact rfl)) | (apply qQ tb rfl rfl;(· (refine At.own (?_);repeat (first | exact Has.here | refine Has.there ?_)));(· exact rfl)) | (refine qO rfl ?_;intro b))) | refine Qr rfl rfl rfl rfl ?_ | refine jp rfl rfl (fun _=>?_) (fun _=>?_) | refine Jj rfl rfl (fun _=>?_) (fun _=>?_)))
 all_goals (refine qY hM hw hV0 hR (yy rfl rfl) ?_)
 all_goals (simp only[YI];simp[*])
theorem c17{V:qa}(x y:Pg){cx cy:List Value}(hx:Pg.Is V x cx)(hy:Pg.Is V y cy):jC Tryz.prog 44 [.agg cx.toArray,.agg cy.toArray] V (.bool (Yj x y)):=by
 obtain⟨sd,cd,si,ci,ss,cS,rfl,g1,h1,g2,h2,g3,h3⟩:=hx;obtain⟨sd',cd',si',ci',ss',cS',rfl,g1',h1',g2',h2',g3',h3'⟩:=hy;have k1:=c43 (f:=99) (g:=at2 YI x.ds y.ds) g1 g1' (QI.parts h1) (QI.parts h1') rfl (by
  rintro i c c' hi hi' ⟨x,h1,h2⟩ ⟨y,h3,h4⟩
  simp only[at2,h1,h3];exact c44 x y h2 h4)
 have k2:=c45 (f:=101) (g:=at2 Ji x.ini.list y.ini.list) g2 g2' (Sts.parts h2) (Sts.parts h2') rfl (by
  rintro i c c' hi hi' ⟨x,h1,h2⟩ ⟨y,h3,h4⟩
  simp only[at2,h1,h3];exact c46 x y h2 h4)
 have k3:=c45 (f:=101) (g:=at2 Ji x.step.list y.step.list) g3 g3' (Sts.parts h3) (Sts.parts h3') rfl (by
  rintro i c c' hi hi' ⟨x,h1,h2⟩ ⟨y,h3,h4⟩
  simp only[at2,h1,h3];exact c46 x y h2 h4)
 refine jk Tryz.func44 rfl Tryz.ntmps44 rfl ?_;intro X w hM hw hV0 hR;dsimp only[je,Nat.zero_add,Nat.reduceAdd]
 (repeat' (first | refine qq ?_ | refine qc ?_ | refine qo ?_ | refine qh ?_ | refine qT ?_ | ((first | refine qn rfl ?_ | refine yh rfl rfl rfl ?_);(first | (refine qE tb rfl rfl k1 ?_) | (refine qE tb rfl rfl k2 ?_) | (refine qE tb rfl rfl k3 ?_) | refine qk rfl ?_ | refine qm rfl ?_ | refine jJ rfl rfl ?_ | refine qK rfl rfl ?_ | refine qL rfl rfl ?_ | refine qf tb rfl rfl ?_ | (apply qu tb rfl rfl;(· (refine At.own (?_);repeat (first | exact Has.here | refine Has.there ?_)));(· exact rfl)) | (refine qO rfl ?_;intro b))) | refine Qr rfl rfl rfl rfl ?_ | refine jp rfl rfl (fun _=>?_) (fun _=>?_) | refine Jj rfl rfl (fun _=>?_) (fun _=>?_)))
 all_goals (refine qY hM hw hV0 hR (yy rfl rfl) ?_)
 all_goals (simp only[Yj,qed,qaU];simp[*])
end Fly
end
section
namespace Fly
open Go Go.Proofs
theorem Sl.lit{k:Nat}{V:qa}{v:Value}{cs:List Value}(h:Sl k V v cs):∃a l q,v = .slice a l q:=by
 obtain⟨a,l,q,h,_⟩:=h;exact⟨a,l,q,h⟩
theorem Ex.Is.lits{V:qa}{x:Ex}{c:List Value}(h:Ex.Is V x c):∃op p b i f nm a l q,c=[.int .u8 op,.int .i64 p,.bool b,.int .i32 i,.int .u64 f,.string nm,.slice a l q]:=by
 cases x with
 | mk op p b i f nm es=>
  simp only[Ex.Is]at h;obtain⟨sl,css,rfl,h,_⟩:=h;obtain⟨a,l,q,rfl⟩:=h.lit;exact⟨_,_,_,_,_,_,_,_,_,rfl⟩
end Fly
end
section
namespace Fly
open Go Go.Proofs
set_option maxRecDepth 10000
attribute [local irreducible] WC WE WR Opr St Go.Calls Js QE Qj Owe One QS
attribute [local irreducible] Wn Yd
def C40(V:qa)(es:Exs):Prop:=∀ {sx:Value} {cx:List Value},Sl 7 V sx cx→Exs.Is V es cx→jC Tryz.prog 135 [sx] V (.int .i64 (Wn (numEs es)))
def K40(V:qa):Ex→Prop
 | .mk _ _ _ _ _ _ es=>C40 V es
theorem c40b{V:qa}{es:Exs}(ih:∀x∈es.list,K40 V x):C40 V es:=by
 intro sx cx hsx has;have hp:=Exs.parts has;generalize hm:es.list.length=m at *
 have hmb:m≤9223372036854775807:=by
  obtain⟨_,l,q,_,hq1,hq2,hl,_⟩:=hsx;have:=hp.1
  unfold maxLen at hq2;omega
 refine jk Tryz.func135 rfl Tryz.ntmps135 rfl ?_;intro X w hM hw hV0 hR;dsimp only[je,Nat.zero_add,Nat.reduceAdd]
 (repeat' (first | refine qq ?_ | refine qc ?_ | refine qo ?_ | refine qh ?_ | refine qz ?_ | ((refine qn rfl ?_);(first | (refine jE tb rfl hsx rfl rfl hp.1 (by decide) ?_) | refine qk rfl ?_ | refine qm rfl ?_))))
 refine yL (fun L' V' G' μ=>∃i0:Nat,i0≤m∧μ=m-i0∧V'=V∧G'=[]∧L'=[(10,.int .i64 i0),(3,.int .i64 (Wn (m+Yd qee es.list i0))),(8,sx),(9,.int .i64 m)]) (m0:=m) (by repeat (first | exact SubL.nil | refine SubL.cons rfl ?_ | refine SubL.cons (congrArg some (by rw[qak,KN,qw6 hmb])) ?_)) (Ks _) ⟨0,by omega,by omega,rfl,rfl,rfl⟩ ?_
 rintro L' V' G' μ ⟨i0,hi,hμ,hVe,hGe,hLe⟩
 subst hVe hGe hLe
 by_cases hlt:i0<m
 · obtain⟨ax,lx,qx,rfl,hq1,hq2,hlx,hpx⟩:=hsx
   have hxl:=hp.1;have hlx':lx=m:=by omega
   subst hlx';obtain⟨bx,ox,rfl,hrx⟩:=hpx.resolve_left (by omega)
   obtain⟨c,hc1,⟨x,hx1,hc2⟩,hc3⟩:=hp.rd hrx (i:=i0) (by omega)
   have kids:=ih x (zW hx1)
   obtain⟨op,p,bo,i,f,nm,kd⟩:=x;simp only[Ex.Is]at hc2;obtain⟨s1,c1,rfl,g1,h1⟩:=hc2;have k1:=kids g1 h1;obtain⟨_,_,_,rfl⟩:=g1.lit
   (repeat' (first | refine qq ?_ | refine qc ?_ | refine qo ?_ | refine qh ?_ | refine qz ?_ | refine qG ?_ | refine jg ?_ | refine jm ?_ | refine qF ?_ | refine qD ?_ | refine qP ?_ | refine qT ?_ | ((first | refine qn rfl ?_ | refine jt ?_);(first | (refine qbr rfl rfl ?_) | (refine qV tb rfl rfl rfl (by omega) (by omega) ?_) | (refine j8 tb rfl rfl hc1 (by decide) hc3 ?_) | (refine qE tb rfl rfl k1 ?_) | refine qk rfl ?_ | refine qm rfl ?_ | refine jx rfl rfl ?_ | refine jD rfl rfl (by omega) (by omega) ?_ | refine qf tb rfl rfl ?_ | (apply qu tb rfl rfl;(· (refine At.own (?_);repeat (exact Has.here)));(· exact rfl)) | (apply yn tb rfl rfl rfl rfl rfl;(· (repeat (exact Upd.here)));(· exact rfl)) | (refine jX tb rfl ?_;intro b))) | refine jW rfl (fun _=>?_) (fun _=>?_)))
   all_goals first
    | (exfalso;omega)
    | exact yo (by repeat (first | exact SubL.nil | refine SubL.cons rfl ?_ | refine SubL.cons (congrArg some (by first | (rw[qak,qlf]) | (congr 2;rw[Q4 hx1];simp only[qdi,qee,qfo,exS];omega) | (congr 2;rw[Q4 hx1];simp only[qdi,qcs,qee,qfo,exS];rw[zZ (by omega)];omega) | (congr 2;rw[Q4 hx1];simp only[qdi,qcs,qee,qfo,exS];rw[zP (by omega)];omega))) ?_)) (by repeat (first | exact List.Sublist.slnil | apply List.Sublist.cons)) ⟨i0+1,by omega,rfl,rfl,rfl,rfl⟩ (by omega)
 · (repeat' (first | refine qq ?_ | refine qc ?_ | refine qo ?_ | refine qh ?_ | refine qz ?_ | refine qG ?_ | refine jm ?_ | refine qF ?_ | refine qD ?_ | refine qP ?_ | refine qT ?_ | ((refine qn rfl ?_);(first | refine qk rfl ?_ | refine qm rfl ?_ | refine jx rfl rfl ?_)) | refine jW rfl (fun _=>?_) (fun _=>?_)))
   all_goals first
    | (exfalso;omega)
    | ((refine qY hM hw hV0 hR (yy rfl rfl) ?_);rw[qeg _ _ (by omega),qfI,qif,hm])
mutual
theorem c40k{V:qa}:∀(x:Ex),K40 V x
 | .mk _ _ _ _ _ _ es=>c40b (c40l es)
 termination_by structural x=>x
theorem c40l{V:qa}:∀(es:Exs),∀x∈es.list,K40 V x
 | .nil,x,hm=>by simp[Exs.list]at hm
 | .cons e r,x,hm=>by
  rcases zO.1 hm with h | h
  · rw[h];exact c40k e
  · exact c40l r x h
 termination_by structural x=>x
end
theorem c40{V:qa}(es:Exs):C40 V es:=c40b (c40l es)
end Fly
end
section
namespace Fly
open Go Go.Proofs
set_option maxRecDepth 10000
attribute [local irreducible] WC WE WR Opr St Go.Calls Js QE Qj Owe One QS
attribute [local irreducible] Wn Yd
def ptr(b:Nat):Value:=.pointer (some ⟨b,0,none⟩)
abbrev G3(b1 b2 b3 p q:Nat):Own:=[(b3,.cells [.func (.func 134) #[] #[.pointer (some ⟨b1,0,none⟩),.pointer (some ⟨b2,0,none⟩),.pointer (some ⟨b3,0,none⟩)]].toArray 138 (0,0)),(b2,.cells [.int .i64 (Wn q)].toArray 3 (0,0)),(b1,.cells [.int .i64 (Wn p)].toArray 3 (0,0))]
def C39(es:Sts):Prop:=∀ {V:qa} {sx:Value} {cx:List Value} (b1 b2 b3 p q:Nat),Sl 15 V sx cx→Sts.Is V es cx →
 jl Tryz.prog 134 [sx,.pointer (some ⟨b1,0,none⟩),.pointer (some ⟨b2,0,none⟩),.pointer (some ⟨b3,0,none⟩)].toArray V (G3 b1 b2 b3 p q) fun _ _ G'=>G'=G3 b1 b2 b3 (p+cntSs es) (q+exSs es)
def K39:St_→Prop
 | .mk _ _ _ _ _ _ _ tn el=>C39 tn∧C39 el
set_option maxHeartbeats 2000000 in
theorem qvN{es:Sts}(ih:∀x∈es.list,K39 x):C39 es:=by
 intro V sx cx b1 b2 b3 p q hsx has;refine qB Tryz.func134 rfl Tryz.ntmps134 rfl ?_
 intro X w hM hMl hw hV0 hR;dsimp only[je,Nat.zero_add,Nat.reduceAdd];have hp:=Sts.parts has;generalize hm:es.list.length=m at *
 (repeat' (first | refine qq ?_ | refine qc ?_ | refine qo ?_ | refine qh ?_ | refine qz ?_ | ((refine qn rfl ?_);(first | (refine jE tb rfl hsx rfl rfl hp.1 (by decide) ?_) | refine qk rfl ?_))))
 refine yL (fun L' V' G' μ=>∃i0:Nat,i0≤m∧μ=m-i0∧Sub V V'∧G'=G3 b1 b2 b3 (p+Yd qfo es.list i0) (q+Yd exS es.list i0)∧L'=[(9,.int .i64 i0),(7,sx),(8,.int .i64 m),(1,.pointer (some ⟨b1,0,none⟩)),(2,.pointer (some ⟨b2,0,none⟩)),(3,.pointer (some ⟨b3,0,none⟩))]) (G0:=G3 b1 b2 b3 p q) (m0:=m) (by repeat (first | exact SubL.nil | refine SubL.cons rfl ?_)) (Ks _) ⟨0,by omega,by omega,Sub.refl _,by rw[qak,qak];rfl,rfl⟩ ?_
 rintro L' V' G' μ ⟨i0,hi,hμ,hVs,hGe,hLe⟩
 subst hGe hLe
 by_cases hlt:i0<m
 · replace hsx:=hsx.mono hVs
   replace hp:=Sts.parts (Sts.Is.mono hVs es has)
   rw[hm]at hp;obtain⟨ax,lx,qx,rfl,hq1,hq2,hlx,hpx⟩:=hsx;have hxl:=hp.1;have hlx':lx=m:=by omega
   subst hlx';have hbig:lx≤9223372036854775807:=by unfold maxLen at hq2;omega
   obtain⟨bx,ox,rfl,hrx⟩:=hpx.resolve_left (by omega)
   obtain⟨c,hc1,⟨x,hx1,hc2⟩,hc3⟩:=hp.rd hrx (i:=i0) (by omega)
   have kids:=ih x (zW hx1)
   obtain⟨kd,pt,nm,ix,ex,lo,hi_,tn,el⟩:=x;simp only[St_.Is]at hc2;obtain⟨s1,c1,ce,s2,c2,s3,c3,rfl,g1,h1,he,g2,h2,g3,h3⟩:=hc2;obtain⟨eop,ep,eb,ei,ef,en,ea⟩:=ex;simp only[Ex.Is]at he;obtain⟨s4,c4,rfl,g4,h4⟩:=he;have k1:=c40 ix g1 h1;have k2:=c40 ea g4 h4;obtain⟨_,_,_,rfl⟩:=g1.lit;obtain⟨_,_,_,rfl⟩:=g2.lit;obtain⟨_,_,_,rfl⟩:=g3.lit;obtain⟨_,_,_,rfl⟩:=g4.lit;simp only[zA,zx]at hc1 hc3
   (repeat' (first | refine qq ?_ | refine qc ?_ | refine qo ?_ | refine qh ?_ | refine qz ?_ | refine qG ?_ | refine jm ?_ | refine qF ?_ | refine qD ?_ | refine qP ?_ | ((first | refine qn rfl ?_ | refine jt ?_);(first | (refine qoy rfl rfl ?_) | (refine qV tb rfl rfl rfl (by omega) (by omega) ?_) | (refine j8 tb rfl rfl hc1 (by decide) hc3 ?_) | refine jx rfl rfl ?_ | (apply qu tb rfl rfl;(· (refine At.own (?_);repeat (first | exact Has.here | refine Has.there ?_)));(· exact rfl)) | (apply jz tb rfl rfl rfl rfl rfl;(· (repeat (first | exact Upd.here | apply Upd.there)));(· exact rfl)) | (apply yn tb rfl rfl rfl rfl rfl;(· (repeat (exact Upd.here)));(· exact rfl)) | (refine jX tb rfl ?_;intro b))) | refine jW rfl (fun _=>?_) (fun _=>?_)))
   rotate_left
   · exfalso;omega
   (refine j9 4 mo rfl (by kernel_rfl) rfl ?_;(repeat (apply Prog.step (yE _) (qH _) rfl rfl;· (intro V1 F1 hs1;(repeat (first | refine qX ?_ | refine qW ?_));refine qZ ?_;(first | (refine qE tb rfl rfl (k1.mono (by assumption)) ?_) | refine qf tb rfl rfl ?_ | (apply qu tb rfl rfl;(· (refine At.own (Has.app ?_);repeat (first | exact Has.here | refine Has.there ?_)));(· exact rfl)));exact jh)));refine Prog.done ?_;intro V1 hs1;repeat (first | refine yc ?_ | refine yd ?_))
   replace g2:=g2.mono hs1
   replace g3:=g3.mono hs1
   replace h2:=Sts.Is.mono hs1 _ h2
   replace h3:=Sts.Is.mono hs1 _ h3
   replace k2:=k2.mono hs1
   replace hVs:=hVs.trans hs1
   clear hs1;have e1:p+Yd qfo es.list i0+1+cntSs tn+cntSs el=p+Yd qfo es.list (i0+1):=by
    rw[Q4 hx1];simp only[qfo];omega
   (repeat' (first | refine qq ?_ | refine qc ?_ | refine qo ?_ | refine qh ?_ | refine qG ?_ | ((first | refine qn rfl ?_ | refine jt ?_ | refine yh rfl rfl rfl ?_);(first | (refine qbr rfl rfl ?_) | refine qk rfl ?_ | refine jJ rfl rfl ?_ | refine qK rfl rfl ?_ | refine qL rfl rfl ?_ | refine qf tb rfl rfl ?_ | (apply qu tb rfl rfl;(· (refine At.own (?_);repeat (first | exact Has.here | refine Has.there ?_)));(· exact rfl)) | (apply jz tb rfl rfl rfl rfl rfl;(· (repeat (first | exact Upd.here | apply Upd.there)));(· exact rfl)))) | refine Qr rfl rfl rfl rfl ?_ | refine qS rfl ?_ | refine jW rfl (fun _=>?_) (fun _=>?_) | refine jp rfl rfl (fun _=>?_) (fun _=>?_)))
   · (refine j9 6 mo rfl (by kernel_rfl) rfl ?_;(repeat (apply Prog.step (yE _) (qH _) rfl rfl;· (intro V1 F1 hs1;(repeat (first | refine qX ?_ | refine qW ?_));refine qZ ?_;(first | (refine qih rfl rfl ?_) | (refine qE tb rfl rfl (k2.mono (by assumption)) ?_) | refine qf tb rfl rfl ?_ | (apply qu tb rfl rfl;(· (refine At.own (Has.app ?_);repeat (first | exact Has.here | refine Has.there ?_)));(· exact rfl)));exact jh)));refine Prog.done ?_;intro V1 hs1;repeat (first | refine yc ?_ | refine yd ?_))
     replace g2:=g2.mono hs1
     replace g3:=g3.mono hs1
     replace h2:=Sts.Is.mono hs1 _ h2
     replace h3:=Sts.Is.mono hs1 _ h3
     replace hVs:=hVs.trans hs1
     clear hs1
     (repeat' (first | refine qq ?_ | refine qc ?_ | refine qo ?_ | refine qh ?_ | refine jg ?_ | ((first | refine qn rfl ?_ | refine jt ?_);(first | (refine qbr rfl rfl ?_) | (refine qp tb rfl rfl rfl (kids.1 b1 b2 b3 _ _ g2 h2) (zE (l₁:=[_])) ?_;rintro _ V2 _ hs2 rfl;dsimp only[List.cons_append,List.nil_append]) | (refine qp tb rfl rfl rfl (kids.2 b1 b2 b3 _ _ (g3.mono hs2) (Sts.Is.mono hs2 el h3)) (zq _) ?_;rintro _ V3 _ hs3 rfl) | refine qk rfl ?_ | refine jD rfl rfl (by omega) (by omega) ?_ | refine qf tb rfl rfl ?_ | (apply qu tb rfl rfl;(· (refine At.own (?_);repeat (first | exact Has.here | refine Has.there ?_)));(· exact rfl)) | (apply jz tb rfl rfl rfl rfl rfl;(· (repeat (first | exact Upd.here | apply Upd.there)));(· exact rfl))))))
     have e2:q+Yd exS es.list i0+numEs ix+(1+numEs ea)+exSs tn+exSs el=q+Yd exS es.list (i0+1):=by
      rw[Q4 hx1];simp only[exS,qdi];rw[zZ (by omega)];omega
     rw[e1,e2];exact yo (by repeat (first | exact SubL.nil | refine SubL.cons rfl ?_)) (zH _ _) ⟨i0+1,by omega,rfl,hVs.trans (hs2.trans hs3),rfl,rfl⟩ (by omega)
   · (refine j9 6 mo rfl (by kernel_rfl) rfl ?_;(repeat (apply Prog.step (yE _) (qH _) rfl rfl;· (intro V1 F1 hs1;(repeat (first | refine qX ?_ | refine qW ?_));refine qZ ?_;(first | (refine qih rfl rfl ?_) | (refine qE tb rfl rfl (k2.mono (by assumption)) ?_) | refine qf tb rfl rfl ?_ | (apply qu tb rfl rfl;(· (refine At.own (Has.app ?_);repeat (first | exact Has.here | refine Has.there ?_)));(· exact rfl)));exact jh)));refine Prog.done ?_;intro V1 hs1;repeat (first | refine yc ?_ | refine yd ?_))
     replace g2:=g2.mono hs1
     replace g3:=g3.mono hs1
     replace h2:=Sts.Is.mono hs1 _ h2
     replace h3:=Sts.Is.mono hs1 _ h3
     replace hVs:=hVs.trans hs1
     clear hs1
     (repeat' (first | refine qq ?_ | refine qc ?_ | refine qo ?_ | refine qh ?_ | refine jg ?_ | ((first | refine qn rfl ?_ | refine jt ?_);(first | (refine qbr rfl rfl ?_) | (refine qp tb rfl rfl rfl (kids.1 b1 b2 b3 _ _ g2 h2) (zE (l₁:=[_])) ?_;rintro _ V2 _ hs2 rfl;dsimp only[List.cons_append,List.nil_append]) | (refine qp tb rfl rfl rfl (kids.2 b1 b2 b3 _ _ (g3.mono hs2) (Sts.Is.mono hs2 el h3)) (zq _) ?_;rintro _ V3 _ hs3 rfl) | refine qk rfl ?_ | refine jD rfl rfl (by omega) (by omega) ?_ | refine qf tb rfl rfl ?_ | (apply qu tb rfl rfl;(· (refine At.own (?_);repeat (first | exact Has.here | refine Has.there ?_)));(· exact rfl)) | (apply jz tb rfl rfl rfl rfl rfl;(· (repeat (first | exact Upd.here | apply Upd.there)));(· exact rfl))))))
     have e2:q+Yd exS es.list i0+numEs ix+(1+numEs ea)+exSs tn+exSs el=q+Yd exS es.list (i0+1):=by
      rw[Q4 hx1];simp only[exS,qdi];rw[zZ (by omega)];omega
     rw[e1,e2];exact yo (by repeat (first | exact SubL.nil | refine SubL.cons rfl ?_)) (zH _ _) ⟨i0+1,by omega,rfl,hVs.trans (hs2.trans hs3),rfl,rfl⟩ (by omega)
   · (repeat' (first | refine qc ?_ | refine qo ?_ | refine qh ?_ | refine jg ?_ | ((refine qn rfl ?_);(first | (refine qp tb rfl rfl rfl (kids.1 b1 b2 b3 _ _ g2 h2) (zE (l₁:=[_])) ?_;rintro _ V2 _ hs2 rfl;dsimp only[List.cons_append,List.nil_append]) | (refine qp tb rfl rfl rfl (kids.2 b1 b2 b3 _ _ (g3.mono hs2) (Sts.Is.mono hs2 el h3)) (zq _) ?_;rintro _ V3 _ hs3 rfl) | refine qk rfl ?_ | refine jD rfl rfl (by omega) (by omega) ?_ | refine qf tb rfl rfl ?_ | (apply qu tb rfl rfl;(· (refine At.own (?_);repeat (first | exact Has.here | refine Has.there ?_)));(· exact rfl))))))
     have e2:q+Yd exS es.list i0+numEs ix+exSs tn+exSs el=q+Yd exS es.list (i0+1):=by
      rw[Q4 hx1];simp only[exS,qdi];rw[zP (by omega)];omega
     rw[e1,e2];exact yo (by repeat (first | exact SubL.nil | refine SubL.cons rfl ?_)) (zH _ _) ⟨i0+1,by omega,rfl,hVs.trans (hs2.trans hs3),rfl,rfl⟩ (by omega)
 · (repeat' (first | refine qq ?_ | refine qc ?_ | refine qo ?_ | refine qh ?_ | refine qz ?_ | refine qG ?_ | refine jm ?_ | refine qF ?_ | refine qD ?_ | refine qP ?_ | ((refine qn rfl ?_);(refine jx rfl rfl ?_)) | refine jW rfl (fun _=>?_) (fun _=>?_)))
   all_goals first
    | (exfalso;omega)
    | (refine jb hM hw hV0 hR (G3 b1 b2 b3 (p+Yd qfo es.list i0) (q+Yd exS es.list i0)) (Ks _) (Qm rfl) ?_;rw[qeg _ _ (by omega),qeg _ _ (by omega),qfJ,qig])
mutual
theorem c39k:∀(x:St_),K39 x
 | .mk _ _ _ _ _ _ _ tn el=>⟨qvN (c39l tn),qvN (c39l el)⟩
 termination_by structural x=>x
theorem c39l:∀(es:Sts),∀x∈es.list,K39 x
 | .nil,x,hm=>by simp[Sts.list]at hm
 | .cons e r,x,hm=>by
  rcases zO.1 hm with h | h
  · rw[h];exact c39k e
  · exact c39l r x h
 termination_by structural x=>x
end
theorem c39(es:Sts):C39 es:=qvN (c39l es)
end Fly
end
section
namespace Fly
open Go Go.Proofs
set_option maxRecDepth 10000
attribute [local irreducible] WC WE WR Opr St Go.Calls Js QE Qj Owe One QS
attribute [local irreducible] Wn Yd
theorem c14{V:qa}(p:Pg){cx:List Value}(hx:Pg.Is V p cx):jC Tryz.prog 81 [.agg cx.toArray] V (.tuple #[.int .i64 (Wn (cntSs p.ini+cntSs p.step)),.int .i64 (Wn (exSs p.ini+exSs p.step))]):=by
 obtain⟨sd,cd,si,ci,ss,cS,rfl,g1,h1,g2,h2,g3,h3⟩:=hx;refine jk Tryz.func81 rfl Tryz.ntmps81 rfl ?_;intro X w hM hw hV0 hR;dsimp only[je,Nat.zero_add,Nat.reduceAdd]
 (repeat' (first | refine qq ?_ | refine qc ?_ | refine qo ?_ | refine qh ?_ | ((first | refine qn rfl ?_ | refine jt ?_);(first | (refine qcX rfl rfl ?_) | refine qm rfl ?_ | refine qf tb rfl rfl ?_ | (apply qu tb rfl rfl;(· (refine At.own (?_);repeat (first | exact Has.here | refine Has.there ?_)));(· exact rfl)) | (apply jz tb rfl rfl rfl rfl rfl;(· (repeat (first | exact Upd.here | apply Upd.there)));(· exact rfl)) | (refine qO rfl ?_;intro b) | (refine jX tb rfl ?_;intro b)))))
 rename_i b1 b4 b5;have hF:=c39 p.ini b4 b5 b 0 0 g2 h2
 unfold G3 at hF;rw[qlf]at hF
 (repeat' (first | refine qq ?_ | refine qc ?_ | refine qo ?_ | refine qh ?_ | ((refine qn rfl ?_);(first | (refine qp tb rfl rfl rfl hF (zq _) ?_;rintro _ V2 _ hs2 rfl;dsimp only[List.cons_append,List.nil_append]) | (refine qp tb rfl rfl rfl (c39 p.step b4 b5 b _ _ (g3.mono hs2) (Sts.Is.mono hs2 _ h3)) (zq _) ?_;rintro _ V3 _ hs3 rfl;dsimp only[G3,List.cons_append,List.nil_append]) | refine qf tb rfl rfl ?_ | (apply qu tb rfl rfl;(· (refine At.own (?_);repeat (first | exact Has.here | refine Has.there ?_)));(· exact rfl))))))
 (refine j9 3 mo rfl (by kernel_rfl) rfl ?_;(repeat (apply Prog.step (yE _) (qH _) rfl rfl;· (intro V1 F1 hs1;(repeat (first | refine qX ?_ | refine qW ?_));refine qZ ?_;(first | refine qm rfl ?_ | (apply qu tb rfl rfl;(· (refine At.own (Has.app ?_);repeat (first | exact Has.here | refine Has.there ?_)));(· exact rfl)));exact jh)));refine Prog.done ?_;intro V1 hs1;repeat (first | refine yc ?_ | refine yd ?_))
 (repeat' (first | refine qo ?_ | refine qh ?_ | refine qT ?_ | ((refine qn rfl ?_);(refine qm rfl ?_))))
 (refine qY hM hw hV0 hR (qr2 rfl rfl rfl) ?_)
 simp only[zr]
end Fly
end
section
namespace Fly
open Go Go.Proofs
set_option maxRecDepth 10000
attribute [local irreducible] WC WE WR Opr St Go.Calls Js QE jC Rel jl Jk Qj Owe One QS Go.CallsD
def Z0(c:UInt8)(es:Exs):Ex:=.mk 4 0 false 0 0 ⟨#[c]⟩ es
def QN:Ex:=.mk 7 0 false 0 0 .empty (.cons (.mk 17 0 false 0 0 .empty (.cons (.mk 5 0 false 0 0 .empty (.cons (Z0 97 .nil) (.cons (.mk 2 0 false 1 0 .empty .nil) .nil))) .nil)) (.cons (Z0 98 (.cons (Z0 105 .nil) .nil)) .nil))
theorem c20{V:qa}:Rel Tryz.prog 80 [] V fun v V'=>Sub V V'∧∃cs:List Value,v = .agg cs.toArray∧Ex.Is V' QN cs:=by
 refine JK Tryz.func80 rfl Tryz.ntmps80 rfl ?_;intro X w hM hw hV0 hR;dsimp only[je,Nat.zero_add,Nat.reduceAdd]
 (repeat' (first | refine qq ?_ | refine qc ?_ | refine qo ?_ | refine qh ?_ | refine qT ?_ | ((first | refine qn rfl ?_ | refine jt ?_);(first | (apply ZF tb hM;(· exact rfl);(· exact rfl);(· exact rfl);(· decide);(· (repeat (first | exact Cat.nil | (apply Cat.cons;(· exact rfl);(· exact rfl);(· exact rfl)) | exact App.nil | apply App.cons)));intro b1 hb1) | (apply qQ tb rfl rfl;(· (refine At.own (?_);repeat (first | exact Has.here | refine Has.there ?_)));(· exact rfl)) | (apply yn tb rfl rfl rfl rfl rfl;(· (repeat (first | exact Upd.here | apply Upd.there)));(· exact rfl)) | (apply yK tb (by kernel_rfl) rfl (rfl:tb.fo _ 0=_);(· (repeat (first | exact Fill.nil | (apply Fill.cons;(· exact rfl);(· exact rfl);(· exact rfl);(· exact rfl);(· exact rfl)))))) | (refine jX tb rfl ?_;intro b)))))
 rename_i r0 n1 hn1 r1 n2 hn2 n3 hn3;have s1:=fun o=>Sub.addV (o:=o) hn1
 have s2:=fun o=>Sub.addV (o:=o) hn2
 have s3:=fun o=>Sub.addV (o:=o) hn3
 have s4:=fun o=>Sub.addV (o:=o) hb1
 refine JB hM hw hV0 hR (yy rfl ⟨_,rfl,fun w hw=>rdN tb rfl (by refine At.own ?_;repeat (first | exact Has.here | refine Has.there ?_)) rfl hw⟩) ⟨(((s1 _).trans (s2 _)).trans (s3 _)).trans (s4 _),_,rfl,?_⟩
 simp only[QN,Z0,Ex.Is,Exs.Is];refine⟨_,_,rfl,Sl.made hb1 rfl (by decide),_,_,(KC 7 _).symm,⟨_,_,rfl,(Sl.made hn3 rfl (by decide)).mono (s4 _),_,_,(Kh _).symm,⟨_,_,rfl,(Sl.made hn1 rfl (by decide)).mono (((s2 _).trans (s3 _)).trans (s4 _)),_,_,(KC 7 _).symm,⟨_,_,rfl,Sl.nil _ _,rfl⟩,_,_,(Kh _).symm,⟨_,_,rfl,Sl.nil _ _,rfl⟩,rfl⟩,rfl⟩,_,_,(Kh _).symm,⟨_,_,rfl,(Sl.made hn2 rfl (by decide)).mono ((s3 _).trans (s4 _)),_,_,(Kh _).symm,⟨_,_,rfl,Sl.nil _ _,rfl⟩,rfl⟩,rfl⟩
end Fly
end
section
namespace Fly
open Go Go.Proofs
set_option maxRecDepth 10000
attribute [local irreducible] WC WE WR Opr St Go.Calls Js QE Qj Owe One QS
theorem e122(v:Value)(w:World):(callFunc 204 #[v]).run Tryz.prog w = .ok (.value v) w:=by
 rw[run_callFunc_extern Tryz.func204 (by kernel_rfl) (by kernel_rfl) (by kernel_rfl) (e:=Extern.AbiNoEscape.same) (by kernel_rfl),Lib.run_noEscape];rfl
theorem c98{V:qa}{b:Nat}{p:Option Addr}{v x:Value}(hp:p=none∨p=some ⟨b,0,none⟩)(hv:v.oneCell'=true)(hx:x.oneCell'=true) :
 jl Tryz.prog 183 [.pointer (some ⟨b,0,none⟩)].toArray V [(b,.cells [.pointer p,v,x].toArray 133 (0,0))] fun _ _ G'=>G'=[(b,.cells [.pointer (some ⟨b,0,none⟩),v,x].toArray 133 (0,0))]:=by
 rcases hp with rfl | rfl
 · refine qB Tryz.func183 rfl Tryz.ntmps183 rfl ?_;intro X w hM hMl hw hV0 hR;dsimp only[je,Nat.zero_add,Nat.reduceAdd]
   (repeat' (first | refine qq ?_ | refine qc ?_ | refine qo ?_ | refine qh ?_ | ((first | refine qn rfl ?_ | refine jt ?_);(first | (refine ju rfl ?_) | (refine qii rfl (te:=131) (by kernel_rfl) ?_) | (refine qmO rfl (fun w=>e122 _ w) ?_) | (apply qg6 (src:=128) (dst:=243) (t:=131) (m:=3) rfl (by kernel_rfl) (by kernel_rfl) (by kernel_rfl);(· (refine At.own ?_;repeat (exact Has.here)));(· exact rfl);(· decide)) | (apply qeh (src:=243) (dst:=128) (u:=131) (m:=3) rfl (by kernel_rfl) (by kernel_rfl) (by kernel_rfl);(· (refine At.own ?_;repeat (exact Has.here)));(· exact rfl);(· kernel_rfl)) | refine qk rfl ?_ | refine qf tb rfl rfl ?_ | (apply qu tb rfl rfl;(· (refine At.own (?_);repeat (exact Has.here)));(· exact rfl)) | (apply jz tb rfl rfl rfl rfl rfl;(· (repeat (exact Upd.here)));(· exact rfl)))) | refine qS rfl ?_))
   exact jb hM hw hV0 hR _ (Ks _) (Qm rfl) rfl
 · refine qB Tryz.func183 rfl Tryz.ntmps183 rfl ?_;intro X w hM hMl hw hV0 hR;dsimp only[je,Nat.zero_add,Nat.reduceAdd]
   (repeat' (first | refine qq ?_ | refine qc ?_ | refine qo ?_ | refine qh ?_ | refine qG ?_ | ((refine qn rfl ?_);(first | (refine ju rfl ?_) | (refine qii rfl (te:=131) (by kernel_rfl) ?_) | (refine qik rfl rfl (te:=131) (by kernel_rfl) (by kernel_rfl) ?_) | refine qk rfl ?_ | refine qf tb rfl rfl ?_ | (apply qu tb rfl rfl;(· (refine At.own (?_);repeat (exact Has.here)));(· exact rfl)))) | refine qC rfl ?_))
   exact jb hM hw hV0 hR _ (Ks _) (Qm rfl) rfl
inductive Wr (b:Nat) (d:Int):List UInt8→Own→Prop
 | new (p:Option Addr) (hp:p=none∨p=some ⟨b,0,none⟩):Wr b d [] [(b,.cells [.pointer p,.slice none 0 0,.int .i64 d].toArray 133 (0,0))]
 | full {s:List UInt8} {g cap:Nat} {cur:Array Value} (p:Option Addr) (hp:p=none∨p=some ⟨b,0,none⟩) (hs:s≠[]) (hm:s.length≤cap) (hc:cap≤maxLen) (hz:cur.size=cap) (ht:cur.toList.take s.length=Yy s) :
  Wr b d s [(b,.cells [.pointer p,.slice (some ⟨g,0,none⟩) s.length cap,.int .i64 d].toArray 133 (0,0)),(g,.cells cur 5 (0,0))]
theorem qiW(t:ByteArray):byteCells t=Yy t.data.toList:=rfl
theorem qku(s t:List UInt8):Yy (s++t)=Yy s++Yy t:=by simp[Yy]
theorem y7(t:ByteArray):t.data.toList.length=t.size:=by rw[Kv];rfl
theorem Wr.app{b:Nat}{d:Int}{s:List UInt8}{t:ByteArray}{g cap:Nat}{cur:Array Value}(hne:s.length+t.size≠0)(hm:s.length+t.size≤cap)(hc:cap≤maxLen)(hz:cur.size=cap)(ht:cur.toList.take (s.length+t.size)=Yy s++byteCells t) :
 Wr b d (s++t.data.toList) [(b,.cells [.pointer (some ⟨b,0,none⟩),.slice (some ⟨g,0,none⟩) (s.length+t.size) cap,.int .i64 d].toArray 133 (0,0)),(g,.cells cur 5 (0,0))]:=by
 have hl:(s++t.data.toList).length=s.length+t.size:=by rw[zg,y7]
 rw[← hl];refine .full _ (.inr rfl) (fun h=>hne (by rw[← hl,h];rfl)) (by rw[hl];exact hm) hc hz ?_
 rw[hl,ht,qiW,qku]
theorem c68{V:qa}{b:Nat}{d:Int}{s:List UInt8}{t:ByteArray}{G0:Own}(hW:Wr b d s G0)(hl:s.length+t.size≤549755813888) :
 jl Tryz.prog 144 [.pointer (some ⟨b,0,none⟩),.string t].toArray V G0 fun _ _ G'=>Wr b d (s++t.data.toList) G':=by
 cases hW with
 | new p hp=>
  refine qB Tryz.func144 rfl Tryz.ntmps144 rfl ?_;intro X w hM hMl hw hV0 hR;dsimp only[je,Nat.zero_add,Nat.reduceAdd]
  (repeat' (first | refine qq ?_ | refine qc ?_ | refine qo ?_ | refine qh ?_ | ((first | refine qn rfl ?_ | refine jt ?_);(first | (refine ju rfl ?_) | (refine qp tb rfl rfl rfl (c98 hp rfl rfl) (zq _) ?_;rintro _ V1 _ hs1 rfl;dsimp only[List.cons_append,List.nil_append]) | (refine qbs tb rfl rfl rfl (by kernel_rfl) (KS (by kernel_rfl)) rfl rfl .nil (zq _) (by simpa using hl) ?_;intro v' Gr' hR' hn') | refine qk rfl ?_ | refine qm rfl ?_ | refine qf tb rfl rfl ?_ | (apply qu tb rfl rfl;(· (refine At.own (?_);repeat (exact Has.here)));(· exact rfl))))))
  rcases hR'.parts with⟨rfl,rfl,h0,h1⟩ | ⟨g',cap',cur',rfl,rfl,k1,k2,k3,k4⟩
  · dsimp only[List.cons_append,List.nil_append]
    (repeat' (first | refine qq ?_ | refine qc ?_ | refine qo ?_ | refine qh ?_ | refine qT ?_ | ((first | refine qn rfl ?_ | refine jt ?_);(first | (refine Zb rfl rfl (by kernel_rfl) ?_) | refine qk rfl ?_ | refine qm rfl ?_ | (apply jz tb rfl rfl rfl rfl rfl;(· (repeat (exact Upd.here)));(· exact rfl))))))
    refine QF hM hw hV0 hR _ (Ks _) (qr2 rfl rfl rfl) ?_
    have:t.data.toList=[]:=Vg (by rw[y7];omega)
    rw[this];exact .new _ (.inr rfl)
  · have hne:t.size≠0:=fun h=>by have:=(hn' h).1;cases this
    dsimp only[List.cons_append,List.nil_append]
    (repeat' (first | refine qq ?_ | refine qc ?_ | refine qo ?_ | refine qh ?_ | refine qT ?_ | ((first | refine qn rfl ?_ | refine jt ?_);(first | (refine Zb rfl rfl (by kernel_rfl) ?_) | refine qk rfl ?_ | refine qm rfl ?_ | (apply jz tb rfl rfl rfl rfl rfl;(· (repeat (first | exact Upd.here | apply Upd.there)));(· exact rfl))))))
    refine qk2 (List.Perm.swap _ _ _) ?_
    refine QF hM hw hV0 hR _ (Ks _) (qr2 rfl rfl rfl) ?_
    exact Wr.app (s:=[]) (by simpa using hne) (by simpa using k1) k2 k3 (by simpa[Yy]using k4)
 | @full s g cap cur p hp hs hm hc hz ht=>
  have hsl:s.length≠0:=by simpa using hs
  refine qB Tryz.func144 rfl Tryz.ntmps144 rfl ?_;intro X w hM hMl hw hV0 hR;dsimp only[je,Nat.zero_add,Nat.reduceAdd]
  (repeat' (first | refine qq ?_ | refine qc ?_ | refine qo ?_ | refine qh ?_ | ((first | refine qn rfl ?_ | refine jt ?_);(first | (refine ju rfl ?_) | (refine qp tb rfl rfl rfl (c98 hp rfl rfl) (zq _) ?_;rintro _ V1 _ hs1 rfl;dsimp only[List.cons_append,List.nil_append]) | (refine qbs tb rfl rfl rfl (by kernel_rfl) (KS (by kernel_rfl)) rfl rfl (.some hm hc (by simpa using hz) (by simpa using ht)) (List.Perm.swap _ _ _) hl ?_;intro v' Gr' hR' hn') | refine qk rfl ?_ | refine qm rfl ?_ | refine qf tb rfl rfl ?_ | (apply qu tb rfl rfl;(· (refine At.own (?_);repeat (exact Has.here)));(· exact rfl))))))
  rcases hR'.parts with⟨rfl,rfl,h0,h1⟩ | ⟨g',cap',cur',rfl,rfl,k1,k2,k3,k4⟩
  · omega
  · dsimp only[List.cons_append,List.nil_append]
    (repeat' (first | refine qq ?_ | refine qc ?_ | refine qo ?_ | refine qh ?_ | refine qT ?_ | ((first | refine qn rfl ?_ | refine jt ?_);(first | (refine Zb rfl rfl (by kernel_rfl) ?_) | refine qk rfl ?_ | refine qm rfl ?_ | (apply jz tb rfl rfl rfl rfl rfl;(· (repeat (first | exact Upd.here | apply Upd.there)));(· exact rfl))))))
    refine qk2 (List.Perm.swap _ _ _) ?_
    refine QF hM hw hV0 hR _ (Ks _) (qr2 rfl rfl rfl) ?_
    exact Wr.app (by omega) k1 k2 k3 k4
end Fly
end
section
namespace Fly
open Go
structure jc where
 itoa:Int→List UInt8
 flt:Int→List UInt8
def opE:Ex→Int
 | .mk op _ _ _ _ _ _=>op
def JA(o:Int):Bool:=decide (5≤o)&&decide (o≤16)
def qaJ(o:Int):List UInt8 :=
 if o=5 then[43]else if o=6 then[45]else if o=7 then[42]else if o=8 then[47]else if o=9 then[60]else if o=10 then[60,61]else if o=11 then[61,61]else if o=12 then[33,61]
 else if o=13 then[62]else if o=14 then[62,61]else if o=15 then[38,38]else[124,124]
def Ye(ts:List (Int×List UInt8))(i:Nat):List UInt8 :=
 match ts[i]? with
 | some p=>p.2
 | none=>[]
def yu(ts:List (Int×List UInt8))(i:Nat):List UInt8 :=
 match ts[i]? with
 | some p=>if JA p.1 then[40]++p.2++[41]else p.2
 | none=>[]
def qlI(nm:List UInt8)(ts:List (Int×List UInt8)):List UInt8:=if ts.length=0 then nm else nm++[91]++Ye ts 0++[93]
mutual
def jU(l:jc):Ex→List UInt8
 | .mk op _ b i f nm es=>
  if JA op then yu (textEs l es) 0++([32]++qaJ op++[32])++yu (textEs l es) 1
  else if op=1 then(if b then[116,114,117,101]else[102,97,108,115,101])
  else if op=2 then l.itoa i
  else if op=3 then l.flt f
  else if op=4 then qlI nm.data.toList (textEs l es)
  else if op=17 then[45]++yu (textEs l es) 0
  else if op=18 then[33]++yu (textEs l es) 0
  else if op=19 then[105,110,116,40]++Ye (textEs l es) 0++[41]
  else if op=20 then[102,108,111,97,116,40]++Ye (textEs l es) 0++[41]
  else if op=21 then[97,98,115,40]++Ye (textEs l es) 0++[41]
  else[]
def textEs(l:jc):Exs→List (Int×List UInt8)
 | .nil=>[]
 | .cons e r=>(opE e,jU l e)::textEs l r
end
theorem J3(l:jc):∀(es:Exs) (i:Nat),(textEs l es)[i]?=(es.list[i]?).map fun x=>(opE x,jU l x)
 | .nil,i=>by simp[textEs,Exs.list]
 | .cons e r,0=>by simp[textEs,Exs.list]
 | .cons e r,i+1=>by simp[textEs,Exs.list,J3 l r i]
theorem qa8(l:jc):∀es:Exs,(textEs l es).length=es.list.length
 | .nil=>rfl
 | .cons e r=>by simp[textEs,Exs.list,qa8 l r]
theorem qav{l:jc}{es:Exs}{i:Nat}{x:Ex}(h:es.list[i]?=some x):Ye (textEs l es) i=jU l x:=by simp[Ye,J3,h]
theorem qcF{l:jc}{es:Exs}{i:Nat}(h:es.list[i]?=none):Ye (textEs l es) i=[]:=by simp[Ye,J3,h]
theorem qeI{l:jc}{es:Exs}{i:Nat}{x:Ex}(h:es.list[i]?=some x):yu (textEs l es) i=if JA (opE x)then[40]++jU l x++[41]else jU l x:=by simp[yu,J3,h]
theorem qeJ{l:jc}{es:Exs}{i:Nat}(h:es.list[i]?=none):yu (textEs l es) i=[]:=by simp[yu,J3,h]
end Fly
end
