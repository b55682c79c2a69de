/-
  A small logic of walks: judgements, operations, regions, loops, calls. No condition.
-/
import Derived.Test.YtldhknmacepeiaaGreatDoorHCn
import Derived.Test.YtldhknmacepeiaaGreatDoorTra
import Derived.Test.YtldhknmacepeiaaGreatDoorTrTb
set_option linter.unusedVariables false
set_option linter.unusedSimpArgs false
section
namespace Fly
open Go Go.Proofs
set_option maxRecDepth 10000
attribute [local irreducible] WC WE WR Opr St Go.Calls Js QE jC Rel jl Jk Qj Owe One QS Go.CallsD
theorem c71a{l:jc}{p:Int}{nm:ByteArray}{ix:Exs}{ex:Ex}{lo hi:Int}{tn el:Sts}(hfi:LeafAlls l ix)(hf:Qa l ex):E71 l (.mk 1 p nm ix ex lo hi tn el):=by
 intro V b n s G0 cx hwn hsg hE hW hl;have hn:Zy n:=by unfold Zy;omega
 have htl:(J4 n).length=n:=YS n
 have hna:=y7 nm;simp only[St_.Is]at hE;obtain⟨s1,c1,ce,s2,c2,s3,c3,rfl,g1,h1,he,g2,h2,g3,h3⟩:=hE;have hp:=Exs.parts h1;obtain⟨a0,a1,a2,a3,a4,a5,a6,rfl⟩:=he.lit;simp only[zA,zx];have et:QO l n (.mk 1 p nm ix ex lo hi tn el)=J4 n++nm.data.toList++qs8 (textEs l ix)++([32,61,32]++jU l ex++[59])++[10]:=by simp only[QO,WT]
 rw[et]at hl ⊢;simp only[zg,zm,zt]at hl;have ht:=fun(V':qa) (hs:Sub V V')=>c10 hf (hsg.mono hs) (Ex.Is.mono hs _ he) (by omega)
 have hix:(textEs l ix).length=ix.list.length:=qa8 l ix
 unfold qs8 at hl ⊢
 by_cases h0:ix.list.length=0
 · rw[zZ (by omega)]at hl ⊢
   refine qB Tryz.func147 rfl Tryz.ntmps147 rfl ?_;intro X w hM hMl hw hV0 hR;dsimp only[je,Nat.zero_add,Nat.reduceAdd]
   (repeat' (first | refine qq ?_ | refine qc ?_ | refine qo ?_ | refine qh ?_ | refine qz ?_ | refine qG ?_ | ((refine qn rfl ?_);(first | (refine qO rfl ?_;intro bx;refine jB (zE (l₁:=[_])) ?_) | (apply qu tb rfl rfl;(· exact At.own (.app .here));(· exact rfl)) | (apply qQ tb rfl rfl;(· exact At.own (.app .here));(· exact rfl)) | (apply qw tb hMl;(· exact rfl);(· exact rfl);(· exact rfl);(· decide);(· (repeat (first | exact Cat.nil | (apply Cat.cons;(· exact rfl);(· exact rfl);(· exact rfl)) | exact App.nil | apply App.cons)));intro b1 hb1) | (refine jE tb rfl (g1.mono hq1) rfl rfl hp.1 (by decide) ?_) | (refine qdv rfl rfl (by omega) ?_) | (refine qp tb rfl rfl rfl (qrO hn hb1 hW (by omega)) (zq _) ?_;intro _ V1 G1 hs1 hW1;have hq1:=(Sub.addV hb1).trans hs1) | refine qk rfl ?_ | refine qm rfl ?_ | refine jJ rfl rfl ?_ | refine qf tb rfl rfl ?_)) | refine qS rfl ?_ | refine qC rfl ?_))
   have ht1:=ht V1 hq1
   (repeat' (first | refine qc ?_ | refine qo ?_ | refine qh ?_ | refine jg ?_ | ((refine qn rfl ?_);(first | (apply qw tb hMl;(· exact rfl);(· exact rfl);(· exact rfl);(· decide);(· (repeat (first | exact Cat.nil | (apply Cat.cons;(· exact rfl);(· exact rfl);(· exact rfl)) | exact App.nil | apply App.cons)));intro b1 hb1) | (refine qE tb rfl rfl ht1 ?_) | (refine qp tb rfl rfl rfl (qnp hb1 hW1 (by simp only[zg,ja,zm,zt];omega)) (zq _) ?_;intro _ V2 G2 hs2 hW2) | refine qk rfl ?_))))
   (repeat' (first | refine qo ?_ | ((refine qn rfl ?_);(refine qp tb rfl rfl rfl (Yg hb1 hW2 (by simp only[zg,ja,zm,zt];omega)).1 (zq _) ?_;intro _ V3 G3 hs3 hW3))))
   refine jb hM hw hV0 hR _ (zH _ _) (Qm rfl) ?_
   simp only[← zG,Kh]at hW3 ⊢;exact hW3
 · rw[zP (by omega)]at hl ⊢
   simp only[zg,zm,zt]at hl;obtain⟨x0,hx0⟩:∃x0,ix.list[0]?=some x0:=⟨_,zB (by omega)⟩
   have hfx:Qa l x0:=qjA ix hfi x0 (zW hx0)
   rw[qav hx0]at hl ⊢;refine qB Tryz.func147 rfl Tryz.ntmps147 rfl ?_;intro X w hM hMl hw hV0 hR;dsimp only[je,Nat.zero_add,Nat.reduceAdd]
   (repeat' (first | refine qq ?_ | refine qc ?_ | refine qo ?_ | refine qh ?_ | refine qz ?_ | ((refine qn rfl ?_);(first | (refine qO rfl ?_;intro bx;refine jB (zE (l₁:=[_])) ?_) | (apply qu tb rfl rfl;(· exact At.own (.app .here));(· exact rfl)) | (apply qw tb hMl;(· exact rfl);(· exact rfl);(· exact rfl);(· decide);(· (repeat (first | exact Cat.nil | (apply Cat.cons;(· exact rfl);(· exact rfl);(· exact rfl)) | exact App.nil | apply App.cons)));intro b1 hb1) | (refine qp tb rfl rfl rfl (qrO hn hb1 hW (by omega)) (zq _) ?_;intro _ V1 G1 hs1 hW1;have hq1:=(Sub.addV hb1).trans hs1) | refine qk rfl ?_ | refine qm rfl ?_ | refine jJ rfl rfl ?_ | refine qf tb rfl rfl ?_)) | refine qS rfl ?_))
   have ht1:=ht V1 hq1;have hp1:=Exs.parts (Exs.Is.mono hq1 _ h1)
   obtain⟨ax,lx,qx,rfl,hz1,hz2,hlx,hpx⟩:=g1.mono hq1;have hxl:=hp1.1;have hlx':lx=ix.list.length:=by omega
   obtain⟨b2,o2,rfl,hrx⟩:=hpx.resolve_left (by omega)
   obtain⟨c,hc1,⟨x',hx1',hc2⟩,hc3⟩:=hp1.rd hrx (i:=0) (by omega)
   obtain rfl:x'=x0:=by rw[hx0]at hx1';exact(Vm hx1').symm
   have htx:=c10 hfx (hsg.mono hq1) hc2 (by omega)
   obtain⟨y0,y1,y2,y3,y4,y5,y6,rfl⟩:=hc2.lit
   (repeat' (first | refine qc ?_ | refine qo ?_ | refine qh ?_ | ((refine qn rfl ?_);(first | (apply qu tb rfl rfl;(· exact At.own (.app .here));(· exact rfl)) | (apply qQ tb rfl rfl;(· exact At.own (.app .here));(· exact rfl)) | (apply qw tb hMl;(· exact rfl);(· exact rfl);(· exact rfl);(· decide);(· (repeat (first | exact Cat.nil | (apply Cat.cons;(· exact rfl);(· exact rfl);(· exact rfl)) | exact App.nil | apply App.cons)));intro b1 hb1) | (refine jE tb rfl (g1.mono hq1) rfl rfl hp.1 (by decide) ?_) | (refine qdu rfl rfl (by omega) ?_) | (refine qV tb rfl rfl rfl (by omega) (by omega) ?_) | (refine j8 tb rfl rfl hc1 (by decide) hc3 ?_) | (refine qE tb rfl rfl htx ?_) | (refine qp tb rfl rfl rfl (qnp hb1 hW1 (by simp only[zg,ja,zm,zt];omega)) (zq _) ?_;intro _ V2 G2 hs2 hW2;have hq2:=hq1.trans ((Sub.addV hb1).trans hs2)) | refine qk rfl ?_ | refine qf tb rfl rfl ?_)) | refine qS rfl ?_))
   have ht2:=ht V2 hq2
   (repeat' (first | refine qc ?_ | refine qo ?_ | refine qh ?_ | refine jg ?_ | ((refine qn rfl ?_);(first | (apply qw tb hMl;(· exact rfl);(· exact rfl);(· exact rfl);(· decide);(· (repeat (first | exact Cat.nil | (apply Cat.cons;(· exact rfl);(· exact rfl);(· exact rfl)) | exact App.nil | apply App.cons)));intro b1 hb1) | (refine qE tb rfl rfl ht2 ?_) | (refine qp tb rfl rfl rfl (qnp hb1 hW2 (by simp only[zg,ja,zm,zt];omega)) (zq _) ?_;intro _ V3 G3 hs3 hW3) | refine qk rfl ?_))))
   (repeat' (first | refine qo ?_ | ((refine qn rfl ?_);(refine qp tb rfl rfl rfl (Yg hb1 hW3 (by simp only[zg,ja,zm,zt];omega)).1 (zq _) ?_;intro _ V4 G4 hs4 hW4))))
   refine jb hM hw hV0 hR _ (zH _ _) (Qm rfl) ?_
   simp only[← zG]at hW4 ⊢;exact hW4
theorem c71b{l:jc}{p:Int}{nm:ByteArray}{ix:Exs}{ex:Ex}{lo hi:Int}{tn el:Sts}(hf:Qa l ex)(hkt:∀x∈tn.list,E71 l x)(hke:∀x∈el.list,E71 l x):E71 l (.mk 2 p nm ix ex lo hi tn el):=by
 intro V b n s G0 cx hwn hsg hE hW hl;have hn:Zy n:=by unfold Zy;omega
 have htl:(J4 n).length=n:=YS n
 simp only[wS]at hwn;simp only[St_.Is]at hE;obtain⟨s1,c1,ce,s2,c2,s3,c3,rfl,g1,h1,he,g2,h2,g3,h3⟩:=hE;have hp:=Sts.parts h3;obtain⟨a0,a1,a2,a3,a4,a5,a6,rfl⟩:=he.lit;simp only[zA,zx];have et:QO l n (.mk 2 p nm ix ex lo hi tn el)=J4 n++([105,102,32]++jU l ex)++Jq l n tn++(if el.list.length=0 then[]else[32,101,108,115,101]++Jq l n el)++[10]:=by simp only[QO,Jq,WT,zP (show¬(2:Int)=1 by decide)]
 rw[et]at hl ⊢;generalize hEE:(if el.list.length=0 then([]:List UInt8)else[32,101,108,115,101]++Jq l n el)=E at hl ⊢
 simp only[zg,zm,zt]at hl;have ht:=c10 hf hsg he (by omega)
 refine qB Tryz.func147 rfl Tryz.ntmps147 rfl ?_;intro X w hM hMl hw hV0 hR;dsimp only[je,Nat.zero_add,Nat.reduceAdd]
 (repeat' (first | refine qq ?_ | refine qc ?_ | refine qo ?_ | refine qh ?_ | refine qz ?_ | ((refine qn rfl ?_);(first | (refine qO rfl ?_;intro bx;refine jB (zE (l₁:=[_])) ?_) | (apply qu tb rfl rfl;(· exact At.own (.app .here));(· exact rfl)) | (apply qQ tb rfl rfl;(· exact At.own (.app .here));(· exact rfl)) | (apply qw tb hMl;(· exact rfl);(· exact rfl);(· exact rfl);(· decide);(· (repeat (first | exact Cat.nil | (apply Cat.cons;(· exact rfl);(· exact rfl);(· exact rfl)) | exact App.nil | apply App.cons)));intro b1 hb1) | (refine qE tb rfl rfl ht ?_) | (refine qp tb rfl rfl rfl (qxV hn hb1 hW (by simp only[ja,zm,zt];omega)) (zq _) ?_;intro _ V1 G1 hs1 hW1;have hq1:=(Sub.addV hb1).trans hs1) | refine qk rfl ?_ | refine qm rfl ?_ | refine jJ rfl rfl ?_ | refine qf tb rfl rfl ?_)) | refine qS rfl ?_ | refine qC rfl ?_))
 have hc1:=c37 hkt (V:=V1) (n:=n) (by omega) (hsg.mono hq1) (g2.mono hq1) (Sts.Is.mono hq1 _ h2) hW1 (by simp only[zg,zm,zt];omega)
 (repeat' (first | refine qq ?_ | refine qc ?_ | refine qo ?_ | refine qh ?_ | ((refine qn rfl ?_);(first | (apply qu tb rfl rfl;(· exact At.own (.app .here));(· exact rfl)) | (refine qp tb rfl rfl rfl hc1 (zq _) ?_;intro _ V2 G2 hs2 hW2;have hq2:=hq1.trans hs2) | refine qf tb rfl rfl ?_))))
 by_cases h0:el.list.length=0
 · have hE0:E=[]:=by rw[← hEE,zZ h0]
   subst hE0
   (repeat' (first | refine qc ?_ | refine qo ?_ | refine qh ?_ | refine qG ?_ | refine jg ?_ | ((refine qn rfl ?_);(first | (apply qw tb hMl;(· exact rfl);(· exact rfl);(· exact rfl);(· decide);(· (repeat (first | exact Cat.nil | (apply Cat.cons;(· exact rfl);(· exact rfl);(· exact rfl)) | exact App.nil | apply App.cons)));intro b1 hb1) | (refine jE tb rfl (g3.mono hq2) rfl rfl hp.1 (by decide) ?_) | (refine qdv rfl rfl (by omega) ?_) | (refine qp tb rfl rfl rfl (Yg hb1 hW2 (by simp only[zg,ja,zm,zt];omega)).1 (zq _) ?_;intro _ V4 G4 hs4 hW4) | refine qk rfl ?_)) | refine qC rfl ?_))
   refine jb hM hw hV0 hR _ (zH _ _) (Qm rfl) ?_
   simp only[← zG,Kh]at hW4 ⊢;exact hW4
 · have hE0:E=[32,101,108,115,101]++Jq l n el:=by rw[← hEE,zP h0]
   subst hE0;simp only[zg,zm,zt]at hl
   (repeat' (first | refine qq ?_ | refine qc ?_ | refine qo ?_ | refine qh ?_ | ((refine qn rfl ?_);(first | (apply qu tb rfl rfl;(· exact At.own (.app .here));(· exact rfl)) | (apply qw tb hMl;(· exact rfl);(· exact rfl);(· exact rfl);(· decide);(· (repeat (first | exact Cat.nil | (apply Cat.cons;(· exact rfl);(· exact rfl);(· exact rfl)) | exact App.nil | apply App.cons)));intro b1 hb1) | (refine jE tb rfl (g3.mono hq2) rfl rfl hp.1 (by decide) ?_) | (refine qdu rfl rfl (by omega) ?_) | (refine qp tb rfl rfl rfl (Yg hb1 hW2 (by simp only[zg,ja,zm,zt];omega)).1 (zq _) ?_;intro _ V3 G3 hs3 hW3;have hq3:=hq2.trans ((Sub.addV hb1).trans hs3)) | refine qk rfl ?_ | refine qf tb rfl rfl ?_)) | refine qS rfl ?_))
   have hc3:=c37 hke (V:=V3) (n:=n) (by omega) (hsg.mono hq3) (g3.mono hq3) (Sts.Is.mono hq3 _ h3) hW3 (by simp only[zg,ja,zm,zt];omega)
   (repeat' (first | refine qc ?_ | refine qo ?_ | refine qh ?_ | refine jg ?_ | ((refine qn rfl ?_);(first | (apply qw tb hMl;(· exact rfl);(· exact rfl);(· exact rfl);(· decide);(· (repeat (first | exact Cat.nil | (apply Cat.cons;(· exact rfl);(· exact rfl);(· exact rfl)) | exact App.nil | apply App.cons)));intro b1 hb1) | (refine qp tb rfl rfl rfl hc3 (zq _) ?_;intro _ V4 G4 hs4 hW4) | (refine qp tb rfl rfl rfl (Yg hb1 hW4 (by simp only[zg,ja,zm,zt];omega)).1 (zq _) ?_;intro _ V5 G5 hs5 hW5) | refine qk rfl ?_))))
   refine jb hM hw hV0 hR _ (zH _ _) (Qm rfl) ?_
   simp only[← zG]at hW5 ⊢;exact hW5
theorem c71c{l:jc}{p:Int}{nm:ByteArray}{ix:Exs}{ex:Ex}{lo hi:Int}{tn el:Sts}(hlo:qhO l lo∧-2147483648≤lo∧lo≤2147483647)(hhi:qhO l hi∧-2147483648≤hi∧hi≤2147483647)(hkt:∀x∈tn.list,E71 l x):E71 l (.mk 3 p nm ix ex lo hi tn el):=by
 intro V b n s G0 cx hwn hsg hE hW hl;have hn:Zy n:=by unfold Zy;omega
 have htl:(J4 n).length=n:=YS n
 have hna:=y7 nm;simp only[wS]at hwn;simp only[St_.Is]at hE;obtain⟨s1,c1,ce,s2,c2,s3,c3,rfl,g1,h1,he,g2,h2,g3,h3⟩:=hE;obtain⟨a0,a1,a2,a3,a4,a5,a6,rfl⟩:=he.lit;simp only[zA,zx];have et:QO l n (.mk 3 p nm ix ex lo hi tn el)=J4 n++([102,111,114,32]++(nm.data.toList++([32,61,32]++(l.itoa lo++([32,46,46,32]++l.itoa hi)))))++Jq l n tn++[10]:=by
  simp only[QO,Jq,WT,zP (show¬(3:Int)=1 by decide),zP (show¬(3:Int)=2 by decide),zG]
 rw[et]at hl ⊢;simp only[zg,zm,zt]at hl;obtain⟨hlo,hlo1,hlo2⟩:=hlo;obtain⟨hhi,hhi1,hhi2⟩:=hhi;have hi1:=Zp (hlo V hsg)
 have hi2:=Zp (hhi V hsg)
 refine qB Tryz.func147 rfl Tryz.ntmps147 rfl ?_;intro X w hM hMl hw hV0 hR;dsimp only[je,Nat.zero_add,Nat.reduceAdd]
 (repeat' (first | refine qq ?_ | refine qc ?_ | refine qo ?_ | refine qh ?_ | refine qz ?_ | ((refine qn rfl ?_);(first | (refine qO rfl ?_;intro bx;refine jB (zE (l₁:=[_])) ?_) | (apply qu tb rfl rfl;(· exact At.own (.app .here));(· exact rfl)) | refine qm rfl ?_ | refine jJ rfl rfl ?_ | refine qf tb rfl rfl ?_)) | refine qS rfl ?_ | refine qC rfl ?_))
 (refine j9 12 mo rfl (by kernel_rfl) rfl ?_;(repeat (first | (apply Prog.step (yE _) (qH _) rfl rfl;· (intro V1 F1 hs1;(repeat (first | refine qX ?_ | refine qW ?_));refine qZ ?_;(first | (apply qu tb rfl rfl;(· exact At.own (.app (.app .here)));(· exact rfl)) | (refine qfO tb rfl rfl rfl (by omega) (by omega) ?_) | (refine qE tb rfl rfl (hi1.mono (by assumption)) ?_) | (refine qE tb rfl rfl (hi2.mono (by assumption)) ?_) | refine qk rfl ?_ | refine qf tb rfl rfl ?_);exact jh)) | (apply Prog.step (qmN (qcj _ _ _)) (qch ZG) rfl rfl;· (intro V1 F1 hs1;(repeat (first | refine qX ?_ | refine qW ?_));refine qZ ?_;apply qw tb hMl;(· exact rfl);(· exact rfl);(· exact rfl);(· decide);(· (repeat (first | exact Cat.nil | (apply Cat.cons;(· exact rfl);(· exact rfl);(· exact rfl)) | exact App.nil | apply App.cons)));(· (intro b2 hb2;exact qgN hb2))))));refine Prog.done ?_;intro V1 hs1;repeat (first | refine yc ?_ | (refine qdX ?_;rintro _ ⟨b1,rfl,hb1⟩) | refine yd ?_))
 (repeat' (first | refine qc ?_ | refine qo ?_ | refine qh ?_ | ((refine qn rfl ?_);(first | (apply qu tb rfl rfl;(· exact At.own (.app .here));(· exact rfl)) | (refine qp tb rfl rfl rfl (qxW hn hb1 hW (by simp only[ja,zm,zt];omega)) (zq _) ?_;intro _ V1 G1 hsx hW1;have hq1:=hs1.trans hsx) | refine qk rfl ?_ | refine qf tb rfl rfl ?_))))
 have hc1:=c37 hkt (V:=V1) (n:=n) (by omega) (hsg.mono hq1) (g2.mono hq1) (Sts.Is.mono hq1 _ h2) hW1 (by simp only[zg,ja,zm,zt];omega)
 (repeat' (first | refine qc ?_ | refine qo ?_ | refine qh ?_ | refine jg ?_ | ((refine qn rfl ?_);(first | (apply qw tb hMl;(· exact rfl);(· exact rfl);(· exact rfl);(· decide);(· (repeat (first | exact Cat.nil | (apply Cat.cons;(· exact rfl);(· exact rfl);(· exact rfl)) | exact App.nil | apply App.cons)));intro b1 hb1) | (refine qp tb rfl rfl rfl hc1 (zq _) ?_;intro _ V2 G2 hs2 hW2;have hq2:=hq1.trans hs2) | (refine qp tb rfl rfl rfl (Yg hb1 hW2 (by simp only[zg,ja,zm,zt];omega)).1 (zq _) ?_;intro _ V4 G4 hs4 hW4) | refine qk rfl ?_))))
 refine jb hM hw hV0 hR _ (zH _ _) (Qm rfl) ?_
 simp only[← zG]at hW4 ⊢;exact hW4
theorem c71d{l:jc}{kd p:Int}{nm:ByteArray}{ix:Exs}{ex:Ex}{lo hi:Int}{tn el:Sts}(k1 : ¬kd=1)(k2 : ¬kd=2)(k3 : ¬kd=3):E71 l (.mk kd p nm ix ex lo hi tn el):=by
 intro V b n s G0 cx hwn hsg hE hW hl;simp only[St_.Is]at hE;obtain⟨s1,c1,ce,s2,c2,s3,c3,rfl,g1,h1,he,g2,h2,g3,h3⟩:=hE;obtain⟨a0,a1,a2,a3,a4,a5,a6,rfl⟩:=he.lit;simp only[zA,zx];have et:QO l n (.mk kd p nm ix ex lo hi tn el)=[]:=by simp only[QO,zP k1,zP k2,zP k3]
 rw[et,Kh];refine qB Tryz.func147 rfl Tryz.ntmps147 rfl ?_;intro X w hM hMl hw hV0 hR;dsimp only[je,Nat.zero_add,Nat.reduceAdd]
 (repeat' (first | refine qq ?_ | refine qc ?_ | refine qo ?_ | refine qh ?_ | refine qz ?_ | refine qT ?_ | ((refine qn rfl ?_);(first | (refine qO rfl ?_;intro bx;refine jB (zE (l₁:=[_])) ?_) | (apply qu tb rfl rfl;(· exact At.own (.app .here));(· exact rfl)) | (refine qli rfl rfl (by omega) ?_) | refine qm rfl ?_ | refine qf tb rfl rfl ?_)) | refine qC rfl ?_))
 exact QF hM hw hV0 hR _ (zH _ _) (Qm rfl) hW
mutual
theorem c71{l:jc}:∀(x:St_),qjz l x→E71 l x
 | .mk kd p nm ix ex lo hi tn el,h=>by
  simp only[qjz]at h;obtain⟨h1,h2,h3,h4,h5⟩:=h;by_cases k1:kd=1
  · subst k1;exact c71a h1 h2
  by_cases k2:kd=2
  · subst k2;exact c71b h2 (c71s tn h4) (c71s el h5)
  by_cases k3:kd=3
  · subst k3;exact c71c (h3 rfl).1 (h3 rfl).2 (c71s tn h4)
  exact c71d k1 k2 k3
 termination_by structural x=>x
theorem c71s{l:jc}:∀(es:Sts),LeafSs l es→∀x∈es.list,E71 l x
 | .nil,_,x,hm=>by simp[Sts.list]at hm
 | .cons e r,h,x,hm=>by
  simp only[LeafSs]at h;rcases zO.1 hm with h' | h'
  · rw[h'];exact c71 e h.1
  · exact c71s r h.2 x h'
 termination_by structural x=>x
end
end Fly
end
section
namespace Fly
open Go Go.Proofs
set_option maxRecDepth 10000
attribute [local irreducible] WC WE WR Opr St Go.Calls Js QE jC Rel jl Jk Qj Owe One QS Go.CallsD
theorem qxX(t:Int):QE Tryz.prog 146 [.int .u8 t] (.string ⟨(qgb t).toArray⟩):=by
 refine Y5 Tryz.func146 rfl Tryz.ntmps146 rfl ?_;intro X w V hM hw hV0 hR;dsimp only[je,Nat.zero_add,Nat.reduceAdd]
 (repeat' (first | refine qq ?_ | refine qc ?_ | refine qo ?_ | refine qh ?_ | refine qz ?_ | refine qG ?_ | refine jg ?_ | refine qT ?_ | ((refine qn rfl ?_);(first | refine qk rfl ?_ | refine qm rfl ?_ | refine jJ rfl rfl ?_)) | refine jW rfl (fun _=>?_) (fun _=>?_)))
 all_goals (refine ZE hM hw hV0 hR (yy rfl rfl) ?_)
 all_goals simp[qgb, *]
 all_goals rfl
theorem qwR{V:qa}{b b1:Nat}{d:Int}{s:List UInt8}{t t2 t3 t4:ByteArray}{G0:Own}(hb:V b1=some (.cells [.string t,.string t2,.string t3,.string t4].toArray 9 (0,0)))(hW:Wr b d s G0)(hl:s.length+(t.size+(t2.size+(t3.size+t4.size)))≤549755813888) :
 jl Tryz.prog 93 [.pointer (some ⟨b,0,none⟩),.slice (some ⟨b1,0,none⟩) 4 4].toArray V G0 fun _ _ G'=>Wr b d (s++(t.data.toList++(t2.data.toList++(t3.data.toList++t4.data.toList)))) G':=by
 have:=(qno (ts:=[t,t2,t3,t4]) (Sl.at (k:=1) (m:=4) (e:=9) hb rfl (by decide)) hW (by simpa[yQ,y7]using hl)).1
 simpa[yQ]using this
theorem qwS{V:qa}{b b1:Nat}{d:Int}{s:List UInt8}{t t2 t3 t4 t5:ByteArray}{G0:Own}(hb:V b1=some (.cells [.string t,.string t2,.string t3,.string t4,.string t5].toArray 9 (0,0)))(hW:Wr b d s G0)(hl:s.length+(t.size+(t2.size+(t3.size+(t4.size+t5.size))))≤549755813888) :
 jl Tryz.prog 93 [.pointer (some ⟨b,0,none⟩),.slice (some ⟨b1,0,none⟩) 5 5].toArray V G0 fun _ _ G'=>Wr b d (s++(t.data.toList++(t2.data.toList++(t3.data.toList++(t4.data.toList++t5.data.toList))))) G':=by
 have:=(qno (ts:=[t,t2,t3,t4,t5]) (Sl.at (k:=1) (m:=5) (e:=9) hb rfl (by decide)) hW (by simpa[yQ,y7]using hl)).1
 simpa[yQ]using this
def quW(l:jc)(d:Dc):Prop:=Qa l d.lo∧Qa l d.hi∧qhO l d.len
set_option maxHeartbeats 1000000 in
theorem qxY{l:jc}{d:Dc}(hd:quW l d)(hle:(jU l d.lo).length≤549755813888∧(jU l d.hi).length≤549755813888){V:qa}{b:Nat}{dp:Int}{s:List UInt8}{G0:Own}{cx:List Value}(hsg:yl V)(hE:Dc.Is V d cx)(hW:Wr b dp s G0)(hl:s.length+(Z1 l d).length≤549755813888) :
 jl Tryz.prog 95 [.pointer (some ⟨b,0,none⟩),.agg cx.toArray].toArray V G0 fun _ _ G'=>Wr b dp (s++Z1 l d) G':=by
 obtain⟨at_,inp,nm,ty,len,rng,lo,hi⟩:=d;obtain⟨hlo,hhi,hlen⟩:=hd;obtain⟨cl,ch,rfl,h1,h2⟩:=hE;dsimp only at hlo hhi hlen h1 h2 hle;have hna:=y7 nm;obtain⟨a0,a1,a2,a3,a4,a5,a6,rfl⟩:=h1.lit;obtain⟨d0,d1,d2,d3,d4,d5,d6,rfl⟩:=h2.lit;simp only[zA,zx];have et:Z1 l ⟨at_,inp,nm,ty,len,rng,lo,hi⟩=((if inp then[105,110,112,117,116,32]else[118,97,114,32])++(nm.data.toList++([58,32]++qgb ty)))++(if 0<len then[91]++l.itoa len++[93]else[]) ++
  (if rng then[32,105,110,32,91]++(jU l lo++([44,32]++(jU l hi++[93])))else[])++[59,10]:=by simp only[Z1,zG]
 rw[et]at hl ⊢;clear et;have kd:=(qxX ty).v V
 have kl:=Zp (hlen V hsg)
 cases inp <;> cases rng <;> by_cases hpos:0<len
 all_goals (first | rw[zZ hpos]at hl ⊢ | rw[zP hpos]at hl ⊢)
 all_goals simp only[WT,Wy,Bool.false_eq_true,Kh]at hl ⊢
 all_goals simp only[zg,zm,zt]at hl
 all_goals (have hq1:=Sub.refl V)
 all_goals (have ht1:=c10 hlo hsg h1 (by omega))
 all_goals (have ht2:=c10 hhi hsg h2 (by omega))
 all_goals (refine qB Tryz.func95 rfl Tryz.ntmps95 rfl ?_;intro X w hM hMl hw hV0 hR;dsimp only[je,Nat.zero_add,Nat.reduceAdd])
 all_goals (repeat' (first | refine qq ?_ | refine qc ?_ | refine qo ?_ | refine qh ?_ | refine qG ?_ | ((refine qn rfl ?_);(first | (refine qO rfl ?_;intro bx;refine jB (zE (l₁:=[_])) ?_) | (apply qu tb rfl rfl;(· exact At.own (.app .here));(· exact rfl)) | refine qm rfl ?_ | refine qf tb rfl rfl ?_)) | refine qS rfl ?_ | refine qC rfl ?_))
 all_goals (refine j9 8 mo rfl (by kernel_rfl) rfl ?_;(repeat (first | (apply Prog.step (yE _) (qH _) rfl rfl;· (intro V1 F1 hs1;(repeat (first | refine qX ?_ | refine qW ?_));refine qZ ?_;(first | (apply qu tb rfl rfl;(· exact At.own (.app (.app .here)));(· exact rfl)) | (refine qE tb rfl rfl (kd.mono (by assumption)) ?_) | refine qk rfl ?_ | refine qf tb rfl rfl ?_);exact jh)) | (apply Prog.step (qmN (qcj _ _ _)) (qch ZG) rfl rfl;· (intro V1 F1 hs1;(repeat (first | refine qX ?_ | refine qW ?_));refine qZ ?_;apply qw tb hMl;(· exact rfl);(· exact rfl);(· exact rfl);(· decide);(· (repeat (first | exact Cat.nil | (apply Cat.cons;(· exact rfl);(· exact rfl);(· exact rfl)) | exact App.nil | apply App.cons)));(· (intro b2 hb2;exact qgN hb2))))));refine Prog.done ?_;intro V1 hs1;repeat (first | refine yc ?_ | (refine qdX ?_;rintro _ ⟨b1,rfl,hb1⟩) | refine yd ?_))
 all_goals (repeat' (first | refine qq ?_ | refine qc ?_ | refine qo ?_ | refine qh ?_ | refine qG ?_ | ((refine qn rfl ?_);(first | (apply qu tb rfl rfl;(· exact At.own (.app .here));(· exact rfl)) | (apply qw tb hMl;(· exact rfl);(· exact rfl);(· exact rfl);(· decide);(· (repeat (first | exact Cat.nil | (apply Cat.cons;(· exact rfl);(· exact rfl);(· exact rfl)) | exact App.nil | apply App.cons)));intro b1 hb1) | (refine qdu rfl rfl (by omega) ?_) | (refine qdv rfl rfl (by omega) ?_) | (refine qE tb rfl rfl (kl.mono hq1) ?_) | (refine qp tb rfl rfl rfl (qwR hb1 hW (by simp only[ja,zm,zt];omega)) (zq _) ?_;intro _ V1 G1 hsx hW1;have hq1:=hs1.trans hsx;clear hW) | (refine qp tb rfl rfl rfl (qnp hb1 hW1 (by simp only[zg,ja,zm,zt];omega)) (zq _) ?_;intro _ V1 G1 hs1 hW1;have hq1:=hq1.trans ((Sub.addV hb1).trans hs1)) | refine qk rfl ?_ | refine qf tb rfl rfl ?_)) | refine qS rfl ?_ | refine qC rfl ?_))
 all_goals (first | ((refine j9 8 mo rfl (by kernel_rfl) rfl ?_;(repeat (first | (apply Prog.step (yE _) (qH _) rfl rfl;· (intro V1 F1 hs1;(repeat (first | refine qX ?_ | refine qW ?_));refine qZ ?_;(first | (apply qQ tb rfl rfl;(· exact At.own (.app (.app .here)));(· exact rfl)) | (refine qE tb rfl rfl ((ht1.mono hq1).mono (by assumption)) ?_) | (refine qE tb rfl rfl ((ht2.mono hq1).mono (by assumption)) ?_) | refine qk rfl ?_ | refine qf tb rfl rfl ?_);exact jh)) | (apply Prog.step (qmN (qcj _ _ _)) (qch ZG) rfl rfl;· (intro V1 F1 hs1;(repeat (first | refine qX ?_ | refine qW ?_));refine qZ ?_;apply qw tb hMl;(· exact rfl);(· exact rfl);(· exact rfl);(· decide);(· (repeat (first | exact Cat.nil | (apply Cat.cons;(· exact rfl);(· exact rfl);(· exact rfl)) | exact App.nil | apply App.cons)));(· (intro b2 hb2;exact qgN hb2))))));refine Prog.done ?_;intro V1 hs1;repeat (first | refine yc ?_ | (refine qdX ?_;rintro _ ⟨b1,rfl,hb1⟩) | refine yd ?_));(repeat' (first | refine qc ?_ | refine qo ?_ | refine qh ?_ | ((refine qn rfl ?_);(first | (apply qw tb hMl;(· exact rfl);(· exact rfl);(· exact rfl);(· decide);(· (repeat (first | exact Cat.nil | (apply Cat.cons;(· exact rfl);(· exact rfl);(· exact rfl)) | exact App.nil | apply App.cons)));intro b1 hb1) | (refine qp tb rfl rfl rfl (qwS hb1 hW1 (by simp only[zg,ja,zm,zt];omega)) (zq _) ?_;intro _ V1 G1 hsx hW1) | refine qk rfl ?_))))) | skip)
 all_goals (repeat' (first | refine qo ?_ | ((refine qn rfl ?_);(refine qp tb rfl rfl rfl (Yg hb1 hW1 (by simp only[zg,ja,zm,zt];omega)).1 (zq _) ?_;intro _ V9 G9 hs9 hW9))))
 all_goals refine jb hM hw hV0 hR _ (zH _ _) (Qm rfl) ?_
 all_goals simp only[← zG]at hW9 ⊢
 all_goals exact hW9
end Fly
end
section
namespace Fly
open Go
theorem qjB{l:jc}{ds:List Dc}{i:Nat}{d:Dc}(h:ds[i]?=some d):yI l (ds.take (i+1))=yI l (ds.take i)++Z1 l d:=by
 unfold yI;rw[WL,h];simp
theorem qe9(l:jc)(ds:List Dc)(i:Nat):(yI l (ds.take i)).length≤(yI l ds).length:=by
 have h:yI l ds=yI l (ds.take i)++yI l (ds.drop i):=by
  unfold yI;rw[← List.flatten_append,← Kt,KC]
 rw[h,zg];omega
end Fly
end
section
namespace Fly
open Go Go.Proofs
set_option maxRecDepth 10000
attribute [local irreducible] WC WE WR Opr St Go.Calls Js QE jC Rel jl Jk Qj Owe One QS Go.CallsD
set_option maxHeartbeats 2000000 in
theorem c12{l:jc}{p:Pg}(hd:∀d∈p.ds,quW l d∧(jU l d.lo).length≤549755813888∧(jU l d.hi).length≤549755813888)(hi:LeafSs l p.ini)(hs:LeafSs l p.step)(hwi:wSs p.ini≤90000)(hws:wSs p.step≤90000)(ht:qhO l p.ticks)
 {V:qa} {cx:List Value} (hsg:yl V) (hE:Pg.Is V p cx) (hl:(YB l p).length≤549755813888):jC Tryz.prog 42 [.agg cx.toArray] V (.string ⟨(YB l p).toArray⟩):=by
 obtain⟨sd,cd,si,ci,ss,cS,rfl,g1,h1,g2,h2,g3,h3⟩:=hE;have hp:=QI.parts h1;have kt:=Zp (ht V hsg)
 have hte:YB l p=([116,105,99,107,115,32]++l.itoa p.ticks++[59,10])++yI l p.ds++[105,110,105,116]++Jq l 0 p.ini++[10,115,116,101,112]++Jq l 0 p.step++[10]:=rfl
 rw[hte]at hl ⊢;simp only[zg,zm,zt]at hl;have hseg:=qe9 l p.ds;generalize hm:p.ds.length=m at *
 refine jk Tryz.func42 rfl Tryz.ntmps42 rfl ?_;intro X w hM hw hV0 hR;dsimp only[je,Nat.zero_add,Nat.reduceAdd]
 have hMl:∀r,X.M r→r<X.w0.heap.size:=fun r h=>by rw[hM]at h;exact h.elim
 (repeat' (first | refine qq ?_ | refine qc ?_ | refine qo ?_ | refine qh ?_ | ((refine qn rfl ?_);(first | (apply qw tb hMl;(· exact rfl);(· exact rfl);(· exact rfl);(· decide);(· (repeat (first | exact Cat.nil | (apply Cat.cons;(· exact rfl);(· exact rfl);(· exact rfl)) | exact App.nil | apply App.cons)));intro b1 hb1) | (refine qE tb rfl rfl kt ?_) | (refine qp tb rfl rfl rfl (qnp hb1 (.new (d:=((0:Nat):Int)) none (.inl rfl)) (by simp only[ja,zm,zt];omega)) (zq _) ?_;intro _ V1 G1 hs1 hW1;have hq1:=(Sub.addV hb1).trans hs1) | refine qk rfl ?_ | refine qm rfl ?_ | refine qf tb rfl rfl ?_ | (apply qu tb rfl rfl;(· (refine At.own (?_);repeat (first | exact Has.here | refine Has.there ?_)));(· exact rfl)) | (apply yK tb (by kernel_rfl) rfl (rfl:tb.fo _ 0=_);(· (repeat (exact Fill.nil)))) | (refine qO rfl ?_;intro b)))))
 rename_i bx _
 (repeat' (first | refine qo ?_ | refine qh ?_ | refine qz ?_ | ((refine qn rfl ?_);(first | (apply qu tb rfl rfl;(· exact At.own (.app .here));(· exact rfl)) | (refine jE tb rfl (g1.mono hq1) rfl rfl hp.1 (by decide) ?_) | refine qk rfl ?_))))
 refine yL (fun L' V' G' μ=>∃(i:Nat) (Gw:Own),i≤m∧μ=m-i∧Sub V V'∧Wr b ((0:Nat):Int) (([116,105,99,107,115,32]++l.itoa p.ticks++[59,10])++yI l (p.ds.take i)) Gw∧G'=Gw++[(bx,.cells [.int .i64 p.ticks,sd,si,ss].toArray 66 (0,0))]∧L'=[(17,.int .i64 i),(16,.int .i64 m),(15,sd),(1,.pointer (some ⟨bx,0,none⟩)),(3,.pointer (some ⟨b,0,none⟩))]) (m0:=m) (by repeat (first | exact SubL.nil | refine SubL.cons rfl ?_)) (Ks _) ⟨0,G1,by omega,by omega,hq1,by simpa[yI]using hW1,rfl,rfl⟩ ?_
 rintro L' V' G' μ ⟨i,Gw,hi',hμ,hVs,hWi,rfl,hLe⟩
 subst hLe;by_cases hlt:i<m
 · obtain⟨ax,lx,qx,rfl,hz1,hz2,hlx,hpx⟩:=g1.mono hVs
   have hp':=QI.parts (QI.mono hVs h1)
   rw[hm]at hp';have hxl:=hp.1;have hlx':lx=m:=by omega
   subst hlx';have hbig:lx≤9223372036854775807:=by unfold maxLen at hz2;omega
   obtain⟨b2,ox,rfl,hrx⟩:=hpx.resolve_left (by omega)
   obtain⟨c,hc1,⟨x,hx1,hc2⟩,hc3⟩:=hp'.rd hrx (i:=i) (by omega)
   have hsx:=qjB (l:=l) hx1
   have hle:=hseg (i+1)
   rw[hsx,zg]at hle;obtain⟨q1,q2⟩:=hd x (zW hx1)
   have hcall:=qxY q1 q2 (hsg.mono hVs) hc2 hWi (by simp only[zg,zm,zt];omega)
   obtain⟨cl,ch,rfl,k1,k2⟩:=hc2;obtain⟨_,_,_,_,_,_,_,_,_,rfl⟩:=k1.lits;obtain⟨_,_,_,_,_,_,_,_,_,rfl⟩:=k2.lits;simp only[zA,zx]at hc1 hc3 hcall
   (repeat' (first | refine qq ?_ | refine qc ?_ | refine qo ?_ | refine qh ?_ | refine qz ?_ | refine qG ?_ | refine jg ?_ | refine jm ?_ | refine qF ?_ | refine qD ?_ | refine qP ?_ | ((first | refine qn rfl ?_ | refine jt ?_);(first | (refine qV tb rfl rfl rfl (by omega) (by omega) ?_) | (refine j8 tb rfl rfl hc1 (by decide) hc3 ?_) | (refine qp tb rfl rfl rfl hcall List.perm_middle.symm ?_;intro _ V2 G2 hs2 hW2) | refine qk rfl ?_ | refine jx rfl rfl ?_ | refine jD rfl rfl (by omega) (by omega) ?_ | (apply qQ tb rfl rfl;(· (refine At.own (?_);repeat (exact Has.here)));(· exact rfl)) | (apply yn tb rfl rfl rfl rfl rfl;(· (repeat (exact Upd.here)));(· exact rfl)) | (refine jX tb rfl ?_;intro b) | (apply j7 tb;(· exact rfl);(· exact rfl);(· exact rfl);(· decide);(· (repeat (first | exact Cat.nil | (apply Cat.cons;(· exact rfl);(· exact rfl);(· exact rfl)) | exact App.nil | apply App.cons)));intro b))) | refine jW rfl (fun _=>?_) (fun _=>?_)))
   · refine yo (by repeat (first | exact SubL.nil | refine SubL.cons rfl ?_)) (List.Sublist.append (Ks _) (List.Sublist.cons _ (Ks _))) ⟨i+1,G2,by omega,rfl,hVs.trans hs2,?_,rfl,rfl⟩ (by omega)
     rw[hsx,← zG];exact hW2
   · exfalso;omega
 · rw[zN (by omega)]at hWi
   (repeat' (first | refine qq ?_ | refine qc ?_ | refine qo ?_ | refine qh ?_ | refine qz ?_ | refine qG ?_ | refine jm ?_ | refine qF ?_ | refine qD ?_ | refine qP ?_ | ((refine qn rfl ?_);(first | (apply qu tb rfl rfl;(· exact At.own (.app .here));(· exact rfl)) | (apply qw tb hMl;(· exact rfl);(· exact rfl);(· exact rfl);(· decide);(· (repeat (first | exact Cat.nil | (apply Cat.cons;(· exact rfl);(· exact rfl);(· exact rfl)) | exact App.nil | apply App.cons)));intro b1 hb1) | (refine qp tb rfl rfl rfl (Yg hb1 hWi (by simp only[zg,ja,zm,zt];omega)).1 (zq _) ?_;intro _ V2 G2 hs2 hW2;have hq2:=hVs.trans ((Sub.addV hb1).trans hs2)) | refine qk rfl ?_ | refine jx rfl rfl ?_ | refine qf tb rfl rfl ?_)) | refine jW rfl (fun _=>?_) (fun _=>?_)))
   · exfalso;omega
   have hc2:=c37 (c71s p.ini hi) (n:=0) (by omega) (hsg.mono hq2) (g2.mono hq2) (Sts.Is.mono hq2 _ h2) hW2 (by simp only[zg,zm,zt];omega)
   (repeat' (first | refine qq ?_ | refine qc ?_ | refine qo ?_ | refine qh ?_ | ((refine qn rfl ?_);(first | (apply qu tb rfl rfl;(· exact At.own (.app .here));(· exact rfl)) | (apply qw tb hMl;(· exact rfl);(· exact rfl);(· exact rfl);(· decide);(· (repeat (first | exact Cat.nil | (apply Cat.cons;(· exact rfl);(· exact rfl);(· exact rfl)) | exact App.nil | apply App.cons)));intro b1 hb1) | (refine qp tb rfl rfl rfl hc2 (zq _) ?_;intro _ V3 G3 hs3 hW3;have hq3:=hq2.trans hs3) | (refine qp tb rfl rfl rfl (Yg hb1 hW3 (by simp only[zg,ja,zm,zt];omega)).1 (zq _) ?_;intro _ V4 G4 hs4 hW4;have hq4:=hq3.trans ((Sub.addV hb1).trans hs4)) | refine qk rfl ?_ | refine qf tb rfl rfl ?_))))
   have hc4:=c37 (c71s p.step hs) (n:=0) (by omega) (hsg.mono hq4) (g3.mono hq4) (Sts.Is.mono hq4 _ h3) hW4 (by simp only[zg,zm,zt];omega)
   (repeat' (first | refine qq ?_ | refine qc ?_ | refine qo ?_ | refine qh ?_ | ((refine qn rfl ?_);(first | (apply qw tb hMl;(· exact rfl);(· exact rfl);(· exact rfl);(· decide);(· (repeat (first | exact Cat.nil | (apply Cat.cons;(· exact rfl);(· exact rfl);(· exact rfl)) | exact App.nil | apply App.cons)));intro b1 hb1) | (refine qp tb rfl rfl rfl hc4 (zq _) ?_;intro _ V5 G5 hs5 hW5) | (refine qp tb rfl rfl rfl (Yg hb1 hW5 (by simp only[zg,ja,zm,zt];omega)).1 (zq _) ?_;intro _ V6 G6 hs6 hW6) | refine qk rfl ?_))))
   (repeat' (first | refine qo ?_ | refine qh ?_ | refine qT ?_ | ((refine qn rfl ?_);(first | (refine ju rfl ?_) | (refine qp tb rfl rfl rfl (c29 hW6) (zq _) ?_;rintro _ V7 G7 hs7 ⟨rfl,rfl⟩) | refine qm rfl ?_ | refine qf tb rfl rfl ?_))))
   (refine qY hM hw hV0 hR (yy rfl rfl) ?_)
   simp only[zG]
end Fly
end
section
namespace Fly
open Go Go.Proofs
set_option maxRecDepth 10000
attribute [local irreducible] WC WE WR Opr St Go.Calls Js QE jC Rel jl Jk Qj Owe One QS Go.CallsD
def qfa:jc:=⟨fun i=>[48+i.toNat.toUInt8],fun _=>[]⟩
theorem it1:qhO qfa 1:=fun V h=>by
 have:=qhN h.1 (n:=1) (by omega) (by omega)
 rw[show Su.itT 1=[49] from rfl]at this;exact this
theorem it3:qhO qfa 3:=fun V h=>by
 have:=qhN h.1 (n:=3) (by omega) (by omega)
 rw[show Su.itT 3=[51] from rfl]at this;exact this
theorem qdd:Qa qfa QN:=by
 simp only[QN,Z0,Qa,LeafAlls,qhs];refine⟨⟨fun h=>by omega,fun h=>by omega⟩,⟨⟨⟨fun h=>by omega,fun h=>by omega⟩,⟨⟨⟨fun h=>by omega,fun h=>by omega⟩,⟨⟨⟨fun h=>by omega,fun h=>by omega⟩,trivial⟩,⟨⟨fun _=>⟨it1,by omega,by omega⟩,fun h=>by omega⟩,trivial⟩,trivial⟩⟩,trivial⟩⟩,⟨⟨⟨fun h=>by omega,fun h=>by omega⟩,⟨⟨⟨fun h=>by omega,fun h=>by omega⟩,trivial⟩,trivial⟩⟩,trivial⟩⟩⟩
theorem qde:jU qfa QN=[45,40,97,32,43,32,49,41,32,42,32,98,91,105,93]:=by rfl
def qmz:Ex:=.mk 7 9 false 0 0 .empty (.cons (.mk 17 0 false 0 0 .empty (.cons (.mk 5 0 false 0 0 .empty (.cons (Z0 97 .nil) (.cons (.mk 2 0 false 1 0 .empty .nil) .nil))) .nil)) (.cons (Z0 98 (.cons (Z0 105 .nil) .nil)) .nil))
def qhP:St_:=.mk 1 0 ⟨#[120]⟩ .nil QN 0 0 .nil .nil
def Jd:Pg:=⟨3,[],.nil,.cons qhP .nil⟩
def quX:Ex:=.mk 0 0 false 0 0 .empty .nil
def quY:Pg:=⟨0,[],.nil,.nil⟩
theorem qb3:YB qfa Jd=[116,105,99,107,115,32,51,59,10,105,110,105,116,32,123,10,125,10,115,116,101,112,32,123,10,9,120,32,61,32,45,40,97,32,43,32,49,41,32,42,32,98,91,105,93,59,10,125,10]:=by rfl
theorem qnT:LeafSs qfa Jd.step:=by
 simp only[Jd,qhP,LeafSs,qjz,LeafAlls];exact⟨⟨trivial,qdd,fun h=>by omega,trivial,trivial⟩,trivial⟩
theorem qkP:Wn (cntSs Jd.ini+cntSs Jd.step)=1:=by decide
theorem qnU:Wn (exSs Jd.ini+exSs Jd.step)=7:=by decide
theorem qxZ:Qy QN qmz=true:=by decide
theorem qx0:Qy QN quX=false:=by decide
theorem qwT:Yj Jd quY=false:=by decide
theorem isP{V:qa}{b1:Nat}{ce:List Value}(hb:V b1=none)(hc:Ex.Is V QN ce):Pg.Is (addV V b1 (.cells (([.int .u8 1,.int .i64 0,.string ⟨#[120]⟩,.slice none 0 0]:List Value)++ce++([.int .i32 0,.int .i32 0,.slice none 0 0,.slice none 0 0]:List Value)).toArray 80 (0,0))) Jd
 [.int .i64 3,.slice none 0 0,.slice none 0 0,.slice (some ⟨b1,0,none⟩) 1 1]:=by
 have hc':=fun o=>Ex.Is.mono (Sub.addV (o:=o) hb) _ hc
 refine⟨_,[],_,[],_,_,rfl,Sl.nil _ _,rfl,Sl.nil _ _,rfl,Sl.made hb (by simp[hc.len]) (by decide),?_⟩
 refine⟨_,[],(Kh _).symm,?_,rfl⟩
 simp only[qhP,St_.Is];exact⟨_,[],_,_,[],_,[],rfl,Sl.nil _ _,rfl,hc' _,Sl.nil _ _,rfl,Sl.nil _ _,rfl⟩
theorem isZE(V:qa):Ex.Is V quX [.int .u8 0,.int .i64 0,.bool false,.int .i32 0,.int .u64 0,.string .empty,.slice none 0 0]:=⟨_,[],rfl,Sl.nil _ _,rfl⟩
theorem isZP(V:qa):Pg.Is V quY [.int .i64 0,.slice none 0 0,.slice none 0 0,.slice none 0 0]:=⟨_,[],_,[],_,[],rfl,Sl.nil _ _,rfl,Sl.nil _ _,rfl,Sl.nil _ _,rfl⟩
theorem is9{V:qa}{s:Value}{c:List Value}(h:Sl 7 V s c)(h2:Exs.Is V (.cons (.mk 17 0 false 0 0 .empty (.cons (.mk 5 0 false 0 0 .empty (.cons (Z0 97 .nil) (.cons (.mk 2 0 false 1 0 .empty .nil) .nil))) .nil)) (.cons (Z0 98 (.cons (Z0 105 .nil) .nil)) .nil)) c) :
 Ex.Is V qmz [.int .u8 7,.int .i64 9,.bool false,.int .i32 0,.int .u64 0,.string .empty,s]:=⟨_,_,rfl,h,h2⟩
theorem qt2{P:Program}{n:Nat}{X:Cx}{L:Lo}{V:qa}{G:Own}{Q:Value→qa→Own→Prop}{ty:TypeId}{pos:String}{af:Array Edge}{gd:Option (Nat×Bool)}{ds:Option Tmp}{t u:TypeId}{x y:Operand}{p q:ByteArray}(hx:ev L x=some (.string p))(hy:ev L y=some (.string q))(h:p=q)(k:Q (.bool true) V G) :
 Opr P n X L V G ⟨ds,.binOp .eql t x y u,ty,pos,af,gd⟩ Q:=Yx hx hy (by rw[zf h];exact k)
set_option maxHeartbeats 2000000 in
theorem c6{V:qa}(hsg:yl V):jC Tryz.prog 37 [] V (.bool true):=by
 refine jk Tryz.func37 rfl Tryz.ntmps37 rfl ?_;intro X w hM hw hV0 hR;dsimp only[je,Nat.zero_add,Nat.reduceAdd]
 (repeat' (first | refine qq ?_ | refine qc ?_ | refine qo ?_ | refine qh ?_ | ((first | refine qn rfl ?_ | refine jt ?_);(first | (refine jZ tb rfl rfl c20 ?_;rintro _ V1 hv1 ⟨_,cs1,rfl,hE1⟩) | refine qm rfl ?_ | (refine jX tb rfl ?_;intro b)))))
 have hI1:=hE1;simp only[QN,Ex.Is]at hI1;obtain⟨sl1,css1,rfl,hS1,_⟩:=hI1;obtain⟨_,_,_,rfl⟩:=hS1.lit
 (repeat' (first | refine qq ?_ | refine qc ?_ | refine qo ?_ | refine qh ?_ | ((first | refine qn rfl ?_ | refine jt ?_);(first | (refine jZ tb rfl rfl c20 ?_;rintro _ V2 hv2 ⟨_,cs2,rfl,hE2⟩) | (apply yn tb rfl rfl rfl rfl rfl;(· (repeat (exact Upd.here)));(· exact rfl)) | (refine jX tb rfl ?_;intro b)))))
 have hI2:=hE2;simp only[QN,Ex.Is]at hI2;obtain⟨sl2,css2,rfl,hS2,hR2⟩:=hI2;obtain⟨_,_,_,rfl⟩:=hS2.lit
 (repeat' (first | refine qq ?_ | refine qc ?_ | refine qo ?_ | refine qh ?_ | ((first | refine qn rfl ?_ | refine jt ?_);(first | (apply ZF tb hM;(· exact rfl);(· exact rfl);(· exact rfl);(· decide);(· (repeat (first | exact Cat.nil | (apply Cat.cons;(· exact rfl);(· exact rfl);(· exact rfl)) | exact App.nil | apply App.cons)));intro b1 hb1) | refine qf tb rfl rfl ?_ | (apply qQ tb rfl rfl;(· (refine At.own (?_);repeat (first | exact Has.here | refine Has.there ?_)));(· exact rfl)) | (apply jz tb rfl rfl rfl rfl rfl;(· (repeat (exact Upd.here)));(· exact rfl)) | (apply yn tb rfl rfl rfl rfl rfl;(· (repeat (exact Upd.here)));(· exact rfl)) | (apply yK tb (by kernel_rfl) rfl (rfl:tb.fo _ 0=_);(· (repeat (first | exact Fill.nil | (apply Fill.cons;(· exact rfl);(· exact rfl);(· exact rfl);(· exact rfl);(· exact rfl)))))) | (refine jX tb rfl ?_;intro b)))))
 have hP:=isP hb1 (Ex.Is.mono hv2 _ hE1)
 dsimp only[List.cons_append,List.nil_append]at hP;have hA:=fun o=>Ex.Is.mono (hv2.trans (Sub.addV (o:=o) hb1)) _ hE1
 have hB:=fun o=>Ex.Is.mono (Sub.addV (o:=o) hb1) _ (is9 hS2 hR2)
 have hsg':=fun o=>hsg.mono ((hv1.trans hv2).trans (Sub.addV (o:=o) hb1))
 have k14:=c14 _ hP;rw[qkP,qnU]at k14;have k10:=fun o=>c10 qdd (hsg' o) (hA o) (by rw[qde];decide)
 simp only[qde]at k10;have k12:=c12 (l:=qfa) (p:=Jd) (fun d hd=>by cases hd) trivial qnT (by decide) (by decide) it3 (hsg' _) hP (by rw[qb3];decide)
 rw[qb3]at k12;have k18:=fun o=>c18 _ _ (hA o) (hB o)
 simp only[qxZ]at k18;have k18z:=fun o=>c18 _ _ (hA o) (isZE _)
 simp only[qx0]at k18z;have k17:=c17 _ _ hP hP;rw[qj7]at k17;have k17z:=c17 _ _ hP (isZP _)
 rw[qwT]at k17z
 (repeat' (first | refine qq ?_ | refine qc ?_ | refine qo ?_ | refine qh ?_ | refine qT ?_ | ((first | refine qn rfl ?_ | refine yh rfl rfl rfl ?_);(first | (refine qE tb rfl rfl k14 ?_) | (refine qE tb rfl rfl (k10 _) ?_) | (refine qE tb rfl rfl k12 ?_) | (refine qE tb rfl rfl (k18 _) ?_) | (refine qE tb rfl rfl (k18z _) ?_) | (refine qE tb rfl rfl k17 ?_) | (refine qE tb rfl rfl k17z ?_) | (refine qt2 rfl rfl rfl ?_) | refine qk rfl ?_ | refine qm rfl ?_ | refine jJ rfl rfl ?_ | refine Qt rfl rfl ?_ | refine Qe rfl ?_ | refine qK rfl rfl ?_ | (apply qQ tb rfl rfl;(· (refine At.own (?_);repeat (first | exact Has.here | refine Has.there ?_)));(· exact rfl)) | (apply yK tb (by kernel_rfl) rfl (rfl:tb.fo _ 0=_);(· (repeat (exact Fill.nil))))))))
 (refine qY hM hw hV0 hR (yy rfl rfl) ?_)
 rfl
end Fly
end
