/-
  A small logic of walks: judgements, operations, regions, loops, calls. No condition.
-/
import Derived.Test.YtldhknmacepeiaaGreatDoorTrR
import Derived.Test.YtldhknmacepeiaaGreatDoorTrW
import Derived.Test.YtldhknmacepeiaaGreatDoorSuP0
import Derived.ChangeSame
import Derived.ChangeOld
import Derived.DataReads
import Derived.Test.YtldhknmacepeiaaGreatDoorSuE
import Derived.RowKit
import Derived.Test.YtldhknmacepeiaaGreatDoorFlyM
set_option linter.unusedVariables false
set_option linter.unusedSimpArgs false
section
namespace Fly
open Go Go.Proofs
set_option maxRecDepth 10000
attribute [local irreducible] WC WE WR Opr St Go.Calls Js QE jC Rel jl Jk Qj Owe One QS Go.CallsD
theorem Y0{P:Program}{n:Nat}{X:Cx}{L:Lo}{V:qa}{G:Own}{Q:Value→qa→Own→Prop}{ty:TypeId}{pos:String}{af:Array Edge}{gd:Option (Nat×Bool)}{ds:Option Tmp}{t u:TypeId}{x y:Operand}{p q:ByteArray}(hx:ev L x=some (.string p))(hy:ev L y=some (.string q))(h:p=q)(k:Q (.bool false) V G) :
 Opr P n X L V G ⟨ds,.binOp .neq t x y u,ty,pos,af,gd⟩ Q:=Y9 hx hy (by rw[zf h];exact k)
set_option maxHeartbeats 2000000 in
theorem qwW{V:qa}(hsg:yl V){p q r:Pg}{cp cq cr:List Value}(hp:Pg.Is V p cp)(hq:Pg.Is V q cq)(hr:Pg.Is V r cr)(gp:qrS p)(gq:qrS q):jC Tryz.prog 9 [.agg cp.toArray,.agg cq.toArray,.agg cr.toArray] V (.bool true):=by
 have k6:=c6 hsg;have k7:=c7 p 1500 (by omega) (by omega) hp
 have k7q:=c7 q 1500 (by omega) (by omega) hq
 have k7r:=c7 r 1500 (by omega) (by omega) hr
 have kp:=fun h=>prt hsg hp gp h
 have kq:=fun h=>prt hsg hq gq h
 have k17:=c17 p q hp hq;have k17b:=c17 q r hq hr;have k17c:=c17 p r hp hr;obtain⟨sd,cd,si,ci,ss,cS,rfl,g1,h1,g2,h2,g3,h3⟩:=hp;obtain⟨sd',cd',si',ci',ss',cS',rfl,g1',h1',g2',h2',g3',h3'⟩:=hq;obtain⟨sd2,cd2,si2,ci2,ss2,cS2,rfl,g12,h12,g22,h22,g32,h32⟩:=hr;by_cases e1:Yj p q=true
 · rw[e1]at k17
   have et:=qkx qac p q e1;simp only[← et]at kq;by_cases e2:Yj q r=true
   · have e3:=qiZ p q r e1 e2
     rw[e2]at k17b;rw[e3]at k17c;refine jk Tryz.func9 rfl Tryz.ntmps9 rfl ?_;intro X w hM hw hV0 hR;dsimp only[je,Nat.zero_add,Nat.reduceAdd]
     (repeat' (first | refine qq ?_ | refine qc ?_ | refine qo ?_ | refine qh ?_ | refine qG ?_ | refine qT ?_ | ((first | refine qn rfl ?_ | refine yh rfl rfl rfl ?_);(first | (refine qE tb rfl rfl k6 ?_) | (refine jZ tb rfl rfl k7 ?_;rintro _ _ _ ⟨z1,rfl,rfl,a1,b1,w1⟩) | (refine jZ tb rfl rfl k7q ?_;rintro _ _ _ ⟨z2,rfl,rfl,a2,b2,w2⟩) | (refine jZ tb rfl rfl k7r ?_;rintro _ _ _ ⟨z3,rfl,rfl,a3,b3,w3⟩) | (refine qE tb rfl rfl k17 ?_) | (refine qE tb rfl rfl k17b ?_) | refine qk rfl ?_ | refine qm rfl ?_ | refine JO rfl rfl ?_ | refine Qe rfl ?_ | refine qK rfl rfl ?_ | refine qL rfl rfl ?_ | (apply qQ tb rfl rfl;(· (refine At.own (?_);repeat (first | exact Has.here | refine Has.there ?_)));(· exact rfl)) | (refine qO rfl ?_;intro b))) | refine Qr rfl rfl rfl rfl ?_ | refine qS rfl ?_ | refine qC rfl ?_ | refine jW rfl (fun _=>?_) (fun _=>?_) | refine jp rfl rfl (fun _=>?_) (fun _=>?_)))
     all_goals first
      | ((refine qY hM hw hV0 hR (yy rfl rfl) ?_);rfl)
      | skip
     refine j9 (ms:=[0,1,3,7,3,31,63,127]) 8 mo (by kernel_rfl) (by kernel_rfl) rfl ?_
     apply Prog.stepL (yE _) (qH _) [8] rfl (by kernel_rfl) rfl
     · (intro V1 F1 hs1;(repeat (refine qW ?_));refine qZ ?_;refine qk rfl ?_;exact jh)
     simp only[zx,zA];apply Prog.stepL (yE _) (qH _) [33] rfl (by kernel_rfl) rfl
     · (intro V1 F1 hs1;(repeat (first | refine qX ?_ | refine qW ?_));refine qZ ?_;refine qk rfl ?_;exact jh)
     simp only[zx,zA];apply Prog.stepL (yE _) (qH _) [3,34] rfl (by kernel_rfl) rfl
     · (intro V1 F1 hs1;(repeat (first | refine qX ?_ | refine qW ?_));first | (refine qt (t:=true) rfl rfl (fun _=>?_) (fun h=>by cases h);(apply qQ tb rfl rfl;(· (refine At.own (Has.app ?_);repeat (first | exact Has.here | refine Has.there ?_)));(· exact rfl));exact jh) | exact qt (t:=false) rfl rfl (fun h=>by cases h) (fun _=>⟨rfl,rfl⟩) | (refine qt (t:=false) rfl rfl (fun _=>?_) (fun h=>by cases h);(fail);exact jh) | exact qt (t:=true) rfl rfl (fun h=>by cases h) (fun _=>⟨rfl,rfl⟩))
     simp only[zx,zA];apply Prog.stepL (yE _) (qH _) [35,34] rfl (by kernel_rfl) rfl
     · (intro V1 F1 hs1;(repeat (first | refine qX ?_ | refine qW ?_));first | (refine qt (t:=true) rfl rfl (fun _=>?_) (fun h=>by cases h);(refine qE tb rfl rfl ((kp (by omega)).mono (by assumption)) ?_);exact jh) | exact qt (t:=false) rfl rfl (fun h=>by cases h) (fun _=>⟨rfl,rfl⟩) | (refine qt (t:=false) rfl rfl (fun _=>?_) (fun h=>by cases h);(fail);exact jh) | exact qt (t:=true) rfl rfl (fun h=>by cases h) (fun _=>⟨rfl,rfl⟩))
     simp only[zx,zA];apply Prog.stepL (yE _) (qH _) [4,34] rfl (by kernel_rfl) rfl
     · (intro V1 F1 hs1;(repeat (first | refine qX ?_ | refine qW ?_));first | (refine qt (t:=true) rfl rfl (fun _=>?_) (fun h=>by cases h);(apply qQ tb rfl rfl;(· (refine At.own (Has.app ?_);repeat (first | exact Has.here | refine Has.there ?_)));(· exact rfl));exact jh) | exact qt (t:=false) rfl rfl (fun h=>by cases h) (fun _=>⟨rfl,rfl⟩) | (refine qt (t:=false) rfl rfl (fun _=>?_) (fun h=>by cases h);(fail);exact jh) | exact qt (t:=true) rfl rfl (fun h=>by cases h) (fun _=>⟨rfl,rfl⟩))
     simp only[zx,zA];apply Prog.stepL (yE _) (qH _) [37,34] rfl (by kernel_rfl) rfl
     · (intro V1 F1 hs1;(repeat (first | refine qX ?_ | refine qW ?_));first | (refine qt (t:=true) rfl rfl (fun _=>?_) (fun h=>by cases h);(refine qE tb rfl rfl ((kq (by omega)).mono (by assumption)) ?_);exact jh) | exact qt (t:=false) rfl rfl (fun h=>by cases h) (fun _=>⟨rfl,rfl⟩) | (refine qt (t:=false) rfl rfl (fun _=>?_) (fun h=>by cases h);(fail);exact jh) | exact qt (t:=true) rfl rfl (fun h=>by cases h) (fun _=>⟨rfl,rfl⟩))
     simp only[zx,zA];apply Prog.stepL (yE _) (qH _) [36,38,34] rfl (by kernel_rfl) rfl
     · (intro V1 F1 hs1;(repeat (first | refine qX ?_ | refine qW ?_));first | (refine qt (t:=true) rfl rfl (fun _=>?_) (fun h=>by cases h);refine Y0 rfl rfl rfl ?_;exact jh) | exact qt (t:=false) rfl rfl (fun h=>by cases h) (fun _=>⟨rfl,rfl⟩) | (refine qt (t:=false) rfl rfl (fun _=>?_) (fun h=>by cases h);refine Y0 rfl rfl rfl ?_;exact jh) | exact qt (t:=true) rfl rfl (fun h=>by cases h) (fun _=>⟨rfl,rfl⟩))
     simp only[zx,zA];apply Prog.stepL (yE _) (qH _) [34,39] rfl (by kernel_rfl) rfl
     · (intro V1 F1 hs1;(repeat (first | refine qX ?_ | refine qW ?_));refine qZ ?_;(refine qK rfl rfl ?_);exact jh)
     simp only[zx,zA];refine Prog.done ?_;intro V1 hs1;repeat (first | refine yc ?_ | refine yd ?_)
     (repeat' (first | refine qq ?_ | refine qc ?_ | refine qo ?_ | refine qh ?_ | refine qG ?_ | refine qT ?_ | ((first | refine qn rfl ?_ | refine yh rfl rfl rfl ?_);(first | (refine qE tb rfl rfl (k17c.mono hs1) ?_) | refine qk rfl ?_ | refine qm rfl ?_ | refine Qe rfl ?_ | refine qK rfl rfl ?_ | refine qL rfl rfl ?_ | (apply qQ tb rfl rfl;(· (refine At.own (?_);repeat (first | exact Has.here | refine Has.there ?_)));(· exact rfl)))) | refine qC rfl ?_))
     (refine qY hM hw hV0 hR (yy rfl rfl) ?_)
     rfl
   · rw[Bool.not_eq_true]at e2
     rw[e2]at k17b;refine jk Tryz.func9 rfl Tryz.ntmps9 rfl ?_;intro X w hM hw hV0 hR;dsimp only[je,Nat.zero_add,Nat.reduceAdd]
     (repeat' (first | refine qq ?_ | refine qc ?_ | refine qo ?_ | refine qh ?_ | refine qG ?_ | refine qT ?_ | ((first | refine qn rfl ?_ | refine yh rfl rfl rfl ?_);(first | (refine qE tb rfl rfl k6 ?_) | (refine jZ tb rfl rfl k7 ?_;rintro _ _ _ ⟨z1,rfl,rfl,a1,b1,w1⟩) | (refine jZ tb rfl rfl k7q ?_;rintro _ _ _ ⟨z2,rfl,rfl,a2,b2,w2⟩) | (refine jZ tb rfl rfl k7r ?_;rintro _ _ _ ⟨z3,rfl,rfl,a3,b3,w3⟩) | (refine qE tb rfl rfl k17 ?_) | (refine qE tb rfl rfl k17b ?_) | refine qk rfl ?_ | refine qm rfl ?_ | refine JO rfl rfl ?_ | refine Qe rfl ?_ | refine qK rfl rfl ?_ | refine qL rfl rfl ?_ | (apply qQ tb rfl rfl;(· (refine At.own (?_);repeat (first | exact Has.here | refine Has.there ?_)));(· exact rfl)) | (refine qO rfl ?_;intro b))) | refine Qr rfl rfl rfl rfl ?_ | refine qS rfl ?_ | refine qC rfl ?_ | refine jW rfl (fun _=>?_) (fun _=>?_) | refine jp rfl rfl (fun _=>?_) (fun _=>?_)))
     all_goals first
      | ((refine qY hM hw hV0 hR (yy rfl rfl) ?_);rfl)
      | skip
     refine j9 (ms:=[0,1,3,7,3,31,63,127]) 8 mo (by kernel_rfl) (by kernel_rfl) rfl ?_
     apply Prog.stepL (yE _) (qH _) [8] rfl (by kernel_rfl) rfl
     · (intro V1 F1 hs1;(repeat (refine qW ?_));refine qZ ?_;refine qk rfl ?_;exact jh)
     simp only[zx,zA];apply Prog.stepL (yE _) (qH _) [33] rfl (by kernel_rfl) rfl
     · (intro V1 F1 hs1;(repeat (first | refine qX ?_ | refine qW ?_));refine qZ ?_;refine qk rfl ?_;exact jh)
     simp only[zx,zA];apply Prog.stepL (yE _) (qH _) [3,34] rfl (by kernel_rfl) rfl
     · (intro V1 F1 hs1;(repeat (first | refine qX ?_ | refine qW ?_));first | (refine qt (t:=true) rfl rfl (fun _=>?_) (fun h=>by cases h);(apply qQ tb rfl rfl;(· (refine At.own (Has.app ?_);repeat (first | exact Has.here | refine Has.there ?_)));(· exact rfl));exact jh) | exact qt (t:=false) rfl rfl (fun h=>by cases h) (fun _=>⟨rfl,rfl⟩) | (refine qt (t:=false) rfl rfl (fun _=>?_) (fun h=>by cases h);(fail);exact jh) | exact qt (t:=true) rfl rfl (fun h=>by cases h) (fun _=>⟨rfl,rfl⟩))
     simp only[zx,zA];apply Prog.stepL (yE _) (qH _) [35,34] rfl (by kernel_rfl) rfl
     · (intro V1 F1 hs1;(repeat (first | refine qX ?_ | refine qW ?_));first | (refine qt (t:=true) rfl rfl (fun _=>?_) (fun h=>by cases h);(refine qE tb rfl rfl ((kp (by omega)).mono (by assumption)) ?_);exact jh) | exact qt (t:=false) rfl rfl (fun h=>by cases h) (fun _=>⟨rfl,rfl⟩) | (refine qt (t:=false) rfl rfl (fun _=>?_) (fun h=>by cases h);(fail);exact jh) | exact qt (t:=true) rfl rfl (fun h=>by cases h) (fun _=>⟨rfl,rfl⟩))
     simp only[zx,zA];apply Prog.stepL (yE _) (qH _) [4,34] rfl (by kernel_rfl) rfl
     · (intro V1 F1 hs1;(repeat (first | refine qX ?_ | refine qW ?_));first | (refine qt (t:=true) rfl rfl (fun _=>?_) (fun h=>by cases h);(apply qQ tb rfl rfl;(· (refine At.own (Has.app ?_);repeat (first | exact Has.here | refine Has.there ?_)));(· exact rfl));exact jh) | exact qt (t:=false) rfl rfl (fun h=>by cases h) (fun _=>⟨rfl,rfl⟩) | (refine qt (t:=false) rfl rfl (fun _=>?_) (fun h=>by cases h);(fail);exact jh) | exact qt (t:=true) rfl rfl (fun h=>by cases h) (fun _=>⟨rfl,rfl⟩))
     simp only[zx,zA];apply Prog.stepL (yE _) (qH _) [37,34] rfl (by kernel_rfl) rfl
     · (intro V1 F1 hs1;(repeat (first | refine qX ?_ | refine qW ?_));first | (refine qt (t:=true) rfl rfl (fun _=>?_) (fun h=>by cases h);(refine qE tb rfl rfl ((kq (by omega)).mono (by assumption)) ?_);exact jh) | exact qt (t:=false) rfl rfl (fun h=>by cases h) (fun _=>⟨rfl,rfl⟩) | (refine qt (t:=false) rfl rfl (fun _=>?_) (fun h=>by cases h);(fail);exact jh) | exact qt (t:=true) rfl rfl (fun h=>by cases h) (fun _=>⟨rfl,rfl⟩))
     simp only[zx,zA];apply Prog.stepL (yE _) (qH _) [36,38,34] rfl (by kernel_rfl) rfl
     · (intro V1 F1 hs1;(repeat (first | refine qX ?_ | refine qW ?_));first | (refine qt (t:=true) rfl rfl (fun _=>?_) (fun h=>by cases h);refine Y0 rfl rfl rfl ?_;exact jh) | exact qt (t:=false) rfl rfl (fun h=>by cases h) (fun _=>⟨rfl,rfl⟩) | (refine qt (t:=false) rfl rfl (fun _=>?_) (fun h=>by cases h);refine Y0 rfl rfl rfl ?_;exact jh) | exact qt (t:=true) rfl rfl (fun h=>by cases h) (fun _=>⟨rfl,rfl⟩))
     simp only[zx,zA];apply Prog.stepL (yE _) (qH _) [34,39] rfl (by kernel_rfl) rfl
     · (intro V1 F1 hs1;(repeat (first | refine qX ?_ | refine qW ?_));refine qZ ?_;(refine qK rfl rfl ?_);exact jh)
     simp only[zx,zA];refine Prog.done ?_;intro V1 hs1;repeat (first | refine yc ?_ | refine yd ?_)
     (repeat' (first | refine qq ?_ | refine qc ?_ | refine qo ?_ | refine qh ?_ | refine qG ?_ | refine qT ?_ | ((first | refine qn rfl ?_ | refine yh rfl rfl rfl ?_);(first | refine qk rfl ?_ | refine qm rfl ?_ | refine Qe rfl ?_ | refine qK rfl rfl ?_ | refine qL rfl rfl ?_)) | refine Qr rfl rfl rfl rfl ?_ | refine qC rfl ?_))
     (refine qY hM hw hV0 hR (yy rfl rfl) ?_)
     rfl
 · rw[Bool.not_eq_true]at e1
   rw[e1]at k17;cases e2:Yj q r <;> rw[e2]at k17b <;>
   · refine jk Tryz.func9 rfl Tryz.ntmps9 rfl ?_;intro X w hM hw hV0 hR;dsimp only[je,Nat.zero_add,Nat.reduceAdd]
     (repeat' (first | refine qq ?_ | refine qc ?_ | refine qo ?_ | refine qh ?_ | refine qG ?_ | refine qT ?_ | ((first | refine qn rfl ?_ | refine yh rfl rfl rfl ?_);(first | (refine qE tb rfl rfl k6 ?_) | (refine jZ tb rfl rfl k7 ?_;rintro _ _ _ ⟨z1,rfl,rfl,a1,b1,w1⟩) | (refine jZ tb rfl rfl k7q ?_;rintro _ _ _ ⟨z2,rfl,rfl,a2,b2,w2⟩) | (refine jZ tb rfl rfl k7r ?_;rintro _ _ _ ⟨z3,rfl,rfl,a3,b3,w3⟩) | (refine qE tb rfl rfl k17 ?_) | (refine qE tb rfl rfl k17b ?_) | refine qk rfl ?_ | refine qm rfl ?_ | refine JO rfl rfl ?_ | refine Qe rfl ?_ | refine qK rfl rfl ?_ | refine qL rfl rfl ?_ | (apply qQ tb rfl rfl;(· (refine At.own (?_);repeat (first | exact Has.here | refine Has.there ?_)));(· exact rfl)) | (refine qO rfl ?_;intro b))) | refine Qr rfl rfl rfl rfl ?_ | refine qS rfl ?_ | refine qC rfl ?_ | refine jW rfl (fun _=>?_) (fun _=>?_) | refine jp rfl rfl (fun _=>?_) (fun _=>?_)))
     all_goals first
      | ((refine qY hM hw hV0 hR (yy rfl rfl) ?_);rfl)
      | skip
     refine j9 (ms:=[0,1,3,7,3,31,63,127]) 8 mo (by kernel_rfl) (by kernel_rfl) rfl ?_
     apply Prog.stepL (yE _) (qH _) [8] rfl (by kernel_rfl) rfl
     · (intro V1 F1 hs1;(repeat (refine qW ?_));refine qZ ?_;refine qk rfl ?_;exact jh)
     simp only[zx,zA];apply Prog.stepL (yE _) (qH _) [33] rfl (by kernel_rfl) rfl
     · (intro V1 F1 hs1;(repeat (first | refine qX ?_ | refine qW ?_));refine qZ ?_;refine qk rfl ?_;exact jh)
     simp only[zx,zA];apply Prog.stepL (yE _) (qH _) [3,34] rfl (by kernel_rfl) rfl
     · (intro V1 F1 hs1;(repeat (first | refine qX ?_ | refine qW ?_));first | (refine qt (t:=true) rfl rfl (fun _=>?_) (fun h=>by cases h);(fail);exact jh) | exact qt (t:=false) rfl rfl (fun h=>by cases h) (fun _=>⟨rfl,rfl⟩) | (refine qt (t:=false) rfl rfl (fun _=>?_) (fun h=>by cases h);(fail);exact jh) | exact qt (t:=true) rfl rfl (fun h=>by cases h) (fun _=>⟨rfl,rfl⟩))
     simp only[zx,zA];apply Prog.stepL (yE _) (qH _) [35,34] rfl (by kernel_rfl) rfl
     · (intro V1 F1 hs1;(repeat (first | refine qX ?_ | refine qW ?_));first | (refine qt (t:=true) rfl rfl (fun _=>?_) (fun h=>by cases h);(fail);exact jh) | exact qt (t:=false) rfl rfl (fun h=>by cases h) (fun _=>⟨rfl,rfl⟩) | (refine qt (t:=false) rfl rfl (fun _=>?_) (fun h=>by cases h);(fail);exact jh) | exact qt (t:=true) rfl rfl (fun h=>by cases h) (fun _=>⟨rfl,rfl⟩))
     simp only[zx,zA];apply Prog.stepL (yE _) (qH _) [4,34] rfl (by kernel_rfl) rfl
     · (intro V1 F1 hs1;(repeat (first | refine qX ?_ | refine qW ?_));first | (refine qt (t:=true) rfl rfl (fun _=>?_) (fun h=>by cases h);(fail);exact jh) | exact qt (t:=false) rfl rfl (fun h=>by cases h) (fun _=>⟨rfl,rfl⟩) | (refine qt (t:=false) rfl rfl (fun _=>?_) (fun h=>by cases h);(fail);exact jh) | exact qt (t:=true) rfl rfl (fun h=>by cases h) (fun _=>⟨rfl,rfl⟩))
     simp only[zx,zA];apply Prog.stepL (yE _) (qH _) [37,34] rfl (by kernel_rfl) rfl
     · (intro V1 F1 hs1;(repeat (first | refine qX ?_ | refine qW ?_));first | (refine qt (t:=true) rfl rfl (fun _=>?_) (fun h=>by cases h);(fail);exact jh) | exact qt (t:=false) rfl rfl (fun h=>by cases h) (fun _=>⟨rfl,rfl⟩) | (refine qt (t:=false) rfl rfl (fun _=>?_) (fun h=>by cases h);(fail);exact jh) | exact qt (t:=true) rfl rfl (fun h=>by cases h) (fun _=>⟨rfl,rfl⟩))
     simp only[zx,zA];apply Prog.stepL (yE _) (qH _) [36,38,34] rfl (by kernel_rfl) rfl
     · (intro V1 F1 hs1;(repeat (first | refine qX ?_ | refine qW ?_));first | (refine qt (t:=true) rfl rfl (fun _=>?_) (fun h=>by cases h);refine Y0 rfl rfl rfl ?_;exact jh) | exact qt (t:=false) rfl rfl (fun h=>by cases h) (fun _=>⟨rfl,rfl⟩) | (refine qt (t:=false) rfl rfl (fun _=>?_) (fun h=>by cases h);refine Y0 rfl rfl rfl ?_;exact jh) | exact qt (t:=true) rfl rfl (fun h=>by cases h) (fun _=>⟨rfl,rfl⟩))
     simp only[zx,zA];apply Prog.stepL (yE _) (qH _) [34,39] rfl (by kernel_rfl) rfl
     · (intro V1 F1 hs1;(repeat (first | refine qX ?_ | refine qW ?_));refine qZ ?_;(refine qL rfl rfl ?_);exact jh)
     simp only[zx,zA];refine Prog.done ?_;intro V1 hs1;repeat (first | refine yc ?_ | refine yd ?_)
     (repeat' (first | refine qq ?_ | refine qc ?_ | refine qo ?_ | refine qh ?_ | refine qG ?_ | refine qT ?_ | ((first | refine qn rfl ?_ | refine yh rfl rfl rfl ?_);(first | refine qk rfl ?_ | refine qm rfl ?_ | refine Qe rfl ?_ | refine qK rfl rfl ?_)) | refine Qr rfl rfl rfl rfl ?_ | refine qC rfl ?_))
     (refine qY hM hw hV0 hR (yy rfl rfl) ?_)
     rfl
end Fly
end
section
namespace Su
open Go Fly
def Qd(P:Program)(t:Nat):Bool:=match P.underlying t with
 | some (.struct _)=>true
 | _=>false
def qgF(P:Program)(S:List Nat)(n:Nat):Nat→List Field→Bool
 | o,[]=>Nat.beq o n
 | o,f::fs=>Nat.beq f.offset o&&(S.contains f.type&&qgF P S n (o+P.cellsOf f.type) fs)
def Y1(P:Program)(S:List Nat)(t:Nat):Bool:=match P.underlying t with
 | some .bool=>Nat.beq (P.cellsOf t) 1
 | some (.int _)=>Nat.beq (P.cellsOf t) 1
 | some (.float _)=>Nat.beq (P.cellsOf t) 1
 | some .string=>Nat.beq (P.cellsOf t) 1
 | some (.slice e)=>Nat.beq (P.cellsOf t) 1&&(S.contains e&&Nat.blt 0 (P.cellsOf e))
 | some (.struct fs)=>qgF P S (P.cellsOf t) 0 fs.toList
 | _=>false
inductive All2 {α β:Type} (R:α→β→Prop):List α→List β→Prop
 | nil:All2 R [] []
 | cons {a:α} {b:β} {l:List α} {m:List β} (h:R a b) (h':All2 R l m):All2 R (a::l) (b::m)
def Shp(P:Program):Nat→Nat→List T→Prop
 | 0,_,_=>False
 | fuel+1,t,xs=>match P.underlying t with
  | some .bool=>∃b,xs=[.s (.bool b)]
  | some (.int k)=>∃n,xs=[.s (.int k n)]∧(Lit.int k n).wf=true
  | some (.float k)=>∃b,xs=[.s (.float k b)]∧(Lit.float k b).wf=true
  | some .string=>∃s,xs=[.s (.string s)]∧s.size≤maxLen
  | some (.slice e)=>∃l,xs=[.sl (P.cellsOf e) l]∧l.length≤maxLen∧∀x∈l,x.isAgg=Qd P e∧Shp P fuel e x.cells
  | some (.struct fs)=>∃parts:List (List T),xs=parts.flatten∧All2 (fun(f:Field) p=>Shp P fuel f.type p) fs.toList parts
  | _=>False
def hv(w:World):qa:=fun b=>w.heap[b]?
theorem qt8{a:Addr}{m n:Nat}(h:n≠0∨m=0∨a.spot=none):(a.add m).add n=a.add (m+n):=by
 unfold Addr.add;by_cases hn:n=0
 · subst hn;simp
 · by_cases hm:m=0
   · subst hm;simp[hn]
   · simp[hn,hm,Kp]
theorem qbd{w:World}{a:Addr}{v:Value}(h:w.cell? a=some v):a.spot=none∧rd (hv w) a.block a.off v:=by
 unfold World.cell? at h
 split at h
 · rename_i c e f hb
   cases hs:a.spot with
   | some s=>rw[hs]at h;simp at h
   | none=>rw[hs]at h;exact⟨rfl,c,e,f,hb,by simpa using h⟩
 · simp at h
theorem qmD(a:Addr)(n:Nat):(a.add n).off=a.off+n∧(a.add n).block=a.block:=by
 unfold Addr.add;split
 · rename_i h;subst h;exact⟨rfl,rfl⟩
 · exact⟨rfl,rfl⟩
theorem qmE{w:World}{a:Addr}{k:Nat}(hk:0<k):∀(css:List (List Value)) (s:Nat),(∀i cs,css[i]?=some cs→w.cells? 0 (a.add ((s+i)*k)) k=some cs)→∀j c,css.flatten[j]?=some c→rd (hv w) a.block (a.off+s*k+j) c∧w.cell? (a.add (s*k+j))=some c
 | [],s,h,j,c,hj=>by simp at hj
 | c0::css,s,h,j,c,hj=>by
  obtain⟨_,hl,hc⟩:=World.cells?_some (h 0 c0 rfl)
  simp only[KN]at hc;rw[VF]at hj;rcases VA j k with hjk | hjk
  · rw[Kf (by omega)]at hj
    have h1:=hc j hjk;rw[hj]at h1;have h3:w.cell? (a.add (s*k+j))=some c:=by
     by_cases hj0:j=0
     · subst hj0
       have:(a.add (s*k)).add 0=a.add (s*k):=by unfold Addr.add;simp
       rw[this]at h1;exact h1
     · rw[qt8 (.inl hj0)]at h1;exact h1
    obtain⟨_,h2⟩:=qbd h3;rw[(qmD _ _).1,(qmD _ _).2]at h2;exact⟨by rw[Kp];exact h2,h3⟩
  · rw[Kj (by omega),hl]at hj
    have h2:=qmE hk css (s+1) (fun i cs hi=>by
     have:=h (i+1) cs (by simpa using hi)
     rw[show s+1+i=s+(i+1) by omega];exact this) (j-k) c hj
    have e1:(s+1)*k+(j-k)=s*k+j:=by rw[zV];omega
    rw[Kp,e1]at h2;exact⟨by rw[Kp];exact h2.1,h2.2⟩
end Su
end
section
namespace Su
open Go Fly
theorem qkR{β γ:Type}{f:Nat→Option (List β)}{g:List β→Option γ}{n:Nat}{r:List γ}(h:(List.range n).mapM (fun i=>(f i).bind g)=some r) :
 ∃css:List (List β),css.length=n∧∀(i:Nat) (cs:List β),css[i]?=some cs→f i=some cs∧∃y,y∈r∧g cs=some y:=by
 have hl:r.length=n:=by simpa using mapM_some_length h
 refine⟨(List.range n).map fun i=>(f i).getD [],by simp,fun i cs hi=>?_⟩
 have hin:i<n:=by
  have:=(zu.1 hi).1
  simpa using this
 have h1:=mapM_some_get h i i (by simp[hin])
 rw[zB (by omega)]at h1;obtain⟨c,hc,hg⟩:=VC.1 h1;have:cs=c:=by
  rw[Kr,List.getElem?_range hin]at hi;simp[hc]at hi;exact hi.symm
 subst this;exact⟨hc,_,List.getElem_mem _,hg⟩
theorem qmF{α β:Type}{R:α→β→Prop}:∀ {l:List α},(∀x∈l,∃y,R x y)→∃m,All2 R l m
 | [],_=>⟨[],.nil⟩
 | x::l,h=>by
  obtain⟨y,hy⟩:=h x (zL ..)
  obtain⟨m,hm⟩:=qmF (l:=l) fun z hz=>h z (zD _ hz)
  exact⟨y::m,.cons hy hm⟩
theorem All2.length{α β:Type}{R:α→β→Prop}{l:List α}{m:List β}(h:All2 R l m):l.length=m.length:=by
 induction h with
 | nil=>rfl
 | cons _ _ ih=>simp[ih]
theorem All2.right{α β:Type}{R:α→β→Prop}{l:List α}{m:List β}(h:All2 R l m):∀y∈m,∃x,R x y:=by
 induction h with
 | nil=>intro y hy;simp at hy
 | cons hr _ ih=>
  intro y hy;rcases zO.1 hy with rfl | hy
  · exact⟨_,hr⟩
  · exact ih y hy
section
variable {H:Type} {enc:TypeId×Value→H} {P:Program} {w:World} {S:List Nat}
def qt9(enc:TypeId×Value→H)(P:Program)(w:World)(fuel t:Nat)(cs:List Value)(x:DataW H×List MemPlace):Prop :=
 (∃xs,RepA (hv w) xs cs∧(∀y∈xs,y.isAgg=false)∧xs.length=P.cellsOf t∧Shp P fuel t xs)∧∀sp:Nat→Bool,(∀p∈x.2,sp p.block=true)→DataW.trod enc P w 0 sp true fuel t cs=some x
theorem qmG{fuel t:Nat}{xs:List T}(h:Shp P fuel t xs)(hg:Qd P t=false)(hok:Y1 P S t=true):∃x,xs=[x]∧x.isAgg=false∧x.cells=[x]:=by
 cases fuel with
 | zero=>exact absurd h (by simp[Shp])
 | succ fuel=>
  unfold Shp at h;unfold Qd at hg;split at h
  · obtain⟨b,rfl⟩:=h;exact⟨_,rfl,rfl,rfl⟩
  · obtain⟨b,rfl,_⟩:=h;exact⟨_,rfl,rfl,rfl⟩
  · obtain⟨b,rfl,_⟩:=h;exact⟨_,rfl,rfl,rfl⟩
  · obtain⟨b,rfl,_⟩:=h;exact⟨_,rfl,rfl,rfl⟩
  · obtain⟨b,rfl,_⟩:=h;exact⟨_,rfl,rfl,rfl⟩
  · rename_i hu;rw[hu]at hg;simp at hg
  · exact absurd h (by simp)
theorem qnW{fuel e:Nat}{cs:List Value}{x:DataW H×List MemPlace}(hok:Y1 P S e=true)(h:qt9 enc P w fuel e cs x) :
 ∃z:T,RepA (hv w) z.cells cs∧(∀y∈z.cells,y.isAgg=false)∧z.cells.length=P.cellsOf e∧z.isAgg=Qd P e∧Shp P fuel e z.cells:=by
 obtain⟨⟨xs,h1,h2,h3,h4⟩,_⟩:=h;cases hg:Qd P e with
 | true=>exact⟨.agg xs,h1,h2,h3,rfl,h4⟩
 | false=>
  obtain⟨z,rfl,hz,hzc⟩:=qmG h4 hg hok;exact⟨z,by rw[hzc];exact h1,by rw[hzc];exact h2,by rw[hzc];exact h3,hz,by rw[hzc];exact h4⟩
theorem qgG{fuel e:Nat}:∀ {css:List (List Value)} {l:List T},All2 (fun cs z=>RepA (hv w) z.cells cs∧(∀y∈z.cells,y.isAgg=false)∧z.cells.length=P.cellsOf e∧z.isAgg=Qd P e∧Shp P fuel e z.cells) css l →
 RepA (hv w) (l.flatMap T.cells) css.flatten∧(∀y∈l.flatMap T.cells,y.isAgg=false)
 | _,_,.nil=>⟨.nil,by simp⟩
 | _,_,.cons h h'=>by
  obtain⟨h1,h2⟩:=qgG h';rw[Ku,VF];refine⟨h.1.append h1,fun y hy=>?_⟩
  rcases Km.1 hy with hy | hy
  · exact h.2.1 y hy
  · exact h2 y hy
theorem qfc{fuel:Nat}{cs:List Value}(ih:∀t∈S,∀(cs:List Value) (x:DataW H×List MemPlace),DataW.trod enc P w 0 (fun _=>true) true fuel t cs=some x→qt9 enc P w fuel t cs x):∀(fs:List Field) (o:Nat) (ys:List (DataW H×List MemPlace)),
 qgF P S cs.length o fs=true→fs.mapM (fun f=>DataW.trod enc P w 0 (fun _=>true) true fuel f.type ((cs.drop f.offset).take (P.cellsOf f.type)))=some ys →
 ∃parts:List (List T),RepA (hv w) parts.flatten (cs.drop o)∧(∀y∈parts.flatten,y.isAgg=false)∧All2 (fun(f:Field) p=>Shp P fuel f.type p) fs parts
 | [],o,ys,ht,_=>by
  have:=zb ht;subst this
  rw[KU (zJ _)];exact⟨[],.nil,by simp,.nil⟩
 | f::fs,o,ys,ht,h=>by
  simp only[qgF,zh]at ht;obtain⟨h1,h2,h3⟩:=ht;have:=zb h1;subst this
  rw[List.mapM_cons]at h;obtain⟨y,hy,h⟩:=qb (a:=DataW.trod enc P w 0 (fun _=>true) true fuel f.type ((cs.drop f.offset).take (P.cellsOf f.type))) h
  obtain⟨ys',hys,_⟩:=qb (a:=fs.mapM (fun f=>DataW.trod enc P w 0 (fun _=>true) true fuel f.type ((cs.drop f.offset).take (P.cellsOf f.type)))) h
  obtain⟨⟨xs,a1,a2,a3,a4⟩,_⟩:=ih f.type (by simpa using h2) _ _ hy
  obtain⟨parts,b1,b2,b3⟩:=qfc ih fs _ _ h3 hys;refine⟨xs::parts,?_,fun z hz=>?_,.cons a4 b3⟩
  · rw[VF,← KC (P.cellsOf f.type) (cs.drop f.offset),List.drop_drop]
    exact a1.append b1
  · rw[VF]at hz
    rcases Km.1 hz with hz | hz
    · exact a2 z hz
    · exact b2 z hz
theorem qnX(hS:∀t∈S,Y1 P S t=true):∀(fuel t:Nat),t∈S→∀(cs:List Value) (x:DataW H×List MemPlace),DataW.trod enc P w 0 (fun _=>true) true fuel t cs=some x→qt9 enc P w fuel t cs x:=by
 intro fuel;induction fuel with
 | zero=>intro t _ cs x h;simp[DataW.trod]at h
 | succ fuel ih=>
  intro t htS cs x h;have hok:=hS t htS;have one:∀(v:Value),qgS v=true→cs=[v]→Nat.beq (P.cellsOf t) 1=true→Shp P (fuel+1) t [.s v]→(∀sp:Nat→Bool,(∀p∈x.2,sp p.block=true)→DataW.trod enc P w 0 sp true (fuel+1) t cs=some x)→qt9 enc P w (fuel+1) t cs x:=by
   rintro v hv' rfl h1 h2 h3
   exact⟨⟨[.s v],.cons (.s hv') .nil,by simp[T.isAgg],by rw[zb h1];rfl,h2⟩,h3⟩
  have hh:=h;rw[DataW.trod_step]at h;unfold DataW.trodStep at h;split at h
  case h_1 b hu=>
   refine one _ rfl rfl (by simpa[Y1,hu]using hok) (by simp only[Shp,hu];exact⟨b,rfl⟩) fun sp _=>?_
   rw[DataW.trod_step]at hh ⊢;unfold DataW.trodStep at hh ⊢;simp only[hu]at hh ⊢;exact hh
  case h_2 k k' n hu=>
   split at h
   · rename_i hc
     obtain⟨rfl,hw⟩:=hc;refine one (.int k' n) (show qgS (.int k' n)=true from hw) rfl (by simpa[Y1,hu]using hok) (by simp only[Shp,hu];exact⟨n,rfl,hw⟩) fun sp _=>?_
     rw[DataW.trod_step]at hh ⊢;unfold DataW.trodStep at hh ⊢;simp only[hu]at hh ⊢;exact hh
   · simp at h
  case h_3 k k' b hu=>
   split at h
   · rename_i hc
     obtain⟨rfl,hw⟩:=hc;refine one _ rfl rfl (by simpa[Y1,hu]using hok) (by simp only[Shp,hu];exact⟨b,rfl,hw⟩) fun sp _=>?_
     rw[DataW.trod_step]at hh ⊢;unfold DataW.trodStep at hh ⊢;simp only[hu]at hh ⊢;exact hh
   · simp at h
  case h_4 st hu=>
   split at h
   · rename_i hc
     refine one _ (by show Nat.ble _ _=true;rw[Wa];exact hc) rfl (by simpa[Y1,hu]using hok) (by simp only[Shp,hu];exact⟨st,rfl,hc⟩) fun sp _=>?_
     rw[DataW.trod_step]at hh ⊢;unfold DataW.trodStep at hh ⊢;simp only[hu]at hh ⊢;exact hh
   · simp at h
  case h_7 e hu=>
   simp only[Y1,hu,zh]at hok;refine⟨⟨[.sl (P.cellsOf e) []],.cons (.sl (l:=[]) (vs:=[]) .nil (by simp) (by simp) (by simp) (by simp[maxLen]) (.inl rfl)) .nil,by simp[T.isAgg],by rw[zb hok.1];rfl,?_⟩,fun sp _=>?_⟩
   · simp only[Shp,hu];exact⟨[],rfl,by simp,by simp⟩
   · rw[DataW.trod_step]at hh ⊢;unfold DataW.trodStep at hh ⊢;simp only[hu]at hh ⊢;exact hh
  case h_8 e a len cap hu=>
   simp only[Y1,hu,zh,List.contains_iff_mem]at hok;obtain⟨ho1,ho2,ho3⟩:=hok;have hk:0<P.cellsOf e:=by rw[VO]at ho3;exact ho3
   simp only[]at h;split at h
   · rename_i hc
     obtain⟨hc0,hc1,hc2⟩:=hc;simp only[Vt,VC]at h;obtain⟨elems,he,rest,hrest,rfl⟩:=h;have hlen:elems.length=len:=by simpa using mapM_some_length he
     obtain⟨css,hcl,hcs⟩:=qkR he;have hz:∀cs∈css,∃z:T,RepA (hv w) z.cells cs∧(∀y∈z.cells,y.isAgg=false)∧z.cells.length=P.cellsOf e∧z.isAgg=Qd P e∧Shp P fuel e z.cells:=by
      intro cs hm;obtain⟨i,hi⟩:=K5.1 hm
      obtain⟨_,y,_,hy⟩:=hcs i cs hi;exact qnW (hS e ho2) (ih e ho2 _ _ hy)
     obtain⟨l,hl⟩:=qmF hz;obtain⟨r1,r2⟩:=qgG hl;have hll:l.length=len:=by rw[← hl.length,hcl]
     have hrd:=qmE (w:=w) (a:=a) hk css 0 fun i cs hi=>by rw[zr];exact(hcs i cs hi).1
     refine⟨⟨[.sl (P.cellsOf e) l],.cons ?_ .nil,by simp[T.isAgg],by rw[zb ho1];rfl,?_⟩,fun sp hsp=>?_⟩
     · rw[← hll]
       refine .sl r1 r2 (fun x hx=>?_) (by rw[hll];exact hc1) hc2 ?_
       · obtain⟨cs,hx1⟩:=hl.right x hx
         exact hx1.2.2.1
       · cases hl0:css with
         | nil=>rw[hl0]at hcl;left;rw[← KM];rw[hll,← hcl];rfl
         | cons c0 css'=>
          right;have h0:=(hcs 0 c0 (by rw[hl0];rfl)).1
          obtain⟨_,hcl0,hcc⟩:=World.cells?_some h0
          have h00:=hcc 0 hk
          have hc00:c0[0]?=some (c0[0]'(by omega)):=by rw[zB]
          rw[hc00]at h00;have hsp:a.spot=none:=by
           have e0:(a.add (0*P.cellsOf e)).add 0=a:=by unfold Addr.add;simp
           rw[e0]at h00;exact(qbd h00).1
          refine⟨a.block,a.off,by cases a;simp at hsp;subst hsp;rfl,fun j c hj=>?_⟩
          rw[← hl0]at hj;have:=(hrd j c hj).1
          simpa using this
     · simp only[Shp,hu]
       refine⟨l,rfl,by omega,fun x hx=>?_⟩
       obtain⟨cs,hx1⟩:=hl.right x hx;exact⟨hx1.2.2.2.1,hx1.2.2.2.2⟩
     · rw[DataW.trod_step]
       unfold DataW.trodStep;simp only[hu];rw[zZ ⟨hc0,hc1,hc2⟩];simp only[Vt,VC];have elem:∀(i:Nat) (y:DataW H×List MemPlace),y∈elems++rest→(w.cells? 0 (a.add (i*P.cellsOf e)) (P.cellsOf e)).bind (DataW.trod enc P w 0 (fun _=>true) true fuel e)=some y →
        (w.cells? 0 (a.add (i*P.cellsOf e)) (P.cellsOf e)).bind (DataW.trod enc P w 0 sp true fuel e)=some y:=by
        intro i y hy h1;obtain⟨cs,h2,h3⟩:=VC.1 h1;refine VC.2 ⟨cs,h2,(ih e ho2 _ _ h3).2 sp fun p hp=>hsp p ?_⟩
        exact VL _ (KR.2 ⟨y,hy,hp⟩)
       refine⟨elems,mapM_carry he fun i y _ hy h1=>elem i y (KX _ hy) h1,rest,?_,rfl⟩
       simp only[WT]at hrest;by_cases h0:cap-len=0
       · rw[h0]at hrest ⊢
         simp at hrest;subst hrest;split <;> rfl
       · have hrl:rest.length=cap-len:=by simpa using mapM_some_length hrest
         have:sp a.block=true:=hsp (.cell a.block (a.off+0)) (KX _ (MemPlace.mem_row.2 ⟨0,Wp (by omega) hk,rfl⟩))
         rw[zZ this];exact mapM_carry hrest fun i y _ hy h1=>elem _ y (VL _ hy) h1
   · simp at h
  case h_9 fs hu=>
   simp only[Y1,hu]at hok;split at h
   · rename_i hc
     simp only[Vt]at h;obtain⟨ys,hy,rfl⟩:=h;rw[← hc]at hok;obtain⟨parts,b1,b2,b3⟩:=qfc ih fs.toList 0 ys hok hy
     rw[Vk]at b1;refine⟨⟨parts.flatten,b1,b2,by rw[b1.length,hc],?_⟩,fun sp hsp=>?_⟩
     · simp only[Shp,hu];exact⟨parts,rfl,b3⟩
     · rw[DataW.trod_step]
       unfold DataW.trodStep;simp only[hu];rw[zZ hc];simp only[Vt];have inS:∀(N:Nat) (l:List Field) (o:Nat),qgF P S N o l=true→∀f∈l,f.type∈S:=by
        intro N l;induction l with
        | nil=>intro o _ f hf;simp at hf
        | cons g l ihl=>
         intro o ht f hf;simp only[qgF,zh]at ht;rcases zO.1 hf with rfl | hf
         · simpa using ht.2.1
         · exact ihl _ ht.2.2 f hf
       refine⟨ys,mapM_carry hy fun f y hf hym h1=>(ih f.type (inS _ _ _ hok f hf) _ _ h1).2 sp fun p hp=>hsp p (KR.2 ⟨y,hym,hp⟩),rfl⟩
   · simp at h
  all_goals first
   | (rename_i hu;simp[Y1,hu]at hok;done)
   | (rename_i hu _;simp[Y1,hu]at hok;done)
   | (simp at h;done)
end
end Su
end
section
namespace Su
open Go Fly Go.RowKit Go.ChangeShapes
section
variable {H:Type} {enc:TypeId×Value→H} {P:Program} {w:World} {S:List Nat}
def qrV(P:Program)(t:Nat)(x:T):Prop:=x.isAgg=Qd P t∧∃fuel,Shp P fuel t x.cells
theorem qua{r:Reach}{b0:Nat}{t:Nat}{cs:Array Value}(hok:Y1 P S t=true)(hg:Qd P t=false)(h:Value.okWide P w r b0 t (.agg cs)):False:=by
 unfold Y1 at hok;unfold Value.okWide Cell.okWide Cell.ok at h;unfold Qd at hg;split at hok
 all_goals rename_i hu
 all_goals first
  | (simp[hu]at hok;done)
  | (simp[hu]at hg;done)
  | (simp[hu]at h;done)
theorem qrW(hS:∀t∈S,Y1 P S t=true){r:Reach}{b0 t:Nat}{v:Value}{d:DataW H}{p:List MemPlace}(ht:t∈S)(hval:Value.okWide P w r b0 t v)(h:DataW.Trod enc P w 0 (fun _=>true) true t v d p) :
 (∃x,Rep (hv w) x v∧qrV P t x)∧∀sp:Nat→Bool,(∀q∈p,sp q.block=true)→DataW.Trod enc P w 0 sp true t v d p:=by
 obtain⟨fuel,hf⟩:=h;have hgood:=qnX hS fuel t ht _ _ hf;refine⟨?_,fun sp hsp=>⟨fuel,hgood.2 sp hsp⟩⟩
 obtain⟨⟨xs,h1,h2,h3,h4⟩,_⟩:=hgood;cases hg:Qd P t with
 | true=>
  have:∃cs,v = .agg cs:=by
   unfold Qd at hg;split at hg
   · rename_i fs hu
     unfold Value.okWide at hval;rw[hu]at hval;obtain⟨cs,rfl,_⟩:=hval;exact⟨cs,rfl⟩
   · simp at hg
  obtain⟨cs,rfl⟩:=this;simp only[Value.cells]at h1;exact⟨.agg xs,.agg h1 h2,by rw[hg];rfl,fuel,h4⟩
 | false=>
  obtain⟨z,rfl,hz,hzc⟩:=qmG h4 hg (hS t ht)
  have hvc:v.cells = #[v]:=by
   cases v with
   | agg cs=>exact absurd hval fun h=>qua (hS t ht) hg h
   | _=>rfl
  rw[hvc]at h1;cases h1 with
  | cons h1 _=>exact⟨z,h1,by rw[hz,hg],fuel,by rw[hzc];exact h4⟩
theorem qbe(hS:∀t∈S,Y1 P S t=true){r:Reach}{b0:Nat}:∀(ts:List Nat) (vs:List Value) (ds:List (DataW H)) (p:List MemPlace),(∀t∈ts,t∈S)→(∀(j:Nat) t v,ts[j]?=some t→vs[j]?=some v→Value.okWide P w r b0 t v) →
 DataW.TrodAll enc P w 0 (fun _=>true) true ts vs ds p →
 (∃xs,RepA (hv w) xs vs∧All2 (qrV P) ts xs)∧∀sp:Nat→Bool,(∀q∈p,sp q.block=true)→DataW.TrodAll enc P w 0 sp true ts vs ds p
 | [],vs,ds,p,_,_,h=>by
  obtain⟨rfl,rfl,rfl⟩:=trodAll_nil h;exact⟨⟨[],.nil,.nil⟩,fun _ _=>rfl⟩
 | t::ts,vs,ds,p,hts,hval,h=>by
  obtain⟨v,vs1,d,ds1,a,b,rfl,rfl,rfl,h1,h2⟩:=trodAll_cons h;obtain⟨⟨x,a1,a2⟩,a3⟩:=qrW hS (hts t (zL ..)) (hval 0 t v rfl rfl) h1
  obtain⟨⟨xs,b1,b2⟩,b3⟩:=qbe hS ts vs1 ds1 b (fun u hu=>hts u (zD _ hu)) (fun j t v hj hv=>hval (j+1) t v (by simpa using hj) (by simpa using hv)) h2
  exact⟨⟨x::xs,.cons a1 b1,.cons a2 b2⟩,fun sp hsp=>⟨a,b,a3 sp fun q hq=>hsp q (KX _ hq),b3 sp fun q hq=>hsp q (VL _ hq),rfl⟩⟩
theorem qaL{w':World}{base:Nat}{sp:Nat→Bool}:∀(ts:List Nat) (vs:List Value) (ds:List (DataW H)) (p:List MemPlace),DataW.TrodAll enc P w base sp true ts vs ds p→(∀q∈p,w.sameAt w' q)→DataW.TrodAll enc P w' base sp true ts vs ds p
 | [],vs,ds,p,h,_=>by
  obtain⟨rfl,rfl,rfl⟩:=trodAll_nil h;exact rfl
 | t::ts,vs,ds,p,h,hs=>by
  obtain⟨v,vs1,d,ds1,a,b,rfl,rfl,rfl,h1,h2⟩:=trodAll_cons h;obtain⟨fuel,hf⟩:=h1;exact⟨a,b,⟨fuel,DataW.trod_carry _ _ _ _ hf fun q hq=>hs q (KX _ hq)⟩,qaL ts vs1 ds1 b h2 fun q hq=>hs q (VL _ hq),rfl⟩
end
end Su
end
section
namespace Su
open Go Fly Go.RowKit Go.ChangeShapes
section
variable {H:Type} {enc:TypeId×Value→H} {P:Program} {S:List Nat}
theorem qdf{w:World}{base:Nat}{sp:Nat→Bool}{held:Bool}:∀ {ts:List Nat} {vs:List Value} {ds:List (DataW H)} {p:List MemPlace},DataW.TrodAll enc P w base sp held ts vs ds p→ds.length=ts.length
 | [],_,_,_,h=>by obtain⟨rfl,rfl,rfl⟩:=trodAll_nil h;rfl
 | _::_,_,_,_,h=>by
  obtain⟨v,vs1,d,ds1,a,b,rfl,rfl,rfl,h1,h2⟩:=trodAll_cons h;simp[qdf h2]
theorem qub{W W':World}{may:MemPlace→Prop}(ho:W'.os=W.os)(hp:W'.output=W.output)(hb:∀b,b<W.heap.size→W'.heap[b]?=W.heap[b]?):W.keptBut W' may:=by
 refine⟨ho,hp,fun i hi=>?_⟩
 rw[hb i hi];cases W.heap[i]? with
 | none=>rfl
 | some o=>cases o <;> first | exact⟨rfl,rfl,rfl,fun _ _=>rfl⟩ | exact .inr ⟨rfl,rfl⟩ | rfl
theorem qnY{fn:Func}{s:ChangeSpec}{apart fresh handsOn again:Bool}(hS:∀t∈S,Y1 P S t=true)(hpar:∀t∈fn.params.toList,t∈S){tb:Nat}(hres:fn.resultTypes = #[tb])(htb:P.underlying tb=some .bool)(hvars:s.vars=[])
 (hsn:∀ds:List (DataW H),ds.length=fn.params.size→s.fn H ds = { results:=[.lit (.bool true)],args:=ds }) {W:World} {args:Array Value} {ds gs:List (DataW H)} {before:List MemPlace} {b0:Nat} {r:Reach}
 (hval:∀(j:Nat) t v,fn.params[j]?=some t→args[j]?=some v→Value.okWide P W r b0 t v) (hW:DataW.Whole enc P fn.params.toList s.vars apart W args.toList ds gs before) {W':World} (ho:W'.os=W.os) (hp:W'.output=W.output) (hb:∀b,b<W.heap.size→W'.heap[b]?=W.heap[b]?) :
 s.post enc P fn apart fresh handsOn again W args (.bool true) W':=by
 have hW0:=hW;have hlt:=hW.lt;obtain⟨p,q,hA,hV,rfl,hz,hn⟩:=hW;have hlen:ds.length=fn.params.size:=by rw[qdf hA];simp
 have hV0:gs=[]∧q=[]:=by
  rw[hvars]at hV;cases gs with
  | nil=>exact⟨rfl,hV⟩
  | cons g l=>exact absurd hV (by intro h;cases h)
 obtain⟨rfl,rfl⟩:=hV0;have same:∀x∈p,W.sameAt W' x:=by
  intro x hx;have h1:=hlt x (KX _ hx)
  cases x with
  | cell b off=>simp only[World.sameAt,World.cell?];rw[hb b h1]
  | map b=>exact hb b h1
 have hargs:=(qbe hS _ _ _ _ hpar (fun j t v hj hv=>hval j t v (by simpa using hj) (by simpa using hv)) hA).2
 have hcarry:∀sp:Nat→Bool,(∀x∈p,sp x.block=true)→DataW.TrodAll enc P W' 0 sp true fn.params.toList args.toList ds p:=fun sp hsp=>qaL _ _ _ _ (hargs sp hsp) same
 have hfn:=hsn ds hlen;have hresult:∀(bs:Nat) (sp:Nat→Bool) (hd:Bool),DataW.TrodAll enc P W' bs sp hd fn.resultTypes.toList ((Value.bool true).resultList fn.resultTypes.size) [.lit (.bool true)] []:=by
  intro bs sp hd;rw[hres];exact trodAll_mk1 (shut_bool htb true)
 have hold:∀x∈p,(fun b=>decide (b<W.heap.size)) x.block=true:=fun x hx=>by simpa using hlt x (KX _ hx)
 have hvs:∀sp,DataW.TrodVars enc P W' sp s.vars (s.fn H (ds++[])).vars []:=fun sp=>by rw[Kh,hfn,hvars];rfl
 refine⟨ds,[],p++[],[],p,[],hW0,?_,?_,hvs _,qub ho hp hb,fun _=>⟨?_,?_⟩⟩
 · rw[Kh,hfn];exact hresult _ _ _
 · rw[Kh,hfn];exact hcarry _ hold
 · intro j t r0 h1 h2
   rw[hres]at h1 h2;have:(Value.bool true).resultList #[tb].size=[.bool true]:=rfl
   rw[this]at h2;cases j with
   | zero=>
    simp at h1 h2;subst h1 h2
    unfold Value.okWide;rw[htb];simp[Cell.okWide,Cell.ok,htb]
   | succ j=>simp at h1
 · refine⟨_,[],([]++p)++[],⟨[]++p,[],trodAll_append (hcarry _ fun _ _=>rfl) (hresult _ _ _),?_,rfl,?_,?_⟩,?_⟩
   · have:=hvs (fun _=>true)
     rw[Kh,hfn]at this;exact this
   · intro b off hm
     have hm':MemPlace.cell b off∈p:=by simpa using hm
     have h1:b<W.heap.size:=hlt _ (KX _ hm')
     have h2:=hz b off (by simpa using hm')
     unfold World.frozen? at h2 ⊢
     rw[hb b h1];exact h2
   · intro ha;simpa using hn ha
   · intro x hx _;simpa using hx
theorem qrX{fn:Func}{f:FuncId}{s:ChangeSpec}{apart fresh handsOn again:Bool}(hS:∀t∈S,Y1 P S t=true)(hpar:∀t∈fn.params.toList,t∈S){tb:Nat}(hres:fn.resultTypes = #[tb])(htb:P.underlying tb=some .bool)(hvars:s.vars=[])
 (hsn:∀ds:List (DataW H),ds.length=fn.params.size→s.fn H ds = { results:=[.lit (.bool true)],args:=ds }) {W:World} {args:Array Value} {ds gs:List (DataW H)} {before:List MemPlace} {b0:Nat} {r:Reach}
 (hval:∀(j:Nat) t v,fn.params[j]?=some t→args[j]?=some v→Value.okWide P W r b0 t v) (hW:DataW.Whole enc P fn.params.toList s.vars apart W args.toList ds gs before)
 (h:∀xs,RepA (hv W) xs args.toList→All2 (qrV P) fn.params.toList xs→jl P f args (hv W) [] fun v _ _=>v = .bool true) :
 Calls P f args W fun e W'=>∃v,e = .returned v∧s.post enc P fn apart fresh handsOn again W args v W':=by
 obtain⟨p,q,hA,hV,hpq,hz,hn⟩:=id hW;obtain⟨⟨xs,h1,h2⟩,_⟩:=qbe hS _ _ _ _ hpar (fun j t v hj hv=>hval j t v (by simpa using hj) (by simpa using hv)) hA
 refine(h xs h1 h2 W (fun _ _ h=>h) (fun _ h=>by cases h) (fun _ h=>by cases h) VH).mono ?_
 rintro e W' ⟨v,V',G',rfl,hh,rfl⟩
 exact⟨_,rfl,qnY hS hpar hres htb hvars hsn hval hW hh.ext.os hh.ext.output fun b hb=>hh.ext.block b hb (by simp[keys])⟩
end
end Su
end
