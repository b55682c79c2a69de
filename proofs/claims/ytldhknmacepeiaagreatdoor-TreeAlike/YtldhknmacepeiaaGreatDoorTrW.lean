/-
  A small logic of walks: judgements, operations, regions, loops, calls. No condition.
-/
import Derived.Test.YtldhknmacepeiaaGreatDoorTrTb
import Derived.Test.YtldhknmacepeiaaGreatDoorTr1
import Derived.Test.YtldhknmacepeiaaGreatDoorTra
import Derived.Test.YtldhknmacepeiaaGreatDoorSuSd
import Derived.Test.YtldhknmacepeiaaGreatDoorTrR
import Derived.Test.YtldhknmacepeiaaGreatDoorFlyH
set_option linter.unusedVariables false
set_option linter.unusedSimpArgs false
section
namespace Fly
open Go Go.Proofs
set_option maxRecDepth 10000
attribute [local irreducible] WC WE WR Opr St Go.Calls Js QE Qj Owe One QS
def WgR(V:qa)(most:Int)(W:Nat)(v:Value)(V':qa):Prop:=∃r:Int,v = .int .i64 r∧V'=V∧0≤r∧r≤2*most+2∧(r≤most→r=(W:Int))
theorem qt3{α:Type}(w:α→Nat)(l:List α):∃tk:Nat→Nat,tk 0=0∧tk l.length=(l.map w).sum∧∀i x,l[i]?=some x→tk (i+1)=tk i+w x :=
 ⟨fun i=>((l.take i).map w).sum,by simp,by simp,fun i x h=>by simp only[WL,h];simp⟩
theorem qhQ:∀es:Exs,wEs es=(es.list.map wE).sum
 | .nil=>rfl
 | .cons e r=>by simp[wEs,Exs.list,qhQ r]
theorem qmA:∀es:Sts,wSs es=(es.list.map wS).sum
 | .nil=>rfl
 | .cons e r=>by simp[wSs,Sts.list,qmA r]
theorem qmB:∀ds:List Dc,wDs ds=(ds.map wD).sum
 | []=>rfl
 | d::r=>by simp[wDs,qmB r]
def C21(V:qa)(x:Ex):Prop:=∀ {cx:List Value} (most:Int),0≤most→most≤1000000→Ex.Is V x cx→Rel Tryz.prog 83 [.agg cx.toArray,.int .i64 most] V (WgR V most (wE x))
theorem c21b{V:qa}{op p:Int}{bo:Bool}{i f:Int}{nm:ByteArray}{es:Exs}(ih:∀x∈es.list,C21 V x):C21 V (.mk op p bo i f nm es):=by
 intro cx most hm0 hm1 hx;simp only[Ex.Is]at hx;obtain⟨sx,ex,rfl,hsx,has⟩:=hx;have hp:=Exs.parts has;obtain⟨tk,t0,tm,ts⟩:=qt3 wE es.list;have hW:wE (.mk op p bo i f nm es)=1+nm.size+tk es.list.length:=by rw[tm,← qhQ];rfl
 rw[hW];clear hW tm;generalize hm:es.list.length=m at *
 refine JK Tryz.func83 rfl Tryz.ntmps83 rfl ?_;intro X w hM hw hV0 hR;dsimp only[je,Nat.zero_add,Nat.reduceAdd]
 (repeat' (first | refine qq ?_ | refine qc ?_ | refine qo ?_ | refine qh ?_ | refine qz ?_ | ((refine qn rfl ?_);(first | (refine Zb rfl rfl (by kernel_rfl) ?_) | (refine qgO rfl rfl ?_) | refine qk rfl ?_ | refine qm rfl ?_ | refine jD rfl rfl (by omega) (by omega) ?_ | refine qf tb rfl rfl ?_ | (apply qu tb rfl rfl;(· (refine At.own (?_);repeat (exact Has.here)));(· exact rfl)) | (refine qO rfl ?_;intro b)))))
 refine yL (fun L' V' G' μ=>∃i0:Nat,∃z:Int,i0≤m∧μ=m-i0∧V'=V∧G'=[(b,.cells [.int .u8 op,.int .i64 p,.bool bo,.int .i32 i,.int .u64 f,.string nm,sx].toArray 78 (0,0))]∧L'=[(6,.int .i64 i0),(5,.int .i64 z),(1,.int .i64 most),(2,.pointer (some ⟨b,0,none⟩))]∧0≤z∧z≤2*most+2∧(z≤most→z=1+(nm.size:Int)+(tk i0:Int))) (m0:=m) (by repeat (first | exact SubL.nil | refine SubL.cons rfl ?_)) (by repeat (first | exact List.Sublist.slnil | apply List.Sublist.cons_cons)) ⟨0,_,by omega,by omega,rfl,rfl,rfl,by omega,by omega,fun h=>by omega⟩ ?_
 rintro L' V' G' μ ⟨i0,z,hi,hμ,hVe,hGe,hLe,z0,z1,z2⟩
 subst hVe hGe hLe
 by_cases hlt:i0<m
 · obtain⟨ax,lx,qx,rfl,hq1,hq2,hlx,hpx⟩:=hsx
   have hxl:=hp.1;have hlx':lx=m:=by omega
   subst hlx';have hbig:lx≤9223372036854775807:=by unfold maxLen at hq2;omega
   obtain⟨bx,ox,rfl,hrx⟩:=hpx.resolve_left (by omega)
   obtain⟨c,hc1,⟨x,hx1,hc2⟩,hc3⟩:=hp.rd hrx (i:=i0) (by omega)
   have hts:=ts i0 x hx1;have hk:∀most,0≤most→most≤1000000→Rel Tryz.prog 83 [.agg c.toArray,.int .i64 most] V' (WgR V' most (wE x)):=fun most h0 h1=>ih x (zW hx1) most h0 h1 hc2
   (repeat' (first | refine qq ?_ | refine qc ?_ | refine qo ?_ | refine qh ?_ | refine qz ?_ | refine qG ?_ | refine jg ?_ | refine jm ?_ | refine qF ?_ | refine qD ?_ | refine qP ?_ | refine qT ?_ | ((first | refine qn rfl ?_ | refine yh rfl rfl rfl ?_);(first | (refine qV tb rfl rfl rfl (by omega) (by omega) ?_) | (refine j8 tb rfl rfl hc1 (by decide) hc3 ?_) | (refine jZ tb rfl rfl (hk _ (by omega) (by omega)) ?_;rintro _ _ _ ⟨y,rfl,rfl,y0,y1,y2⟩) | refine qk rfl ?_ | refine qm rfl ?_ | refine jx rfl rfl ?_ | refine Qs rfl rfl ?_ | refine qK rfl rfl ?_ | refine qL rfl rfl ?_ | refine jD rfl rfl (by omega) (by omega) ?_ | refine QD rfl rfl (by omega) (by omega) ?_ | refine qf tb rfl rfl ?_ | refine yw tb rfl rfl rfl ?_ | (apply qu tb rfl rfl;(· (refine At.own (?_);repeat (exact Has.here)));(· exact rfl)))) | refine Qr rfl rfl rfl rfl ?_ | refine qC rfl ?_ | refine jW rfl (fun _=>?_) (fun _=>?_) | refine jp rfl rfl (fun _=>?_) (fun _=>?_)))
   all_goals first
    | (exfalso;omega)
    | (refine JB hM hw hV0 hR (yy rfl rfl) ⟨_,rfl,rfl,by omega,by omega,fun h=>by omega⟩)
    | exact yo (by repeat (first | exact SubL.nil | refine SubL.cons rfl ?_)) (by repeat (first | exact List.Sublist.slnil | apply List.Sublist.cons_cons)) ⟨i0+1,_,by omega,rfl,rfl,rfl,rfl,by omega,by omega,fun h=>by omega⟩ (by omega)
 · obtain rfl:i0=m:=by omega
   (repeat' (first | refine qq ?_ | refine qc ?_ | refine qo ?_ | refine qh ?_ | refine qz ?_ | refine qG ?_ | refine jm ?_ | refine qF ?_ | refine qD ?_ | refine qP ?_ | refine qT ?_ | ((first | refine qn rfl ?_ | refine yh rfl rfl rfl ?_);(first | (refine jE tb rfl hsx rfl rfl hp.1 (by decide) ?_) | refine qk rfl ?_ | refine qm rfl ?_ | refine jx rfl rfl ?_ | refine Qs rfl rfl ?_ | refine qK rfl rfl ?_ | refine qL rfl rfl ?_ | refine qf tb rfl rfl ?_ | (apply qu tb rfl rfl;(· (refine At.own (?_);repeat (exact Has.here)));(· exact rfl)))) | refine Qr rfl rfl rfl rfl ?_ | refine qC rfl ?_ | refine jW rfl (fun _=>?_) (fun _=>?_) | refine jp rfl rfl (fun _=>?_) (fun _=>?_)))
   all_goals first
    | (exfalso;omega)
    | (refine JB hM hw hV0 hR (yy rfl rfl) ⟨_,rfl,rfl,by omega,by omega,fun h=>by omega⟩)
mutual
theorem c21{V:qa}:∀(x:Ex),C21 V x
 | .mk _ _ _ _ _ _ es=>c21b (c21s es)
 termination_by structural x=>x
theorem c21s{V:qa}:∀(es:Exs),∀x∈es.list,C21 V x
 | .nil,x,hm=>by simp[Exs.list]at hm
 | .cons e r,x,hm=>by
  rcases zO.1 hm with h | h
  · rw[h];exact c21 e
  · exact c21s r x h
 termination_by structural x=>x
end
theorem c49{V:qa}{es:Exs}{sx:Value}{cx:List Value}(most:Int)(hm0:0≤most)(hm1:most≤1000000)(hsx:Sl 7 V sx cx)(has:Exs.Is V es cx):Rel Tryz.prog 137 [sx,.int .i64 most] V (WgR V most (wEs es)):=by
 have hp:=Exs.parts has;obtain⟨tk,t0,tm,ts⟩:=qt3 wE es.list;have hW:wEs es=tk es.list.length:=by rw[tm,← qhQ]
 rw[hW];clear hW tm;generalize hm:es.list.length=m at *
 refine JK Tryz.func137 rfl Tryz.ntmps137 rfl ?_;intro X w hM hw hV0 hR;dsimp only[je,Nat.zero_add,Nat.reduceAdd]
 (repeat' (first | refine qq ?_ | refine qc ?_ | refine qo ?_ | refine qh ?_ | refine qz ?_ | ((refine qn rfl ?_);(refine qm rfl ?_))))
 refine yL (fun L' V' G' μ=>∃i0:Nat,∃z:Int,i0≤m∧μ=m-i0∧V'=V∧G'=[]∧L'=[(6,.int .i64 i0),(5,.int .i64 z),(0,sx),(1,.int .i64 most)]∧0≤z∧z≤2*most+2∧(z≤most→z=(tk i0:Int))) (m0:=m) (by repeat (first | exact SubL.nil | refine SubL.cons rfl ?_)) (Ks _) ⟨0,_,by omega,by omega,rfl,rfl,rfl,by omega,by omega,fun h=>by omega⟩ ?_
 rintro L' V' G' μ ⟨i0,z,hi,hμ,hVe,hGe,hLe,z0,z1,z2⟩
 subst hVe hGe hLe
 by_cases hlt:i0<m
 · obtain⟨ax,lx,qx,rfl,hq1,hq2,hlx,hpx⟩:=hsx
   have hxl:=hp.1;have hlx':lx=m:=by omega
   subst hlx';have hbig:lx≤9223372036854775807:=by unfold maxLen at hq2;omega
   obtain⟨bx,ox,rfl,hrx⟩:=hpx.resolve_left (by omega)
   obtain⟨c,hc1,⟨x,hx1,hc2⟩,hc3⟩:=hp.rd hrx (i:=i0) (by omega)
   have hts:=ts i0 x hx1;have hk:∀most,0≤most→most≤1000000→Rel Tryz.prog 83 [.agg c.toArray,.int .i64 most] V' (WgR V' most (wE x)):=fun most h0 h1=>c21 x most h0 h1 hc2
   (repeat' (first | refine qq ?_ | refine qc ?_ | refine qo ?_ | refine qh ?_ | refine qz ?_ | refine qG ?_ | refine jg ?_ | refine jm ?_ | refine qF ?_ | refine qD ?_ | refine qP ?_ | refine qT ?_ | ((first | refine qn rfl ?_ | refine yh rfl rfl rfl ?_);(first | (refine qV tb rfl rfl rfl (by omega) (by omega) ?_) | (refine j8 tb rfl rfl hc1 (by decide) hc3 ?_) | (refine jZ tb rfl rfl (hk _ (by omega) (by omega)) ?_;rintro _ _ _ ⟨y,rfl,rfl,y0,y1,y2⟩) | refine qk rfl ?_ | refine qm rfl ?_ | refine jx rfl rfl ?_ | refine Qs rfl rfl ?_ | refine qK rfl rfl ?_ | refine qL rfl rfl ?_ | refine jD rfl rfl (by omega) (by omega) ?_ | refine QD rfl rfl (by omega) (by omega) ?_ | refine yw tb rfl rfl rfl ?_)) | refine Qr rfl rfl rfl rfl ?_ | refine qC rfl ?_ | refine jW rfl (fun _=>?_) (fun _=>?_) | refine jp rfl rfl (fun _=>?_) (fun _=>?_)))
   all_goals first
    | (exfalso;omega)
    | (refine JB hM hw hV0 hR (yy rfl rfl) ⟨_,rfl,rfl,by omega,by omega,fun h=>by omega⟩)
    | exact yo (by repeat (first | exact SubL.nil | refine SubL.cons rfl ?_)) (by repeat (exact List.Sublist.slnil)) ⟨i0+1,_,by omega,rfl,rfl,rfl,rfl,by omega,by omega,fun h=>by omega⟩ (by omega)
 · obtain rfl:i0=m:=by omega
   (repeat' (first | refine qq ?_ | refine qc ?_ | refine qo ?_ | refine qh ?_ | refine qz ?_ | refine qG ?_ | refine jm ?_ | refine qF ?_ | refine qD ?_ | refine qP ?_ | refine qT ?_ | ((first | refine qn rfl ?_ | refine yh rfl rfl rfl ?_);(first | (refine jE tb rfl hsx rfl rfl hp.1 (by decide) ?_) | refine qk rfl ?_ | refine qm rfl ?_ | refine jx rfl rfl ?_ | refine Qs rfl rfl ?_ | refine qK rfl rfl ?_ | refine qL rfl rfl ?_)) | refine Qr rfl rfl rfl rfl ?_ | refine qC rfl ?_ | refine jW rfl (fun _=>?_) (fun _=>?_) | refine jp rfl rfl (fun _=>?_) (fun _=>?_)))
   all_goals first
    | (exfalso;omega)
    | (refine JB hM hw hV0 hR (yy rfl rfl) ⟨_,rfl,rfl,by omega,by omega,fun h=>by omega⟩)
def C22(V:qa)(es:Sts):Prop:=∀ {sx:Value} {cx:List Value} (most:Int),0≤most→most≤1000000→Sl 15 V sx cx→Sts.Is V es cx→Rel Tryz.prog 84 [sx,.int .i64 most] V (WgR V most (wSs es))
def K22(V:qa):St_→Prop
 | .mk _ _ _ _ _ _ _ tn el=>C22 V tn∧C22 V el
set_option maxHeartbeats 2000000 in
theorem qwU{V:qa}{es:Sts}(ih:∀x∈es.list,K22 V x):C22 V es:=by
 intro sx cx most hm0 hm1 hsx has;have hp:=Sts.parts has;obtain⟨tk,t0,tm,ts⟩:=qt3 wS es.list;have hW:wSs es=tk es.list.length:=by rw[tm,← qmA]
 rw[hW];clear hW tm;generalize hm:es.list.length=m at *
 refine JK Tryz.func84 rfl Tryz.ntmps84 rfl ?_;intro X w hM hw hV0 hR;dsimp only[je,Nat.zero_add,Nat.reduceAdd]
 (repeat' (first | refine qq ?_ | refine qc ?_ | refine qo ?_ | refine qh ?_ | refine qz ?_ | ((refine qn rfl ?_);(refine qm rfl ?_))))
 refine yL (fun L' V' G' μ=>∃i0:Nat,∃z:Int,i0≤m∧μ=m-i0∧V'=V∧G'=[]∧L'=[(6,.int .i64 i0),(5,.int .i64 z),(0,sx),(1,.int .i64 most)]∧0≤z∧z≤2*most+2∧(z≤most→z=(tk i0:Int))) (m0:=m) (by repeat (first | exact SubL.nil | refine SubL.cons rfl ?_)) (Ks _) ⟨0,_,by omega,by omega,rfl,rfl,rfl,by omega,by omega,fun h=>by omega⟩ ?_
 rintro L' V' G' μ ⟨i0,z,hi,hμ,hVe,hGe,hLe,z0,z1,z2⟩
 subst hVe hGe hLe
 by_cases hlt:i0<m
 · obtain⟨ax,lx,qx,rfl,hq1,hq2,hlx,hpx⟩:=hsx
   have hxl:=hp.1;have hlx':lx=m:=by omega
   subst hlx';have hbig:lx≤9223372036854775807:=by unfold maxLen at hq2;omega
   obtain⟨bx,ox,rfl,hrx⟩:=hpx.resolve_left (by omega)
   obtain⟨c,hc1,⟨x,hx1,hc2⟩,hc3⟩:=hp.rd hrx (i:=i0) (by omega)
   have kids:=ih x (zW hx1)
   have hts:=ts i0 x hx1;obtain⟨kd,p,nm,ix,ex,lo,hi_,tn,el⟩:=x;simp only[wS]at hts;simp only[St_.Is]at hc2;obtain⟨s1,c1,ce,s2,c2,s3,c3,rfl,g1,h1,he,g2,h2,g3,h3⟩:=hc2;have k1:=fun most h0 h1'=>c49 (V:=V') most h0 h1' g1 h1
   have k2:∀most,0≤most→most≤1000000→Rel Tryz.prog 83 [.agg ce.toArray,.int .i64 most] V' (WgR V' most (wE ex)):=fun most h0 h1=>c21 ex most h0 h1 he
   have k3:=fun most h0 h1=>kids.1 most h0 h1 g2 h2
   have k4:=fun most h0 h1=>kids.2 most h0 h1 g3 h3
   obtain⟨a0,a1,a2,a3,a4,a5,a6,rfl⟩:=he.lit;simp only[zA,zx]at hc1 hc3;have r2:=hc3 2 _ rfl
   have r3:=hc3 3 _ rfl
   have r4:∀j v,[a0,a1,a2,a3,a4,a5,a6][j]?=some v→rd V' bx (ox+i0*15+4+j) v:=fun j v hj=>by
    rw[Kp];refine hc3 (4+j) v ?_
    rw[VY];have:j<7:=by have:=(zu.1 hj).1;simpa using this
    rcases j with _ | _ | _ | _ | _ | _ | _ | j <;> first | exact hj | omega
   have r13:=hc3 13 _ rfl
   have r14:=hc3 14 _ rfl
   (repeat' (first | refine qq ?_ | refine qc ?_ | refine qo ?_ | refine qh ?_ | refine qz ?_ | refine qG ?_ | refine jg ?_ | refine jm ?_ | refine qF ?_ | refine qD ?_ | refine qP ?_ | refine qT ?_ | ((first | refine qn rfl ?_ | refine yh rfl rfl rfl ?_);(first | (refine Zb rfl rfl (by kernel_rfl) ?_) | (refine qgO rfl rfl ?_) | (refine qV tb rfl rfl rfl (by omega) (by omega) ?_) | (refine Qk tb rfl rfl r2 ?_) | (refine Qk tb rfl rfl r3 ?_) | (refine Qk tb rfl rfl r13 ?_) | (refine Qk tb rfl rfl r14 ?_) | (refine j8 tb rfl rfl rfl (by decide) r4 ?_) | (refine jZ tb rfl rfl (k1 _ (by omega) (by omega)) ?_;rintro _ _ _ ⟨y,rfl,rfl,y0,y1,y2⟩) | (refine jZ tb rfl rfl (k2 _ (by omega) (by omega)) ?_;rintro _ _ _ ⟨y,rfl,rfl,y0,y1,y2⟩) | (refine jZ tb rfl rfl (k3 _ (by omega) (by omega)) ?_;rintro _ _ _ ⟨y,rfl,rfl,y0,y1,y2⟩) | (refine jZ tb rfl rfl (k4 _ (by omega) (by omega)) ?_;rintro _ _ _ ⟨y,rfl,rfl,y0,y1,y2⟩) | refine qk rfl ?_ | refine qm rfl ?_ | refine jx rfl rfl ?_ | refine Qs rfl rfl ?_ | refine qK rfl rfl ?_ | refine qL rfl rfl ?_ | refine jD rfl rfl (by omega) (by omega) ?_ | refine QD rfl rfl (by omega) (by omega) ?_ | refine qf tb rfl rfl ?_ | refine yw tb rfl rfl rfl ?_)) | refine Qr rfl rfl rfl rfl ?_ | refine qC rfl ?_ | refine jW rfl (fun _=>?_) (fun _=>?_) | refine jp rfl rfl (fun _=>?_) (fun _=>?_)))
   all_goals first
    | (exfalso;omega)
    | (refine JB hM hw hV0 hR (yy rfl rfl) ⟨_,rfl,rfl,by omega,by omega,fun h=>by omega⟩)
    | exact yo (by repeat (first | exact SubL.nil | refine SubL.cons rfl ?_)) (by repeat (exact List.Sublist.slnil)) ⟨i0+1,_,by omega,rfl,rfl,rfl,rfl,by omega,by omega,fun h=>by omega⟩ (by omega)
 · obtain rfl:i0=m:=by omega
   (repeat' (first | refine qq ?_ | refine qc ?_ | refine qo ?_ | refine qh ?_ | refine qz ?_ | refine qG ?_ | refine jm ?_ | refine qF ?_ | refine qD ?_ | refine qP ?_ | refine qT ?_ | ((first | refine qn rfl ?_ | refine yh rfl rfl rfl ?_);(first | (refine jE tb rfl hsx rfl rfl hp.1 (by decide) ?_) | refine qk rfl ?_ | refine qm rfl ?_ | refine jx rfl rfl ?_ | refine Qs rfl rfl ?_ | refine qK rfl rfl ?_ | refine qL rfl rfl ?_ | refine jD rfl rfl (by omega) (by omega) ?_)) | refine Qr rfl rfl rfl rfl ?_ | refine qC rfl ?_ | refine jW rfl (fun _=>?_) (fun _=>?_) | refine jp rfl rfl (fun _=>?_) (fun _=>?_)))
   all_goals first
    | (exfalso;omega)
    | (refine JB hM hw hV0 hR (yy rfl rfl) ⟨_,rfl,rfl,by omega,by omega,fun h=>by omega⟩)
mutual
theorem c22k{V:qa}:∀(x:St_),K22 V x
 | .mk _ _ _ _ _ _ _ tn el=>⟨qwU (c22l tn),qwU (c22l el)⟩
 termination_by structural x=>x
theorem c22l{V:qa}:∀(es:Sts),∀x∈es.list,K22 V x
 | .nil,x,hm=>by simp[Sts.list]at hm
 | .cons e r,x,hm=>by
  rcases zO.1 hm with h | h
  · rw[h];exact c22k e
  · exact c22l r x h
 termination_by structural x=>x
end
theorem c22{V:qa}(es:Sts):C22 V es:=qwU (c22l es)
set_option maxHeartbeats 2000000 in
theorem c7{V:qa}(p:Pg){cx:List Value}(most:Int)(hm0:0≤most)(hm1:most≤1000000)(hx:Pg.Is V p cx):Rel Tryz.prog 38 [.agg cx.toArray,.int .i64 most] V (WgR V most (wP p)):=by
 obtain⟨sd,cd,si,ci,ss,cS,rfl,g1,h1,g2,h2,g3,h3⟩:=hx;have q2:=fun most h0 h1=>c22 p.ini most h0 h1 g2 h2
 have q3:=fun most h0 h1=>c22 p.step most h0 h1 g3 h3
 have hp:=QI.parts h1;obtain⟨tk,t0,tm,ts⟩:=qt3 wD p.ds;have hW:wP p=tk p.ds.length+wSs p.ini+wSs p.step:=by rw[tm,← qmB];rfl
 rw[hW];clear hW tm;generalize hm:p.ds.length=m at *
 refine JK Tryz.func38 rfl Tryz.ntmps38 rfl ?_;intro X w hM hw hV0 hR;dsimp only[je,Nat.zero_add,Nat.reduceAdd]
 (repeat' (first | refine qq ?_ | refine qc ?_ | refine qo ?_ | refine qh ?_ | refine qz ?_ | ((refine qn rfl ?_);(first | refine qm rfl ?_ | (refine qO rfl ?_;intro b)))))
 refine yL (fun L' V' G' μ=>∃i0:Nat,∃z:Int,i0≤m∧μ=m-i0∧V'=V∧G'=[(b,.cells [.int .i64 p.ticks,sd,si,ss].toArray 66 (0,0))]∧L'=[(6,.int .i64 i0),(5,.int .i64 z),(1,.int .i64 most),(2,.pointer (some ⟨b,0,none⟩))]∧0≤z∧z≤2*most+2∧(z≤most→z=(tk i0:Int))) (m0:=m) (by repeat (first | exact SubL.nil | refine SubL.cons rfl ?_)) (Ks _) ⟨0,_,by omega,by omega,rfl,rfl,rfl,by omega,by omega,fun h=>by omega⟩ ?_
 rintro L' V' G' μ ⟨i0,z,hi,hμ,hVe,hGe,hLe,z0,z1,z2⟩
 subst hVe hGe hLe
 by_cases hlt:i0<m
 · obtain⟨ax,lx,qx,rfl,hq1,hq2,hlx,hpx⟩:=g1
   have hxl:=hp.1;have hlx':lx=m:=by omega
   subst hlx';have hbig:lx≤9223372036854775807:=by unfold maxLen at hq2;omega
   obtain⟨bx,ox,rfl,hrx⟩:=hpx.resolve_left (by omega)
   obtain⟨c,hc1,⟨x,hx1,hc2⟩,hc3⟩:=hp.rd hrx (i:=i0) (by omega)
   have hts:=ts i0 x hx1;unfold wD at hts;obtain⟨ce,cf,rfl,he,hf⟩:=hc2;have k1:∀most,0≤most→most≤1000000→Rel Tryz.prog 83 [.agg ce.toArray,.int .i64 most] V' (WgR V' most (wE x.lo)):=fun most h0 h1=>c21 _ most h0 h1 he
   have k2:∀most,0≤most→most≤1000000→Rel Tryz.prog 83 [.agg cf.toArray,.int .i64 most] V' (WgR V' most (wE x.hi)):=fun most h0 h1=>c21 _ most h0 h1 hf
   obtain⟨a0,a1,a2,a3,a4,a5,a6,rfl⟩:=he.lit;obtain⟨d0,d1,d2,d3,d4,d5,d6,rfl⟩:=hf.lit;simp only[zA,zx]at hc1 hc3;have r2:=hc3 2 _ rfl
   have r6:∀j v,[a0,a1,a2,a3,a4,a5,a6][j]?=some v→rd V' bx (ox+i0*20+6+j) v:=fun j v hj=>by
    rw[Kp];refine hc3 (6+j) v ?_
    rw[VY];have:j<7:=by have:=(zu.1 hj).1;simpa using this
    rcases j with _ | _ | _ | _ | _ | _ | _ | j <;> first | exact hj | omega
   have r13:∀j v,[d0,d1,d2,d3,d4,d5,d6][j]?=some v→rd V' bx (ox+i0*20+13+j) v:=fun j v hj=>by
    rw[Kp];refine hc3 (13+j) v ?_
    rw[VY];have:j<7:=by have:=(zu.1 hj).1;simpa using this
    rcases j with _ | _ | _ | _ | _ | _ | _ | j <;> first | exact hj | omega
   (repeat' (first | refine qq ?_ | refine qc ?_ | refine qo ?_ | refine qh ?_ | refine qz ?_ | refine qG ?_ | refine jg ?_ | refine jm ?_ | refine qF ?_ | refine qD ?_ | refine qP ?_ | refine qT ?_ | ((first | refine qn rfl ?_ | refine yh rfl rfl rfl ?_);(first | (refine Zb rfl rfl (by kernel_rfl) ?_) | (refine qgO rfl rfl ?_) | (refine qV tb rfl rfl rfl (by omega) (by omega) ?_) | (refine Qk tb rfl rfl r2 ?_) | (refine j8 tb rfl rfl rfl (by decide) r6 ?_) | (refine j8 tb rfl rfl rfl (by decide) r13 ?_) | (refine jZ tb rfl rfl (k1 _ (by omega) (by omega)) ?_;rintro _ _ _ ⟨y,rfl,rfl,y0,y1,y2⟩) | (refine jZ tb rfl rfl (k2 _ (by omega) (by omega)) ?_;rintro _ _ _ ⟨y,rfl,rfl,y0,y1,y2⟩) | (refine jZ tb rfl rfl (q2 _ (by omega) (by omega)) ?_;rintro _ _ _ ⟨y,rfl,rfl,y0,y1,y2⟩) | (refine jZ tb rfl rfl (q3 _ (by omega) (by omega)) ?_;rintro _ _ _ ⟨y,rfl,rfl,y0,y1,y2⟩) | refine qk rfl ?_ | refine qm rfl ?_ | refine jx rfl rfl ?_ | refine Qs rfl rfl ?_ | refine qK rfl rfl ?_ | refine qL rfl rfl ?_ | refine jD rfl rfl (by omega) (by omega) ?_ | refine QD rfl rfl (by omega) (by omega) ?_ | refine qf tb rfl rfl ?_ | refine yw tb rfl rfl rfl ?_ | (apply qu tb rfl rfl;(· (refine At.own (?_);repeat (exact Has.here)));(· exact rfl)))) | refine Qr rfl rfl rfl rfl ?_ | refine qC rfl ?_ | refine jW rfl (fun _=>?_) (fun _=>?_) | refine jp rfl rfl (fun _=>?_) (fun _=>?_)))
   all_goals first
    | (exfalso;omega)
    | (refine JB hM hw hV0 hR (yy rfl rfl) ⟨_,rfl,rfl,by omega,by omega,fun h=>by omega⟩)
    | exact yo (by repeat (first | exact SubL.nil | refine SubL.cons rfl ?_)) (by repeat (first | exact List.Sublist.slnil | apply List.Sublist.cons_cons)) ⟨i0+1,_,by omega,rfl,rfl,rfl,rfl,by omega,by omega,fun h=>by omega⟩ (by omega)
 · obtain rfl:i0=m:=by omega
   (repeat' (first | refine qq ?_ | refine qc ?_ | refine qo ?_ | refine qh ?_ | refine qz ?_ | refine qG ?_ | refine jm ?_ | refine qF ?_ | refine qD ?_ | refine qP ?_ | refine qT ?_ | ((first | refine qn rfl ?_ | refine yh rfl rfl rfl ?_);(first | (refine jE tb rfl g1 rfl rfl hp.1 (by decide) ?_) | (refine jZ tb rfl rfl (q2 _ (by omega) (by omega)) ?_;rintro _ _ _ ⟨y,rfl,rfl,y0,y1,y2⟩) | (refine jZ tb rfl rfl (q3 _ (by omega) (by omega)) ?_;rintro _ _ _ ⟨y,rfl,rfl,y0,y1,y2⟩) | refine qk rfl ?_ | refine qm rfl ?_ | refine jx rfl rfl ?_ | refine Qs rfl rfl ?_ | refine qK rfl rfl ?_ | refine qL rfl rfl ?_ | refine jD rfl rfl (by omega) (by omega) ?_ | refine QD rfl rfl (by omega) (by omega) ?_ | refine qf tb rfl rfl ?_ | (apply qu tb rfl rfl;(· (refine At.own (?_);repeat (exact Has.here)));(· exact rfl)))) | refine Qr rfl rfl rfl rfl ?_ | refine qC rfl ?_ | refine jW rfl (fun _=>?_) (fun _=>?_) | refine jp rfl rfl (fun _=>?_) (fun _=>?_)))
   all_goals first
    | (exfalso;omega)
    | (refine JB hM hw hV0 hR (yy rfl rfl) ⟨_,rfl,rfl,by omega,by omega,fun h=>by omega⟩)
end Fly
end
section
namespace Fly
open Go
end Fly
end
section
namespace Fly
open Go Su
theorem r32{z:Int}(h:inR .i32 z=true) : -2147483648≤z∧z≤2147483647:=by
 obtain⟨h0,h1⟩:=qs3.1 h;exact⟨h0,by omega⟩
theorem qrR{z:Int}(h:inR .i32 z=true):inR .i64 z=true:=by
 obtain⟨h0,h1⟩:=r32 h;exact Jc.2 ⟨by omega,by omega⟩
mutual
def qkQ:Ex→Prop
 | .mk _ _ _ i f _ al=>(inR .i32 i=true∧inR .u64 f=true)∧RngEs al
def RngEs:Exs→Prop
 | .nil=>True
 | .cons e r=>qkQ e∧RngEs r
end
mutual
def qt4:St_→Prop
 | .mk _ _ _ ix ex lo hi tn el=>RngEs ix∧qkQ ex∧inR .i32 lo=true∧inR .i32 hi=true∧RngSs tn∧RngSs el
def RngSs:Sts→Prop
 | .nil=>True
 | .cons e r=>qt4 e∧RngSs r
end
def qwV(d:Dc):Prop:=inR .i64 d.len=true∧qkQ d.lo∧qkQ d.hi
def qrS(p:Pg):Prop:=inR .i64 p.ticks=true∧(∀d∈p.ds,qwV d)∧RngSs p.ini∧RngSs p.step
end Fly
end
section
namespace Su
open Go Go.Proofs Fly
theorem qt5{n:Nat}:0<n→∃c r,dg n=c::r∧c≠48:=by
 induction n using Nat.strongRecOn with
 | ind n ih=>
  intro hn;by_cases h:n<10
  · refine⟨UInt8.ofNat (48+n),[],qbO h,fun e=>?_⟩
    have:=qhu h
    rw[e]at this;have e48:(48:UInt8).toNat=48:=rfl
    omega
  · obtain⟨c,r,e,hc⟩:=ih (n / 10) (by omega) (by omega)
    exact⟨c,r++[UInt8.ofNat (48+n % 10)],by rw[qeM (by omega),e];rfl,hc⟩
theorem qnV{c x:UInt8}{l:List UInt8}(h:x≠c):yv c (x::l)=x::yv c l:=by
 rw[qbc];have hb:(x == c)=false:=by simpa using h
 rw[hb];by_cases h0:yv c l=[]
 · rw[zZ h0,h0];rfl
 · rw[zP h0]
theorem qt6{k n:Nat}{q:Int}(h:IsD k n q):okF (lb (qaa n q).1) (qaa n q).2=true:=by
 obtain⟨h0,h1,h2,h3,_⟩:=h;have hl:=qjn h1;have ht:=qgj 48 (dg n)
 obtain⟨c,r,e,hc⟩:=qt5 (n:=n) (by omega)
 have hp:0<(yv 48 (dg n)).length:=by rw[e,qnV hc];simp
 unfold qaa;refine qhH.2 ?_
 simp only[qgd];omega
theorem qfb{f:Int}(hf:inR .u64 f=true):∃s,QR f=some s∧s.size≤2000001:=by
 have sg:(sgL f).length≤1:=by unfold sgL;cases decide (Int.fdiv f (2^63)=1) <;> decide
 obtain⟨x,hx,hP⟩:=qqM (f:=f) hf
 unfold QR;by_cases h4:((yg (bK f.toNat):Nat):Int)=4
 · rw[zf h4];exact⟨_,rfl,by rw[jO];decide⟩
 by_cases h3:((yg (bK f.toNat):Nat):Int)=3
 · rw[zp h4,zf h3];exact⟨_,rfl,by rw[jO,zg];show _+3≤_;omega⟩
 by_cases h0:((yg (bK f.toNat):Nat):Int)=0
 · rw[zp h4,zp h3,zf h0];exact⟨_,rfl,by rw[jO,zg];show _+3≤_;omega⟩
 rcases hP with⟨c2,c1,rfl⟩ | ⟨hc,n,q,hD,rfl⟩
 · exfalso
   have:=ZZ (bK f.toNat)
   revert this c2 c1
   (repeat' split) <;> omega
 · have f1:Qo (qaa n q)=some (bs (qgk (lb (qaa n q).1) (qaa n q).2)):=by unfold Qo;rw[qt6 hD];rfl
   have hl:=qgl f1;rw[jO]at hl;refine⟨bs (sgL f++qgk (lb (qaa n q).1) (qaa n q).2),?_,by rw[jO,zg];omega⟩
   rw[zp h4,zp h3,zp h0,hx];simp only[zo,zk,f1,qgd]
theorem qx1{α β:Type}{f:Nat}{d:Dec α}{r:Dec β}{g:α→Option β}(hp:OkT f (prim d r g)){V:qa}(hgk:GOK tb V){xs:List T}{vs:List Value}{a:α}{y:β}(h:d.dec xs=some a)(hg:g a=some y)(hr:RepA V xs vs){Q:Value→qa→Own→Prop}
 (hQ:∀V' rvs,RepA V' (r.enc y) rvs→Q (YA rvs) V' []):jl Tryz.prog f vs.toArray V [] Q:=by
 have hh:(∀xs y,(d.dec xs).bind g=some y→∀V vs,GOK tb V→RepA V xs vs→jl Tryz.prog f vs.toArray V [] fun v V' _=>∃rvs,RepA V' (r.enc y) rvs∧v=YA rvs)∧_:=hp.2
 have hF:=hh.1 xs y (by rw[h];exact hg) V vs hgk hr
 intro w a1 a2 a3 a4;refine(hF w a1 a2 a3 a4).mono ?_
 rintro e w' ⟨v,V',G',rfl,hk,rvs,m1,rfl⟩
 exact⟨_,V',[],rfl,hk.sublist (Vu _),hQ V' rvs m1⟩
theorem qt7{V:qa}(hgk:GOK tb V){f:Int}(hf:inR .u64 f=true){s:ByteArray}(h:QR f=some s):jl Tryz.prog 12 [.int .u64 f].toArray V [] fun v _ G=>v = .string s∧G=[]:=by
 refine qx1 qrM hgk (xs:=[.s (.int .u64 f)]) (vs:=[_]) (a:=f) ?_ h (.cons (.s hf) .nil) ?_
 · rfl
 · intro V' rvs m
   cases m with | cons m1 m=>cases m with | nil=>cases m1 with | s _=>exact⟨rfl,rfl⟩
theorem dgl{n j:Nat}(h:n<10^(j+1)):(dg n).length≤j+1:=by
 induction j generalizing n with
 | zero=>rw[qbO (by omega)];simp
 | succ j ih=>
  by_cases h1:n<10
  · rw[qbO h1];simp
  · rw[qeM (by omega),zg]
    have:=ih (n:=n / 10) (by rw[z7]at h;omega)
    simp only[Wf];omega
theorem itL{n:Int}(h:inR .i64 n=true):(itT n).length≤30:=by
 obtain⟨h0,h1⟩:=Jc.1 h;unfold itT;by_cases hn:n<0
 · rw[zf hn,zd,zm]
   have:=dgl (n:=n.natAbs) (j:=18) (by omega)
   omega
 · rw[zp hn,zo]
   have:=dgl (n:=n.toNat) (j:=18) (by omega)
   omega
end Su
namespace Fly
open Go Go.Proofs Su
noncomputable def qac:jc:=⟨fun z=>bif inR .i64 z then itT z else[],fun f=>bif inR .u64 f then lb ((QR f).getD (bs []))else[]⟩
theorem qcQ:LeafLen qac where
 i z:=by
  show(bif inR .i64 z then itT z else[]).length≤30
  cases h:inR .i64 z with
  | true=>exact itL h
  | false=>exact Ws _
 f f:=by
  show(bif inR .u64 f then lb ((QR f).getD (bs []))else[]).length≤2000010
  cases h:inR .u64 f with
  | true=>
   obtain⟨s,hs,hl⟩:=qfb h;have:(lb s).length=s.size:=by rw[← jO,qi1]
   rw[hs,zd,Option.getD_some];omega
  | false=>exact Ws _
theorem qrT{z:Int}(h:inR .i64 z=true):qhO qac z:=fun V hs=>by
 obtain⟨h0,h1⟩:=Jc.1 h;have e:qac.itoa z=itT z:=by show(bif inR .i64 z then itT z else[])=_;rw[h];rfl
 rw[e];exact qhN hs.1 (by omega) (by omega)
theorem flok{f:Int}(h:inR .u64 f=true):∀V,yl V→jl Tryz.prog 12 [.int .u64 f].toArray V [] fun v _ G=>v = .string ⟨(qac.flt f).toArray⟩∧G=[]:=fun V hs=>by
 obtain⟨s,e,_⟩:=qfb h;have e2:(⟨(qac.flt f).toArray⟩:ByteArray)=s:=by
  show bs (bif inR .u64 f then lb ((QR f).getD (bs []))else[])=s
  rw[h,e,zd,Option.getD_some,qi1]
 rw[e2];exact qt7 hs.1 h e
mutual
theorem qmC:∀ {x:Ex},qkQ x→Qa qac x
 | .mk op p bo i f nm al,⟨⟨h1,h2⟩,h3⟩=>⟨⟨fun _=>⟨qrT (qrR h1),r32 h1⟩,fun _=>flok h2⟩,leafEs h3⟩
theorem leafEs:∀ {x:Exs},RngEs x→LeafAlls qac x
 | .nil,_=>trivial
 | .cons e r,⟨h1,h2⟩=>⟨qmC h1,leafEs h2⟩
end
mutual
theorem qx2:∀ {x:St_},qt4 x→qjz qac x
 | .mk kd p nm ix ex lo hi tn el,⟨h1,h2,h3,h4,h5,h6⟩=>⟨leafEs h1,qmC h2,fun _=>⟨⟨qrT (qrR h3),r32 h3⟩,⟨qrT (qrR h4),r32 h4⟩⟩,leafSs h5,leafSs h6⟩
theorem leafSs:∀ {x:Sts},RngSs x→LeafSs qac x
 | .nil,_=>trivial
 | .cons e r,⟨h1,h2⟩=>⟨qx2 h1,leafSs h2⟩
end
theorem qrU{d:Dc}:∀ {ds:List Dc},d∈ds→wD d≤wDs ds
 | x::r,h=>by
  rcases zO.1 h with h | h
  · subst h;simp only[wDs];omega
  · have:=qrU h;simp only[wDs];omega
theorem prt{V:qa}(hsg:yl V){p:Pg}{cp:List Value}(hp:Pg.Is V p cp)(gp:qrS p)(hw:wP p≤1500):jC Tryz.prog 42 [.agg cp.toArray] V (.string ⟨(YB qac p).toArray⟩):=by
 obtain⟨g1,g2,g3,g4⟩:=gp;have hl:=qnt qcQ p (by omega)
 have hw':=hw;unfold wP at hw';refine c12 (fun d hd=>?_) (leafSs g3) (leafSs g4) (by omega) (by omega) (qrT g1) hsg hp (by omega)
 obtain⟨k1,k2,k3⟩:=g2 d hd;have hm:=qrU hd;unfold wD at hm;have e1:=YU qcQ d.lo;have e2:=YU qcQ d.hi;exact⟨⟨qmC k2,qmC k3,qrT k1⟩,by omega,by omega⟩
end Fly
end
section
namespace Fly
open Go
section
variable {P:Program} {n:Nat} {X:Cx} {L:Lo} {V:qa} {G:Own} {K:List KI} {Q:Value→qa→Own→Prop} {all:Array Oper} {ops:List Oper}
variable {ty:TypeId} {pos:String} {af:Array Edge} {gd:Option (Nat×Bool)} {ds:Option Tmp}
end
theorem Prog.stepL{P:Program}{n:Nat}{X:Cx}{L:Lo}{V:qa}{G:Own}{K:List KI}{l:List Oper}{m:Nat}{Ys:List YT}{r:Nat}{o:Oper}{A:List (Tmp×YT)}(y:YT)(hy:qmM y)(looks:List Tmp)(ho:l[Ys.length]?=some o)(hl:o.looksAt l.toArray=looks)(hA:qjO looks l Ys=some A)
 (h:∀V' F,Sub V V'→Owe V' (One P n X V' (F++G) l o y) A L) (k:Prog P n X L V G K l m (Ys++[y]) r):Prog P n X L V G K l m Ys (r+1):=Prog.step y hy ho (by rw[hl];exact hA) h k
theorem Row.frozen{e:TypeId}{v:Value}{Gr:Own}{m:Nat}{xs:List Value}(h:Row e 1 v Gr m xs):(v = .slice none 0 0∧Gr=[]∧xs=[])∨∃g o,Gr=[(g,o)]∧∀V:qa,Sl 1 (addV V g o) v xs:=by
 rcases h.parts with⟨h1,h2,_,h4⟩ | ⟨g,cap,cur,h1,h2,h3,h4,h5,h6⟩
 · exact .inl ⟨h1,h2,h4⟩
 · refine .inr ⟨g,_,h2,fun V=>?_⟩
   have hl:=h.len;refine⟨_,m,cap,h1,h3,h4,hl,.inr ⟨g,0,rfl,fun i c hi=>?_⟩⟩
   refine⟨cur,e,(0,0),addV_same ..,?_⟩
   rw[← h6,zY]at hi;rw[zr];split at hi
   · simpa using hi
   · cases hi
end Fly
end
