/-
  A small logic of walks: judgements, operations, regions, loops, calls. No condition.
-/
import Derived.Test.YtldhknmacepeiaaGreatDoorTrTb
import Derived.Test.YtldhknmacepeiaaGreatDoorTr1
set_option linter.unusedVariables false
set_option linter.unusedSimpArgs false
section
namespace Fly
open Go Go.Proofs
set_option maxRecDepth 10000
attribute [local irreducible] WC WE WR Opr St Go.Calls Js QE Qj Owe One QS
def yQ(ts:List ByteArray):List UInt8:=(ts.map fun t=>t.data.toList).flatten
theorem qnn{ts:List ByteArray}{i:Nat}{t:ByteArray}(h:ts[i]?=some t):yQ (ts.take (i+1))=yQ (ts.take i)++t.data.toList:=by
 unfold yQ;rw[WL,h];simp
theorem qhr(ts:List ByteArray)(i:Nat):(yQ (ts.take i)).length≤(yQ ts).length:=by
 have h:yQ ts=yQ (ts.take i)++yQ (ts.drop i):=by
  unfold yQ;rw[← List.flatten_append,← Kt,KC]
 rw[h,zg];omega
theorem qno{V:qa}{b:Nat}{d:Int}{s:List UInt8}{ts:List ByteArray}{sl:Value}{G0:Own}(hS:Sl 1 V sl (ts.map .string))(hW:Wr b d s G0)(hl:s.length+(yQ ts).length≤549755813888) :
 jl Tryz.prog 93 [.pointer (some ⟨b,0,none⟩),sl].toArray V G0 (fun _ _ G'=>Wr b d (s++yQ ts) G')∧Jk Tryz.prog 93 [.pointer (some ⟨b,0,none⟩),sl].toArray V G0 (fun _ _ G'=>Wr b d (s++yQ ts) G'):=by
 have hlen:(ts.map Value.string).length=ts.length*1:=by simp
 have hmb:ts.length≤9223372036854775807:=by
  obtain⟨_,l,q,_,hq1,hq2,hl,_⟩:=hS;unfold maxLen at hq2;omega
 refine qil Tryz.func93 rfl Tryz.ntmps93 rfl ?_;intro X w hM hMl hw hV0 hR;dsimp only[je,Nat.zero_add,Nat.reduceAdd]
 (repeat' (first | refine qq ?_ | refine qc ?_ | refine qo ?_ | refine qh ?_ | refine qz ?_ | ((refine qn rfl ?_);(first | (refine jE tb rfl hS rfl rfl hlen (by decide) ?_) | refine qk rfl ?_))))
 refine yL (fun L' V' G' μ=>∃i:Nat,i≤ts.length∧μ=ts.length-i∧Sub V V'∧Wr b d (s++yQ (ts.take i)) G'∧L'=[(8,.int .i64 i),(6,sl),(7,.int .i64 ts.length),(0,.pointer (some ⟨b,0,none⟩))]) (m0:=ts.length) (by repeat (first | exact SubL.nil | refine SubL.cons rfl ?_)) (Ks _) ⟨0,by omega,by omega,Sub.refl _,by simpa[yQ]using hW,rfl⟩ ?_
 rintro L' V' G' μ ⟨i,hi,hμ,hVs,hWi,hLe⟩
 subst hLe;by_cases hlt:i<ts.length
 · obtain⟨t,ht⟩:∃t,ts[i]?=some t:=⟨ts[i],by simp[hlt]⟩
   have htv:(ts.map Value.string)[(i:Int).toNat*1+0]?=some (.string t):=by simp[ht]
   have hcs:=qnn ht;have hcl:(yQ (ts.take (i+1))).length≤(yQ ts).length:=qhr _ _
   have hfit:(s++yQ (ts.take i)).length+t.size≤549755813888:=by
    rw[hcs,zg,y7]at hcl;rw[zg];omega
   (repeat' (first | refine qq ?_ | refine qc ?_ | refine qo ?_ | refine qh ?_ | refine qz ?_ | refine qG ?_ | refine jg ?_ | refine jm ?_ | refine qF ?_ | refine qD ?_ | refine qP ?_ | ((refine qn rfl ?_);(first | (refine qu4 tb rfl (hS.mono hVs) rfl rfl (by omega) (by simpa using hlt) ?_;intro b1 o1 hrd) | (refine Qk tb rfl rfl (hrd 0 _ htv) ?_) | (refine ju rfl ?_) | (refine qp tb rfl rfl rfl (c68 hWi hfit) (by rw[Kh]) ?_;intro _ V1 G1 hs1 hW1) | refine qk rfl ?_ | refine qm rfl ?_ | refine jx rfl rfl ?_ | refine jD rfl rfl (by omega) (by omega) ?_ | refine qf tb rfl rfl ?_)) | refine jW rfl (fun _=>?_) (fun _=>?_)))
   · refine yo (by repeat (first | exact SubL.nil | refine SubL.cons rfl ?_)) (zH _ _) ⟨i+1,by omega,rfl,hVs.trans hs1,?_,rfl⟩ (by omega)
     rw[hcs,← zG];exact hW1
   · exfalso;omega
 · (repeat' (first | refine qq ?_ | refine qc ?_ | refine qo ?_ | refine qh ?_ | refine qz ?_ | refine qG ?_ | refine jm ?_ | refine qF ?_ | refine qD ?_ | refine qP ?_ | ((refine qn rfl ?_);(refine jx rfl rfl ?_)) | refine jW rfl (fun _=>?_) (fun _=>?_)))
   · exfalso;omega
   · refine jb hM hw hV0 hR _ (Ks _) (Qm rfl) ?_
     rw[zN (by omega)]at hWi;exact hWi
theorem c34{V:qa}{b:Nat}{d:Int}{s:List UInt8}{ts:List ByteArray}{sl:Value}{G0:Own}(hS:Sl 1 V sl (ts.map .string))(hW:Wr b d s G0)(hl:s.length+(yQ ts).length≤549755813888) :
 jl Tryz.prog 93 [.pointer (some ⟨b,0,none⟩),sl].toArray V G0 fun _ _ G'=>Wr b d (s++yQ ts) G':=(qno hS hW hl).1
theorem c29{V:qa}{b:Nat}{d:Int}{s:List UInt8}{G0:Own}(hW:Wr b d s G0) :
 jl Tryz.prog 88 [.pointer (some ⟨b,0,none⟩)].toArray V G0 fun v _ G'=>v = .string ⟨s.toArray⟩∧G'=[]:=by
 cases hW with
 | new p hp=>
  refine qB Tryz.func88 rfl Tryz.ntmps88 rfl ?_;intro X w hM hMl hw hV0 hR;dsimp only[je,Nat.zero_add,Nat.reduceAdd]
  (repeat' (first | refine qq ?_ | refine qc ?_ | refine qo ?_ | refine qh ?_ | ((refine qn rfl ?_);(refine qm rfl ?_))))
  (refine j9 10 mo rfl (by kernel_rfl) rfl ?_;(repeat (apply Prog.step (yE _) (qH _) rfl rfl;· (intro V1 F1 hs1;(repeat (first | refine qX ?_ | refine qW ?_));refine qZ ?_;(first | (refine ju rfl ?_) | (refine qfq rfl ?_) | refine qk rfl ?_ | refine qf tb rfl rfl ?_ | refine yw tb rfl rfl rfl ?_ | (apply qu tb rfl rfl;(· (refine At.own (Has.app ?_);repeat (exact Has.here)));(· exact rfl)));exact jh)));refine Prog.done ?_;intro V1 hs1;repeat (first | refine yc ?_ | refine yd ?_))
  (repeat' (first | refine qo ?_ | refine qh ?_ | refine qT ?_ | ((refine qn rfl ?_);(first | (refine qcv rfl rfl ?_) | refine qm rfl ?_))))
  exact QF hM hw hV0 hR [] (Vu _) (yy rfl rfl) ⟨rfl,rfl⟩
 | @full s g cap cur p hp hs hm hc hz ht=>
  have hsl:s.length≠0:=by simpa using hs
  refine qB Tryz.func88 rfl Tryz.ntmps88 rfl ?_;intro X w hM hMl hw hV0 hR;dsimp only[je,Nat.zero_add,Nat.reduceAdd]
  (repeat' (first | refine qq ?_ | refine qc ?_ | refine qo ?_ | refine qh ?_ | ((refine qn rfl ?_);(refine qm rfl ?_))))
  (refine j9 10 mo rfl (by kernel_rfl) rfl ?_;(repeat (apply Prog.step (yE _) (qH _) rfl rfl;· (intro V1 F1 hs1;(repeat (first | refine qX ?_ | refine qW ?_));refine qZ ?_;(first | (refine ju rfl ?_) | (refine qg7 rfl (by omega) ?_) | refine qk rfl ?_ | refine qf tb rfl rfl ?_ | refine yw tb rfl rfl rfl ?_ | (apply qu tb rfl rfl;(· (refine At.own (Has.app ?_);repeat (exact Has.here)));(· exact rfl)));exact jh)));refine Prog.done ?_;intro V1 hs1;repeat (first | refine yc ?_ | refine yd ?_))
  (repeat' (first | refine qo ?_ | refine qh ?_ | refine qT ?_ | ((refine qn rfl ?_);(first | (refine qdj rfl rfl rfl hs (by omega) (by unfold maxLen at hc;omega) ht (e:=5) (by kernel_rfl) (by kernel_rfl) (.there .here) ?_) | refine qm rfl ?_))))
  exact QF hM hw hV0 hR [] (Vu _) (yy rfl rfl) ⟨rfl,rfl⟩
end Fly
end
section
namespace Fly
open Go Go.Proofs
set_option maxRecDepth 10000
attribute [local irreducible] WC WE WR Opr St Go.Calls Js QE Qj Owe One QS
theorem c62(o:Int):QE Tryz.prog 138 [.int .u8 o] (.bool (JA o)):=by
 refine Y5 Tryz.func138 rfl Tryz.ntmps138 rfl ?_;intro X w V hM hw hV0 hR;dsimp only[je,Nat.zero_add,Nat.reduceAdd]
 (repeat' (first | refine qq ?_ | refine qc ?_ | refine qo ?_ | refine qh ?_ | refine qT ?_ | ((first | refine qn rfl ?_ | refine yh rfl rfl rfl ?_);(first | refine qk rfl ?_ | refine qm rfl ?_ | refine Qs rfl rfl ?_ | refine qK rfl rfl ?_ | refine qL rfl rfl ?_)) | refine Qr rfl rfl rfl rfl ?_ | refine jp rfl rfl (fun _=>?_) (fun _=>?_)))
 all_goals (refine ZE hM hw hV0 hR (yy rfl rfl) ?_)
 all_goals simp[JA, *]
theorem c97(b:Bool):QE Tryz.prog 182 [.bool b] (.string (if b then⟨#[116,114,117,101]⟩else⟨#[102,97,108,115,101]⟩)):=by
 refine Y5 Tryz.func182 rfl Tryz.ntmps182 rfl ?_;intro X w V hM hw hV0 hR;dsimp only[je,Nat.zero_add,Nat.reduceAdd]
 (repeat' (first | refine qq ?_ | refine qc ?_ | refine qo ?_ | refine qh ?_ | refine qG ?_ | refine qT ?_ | ((refine qn rfl ?_);(first | refine qk rfl ?_ | refine qm rfl ?_)) | refine qct rfl (fun _=>?_) (fun _=>?_)))
 all_goals (refine ZE hM hw hV0 hR (yy rfl rfl) ?_)
 all_goals (subst_vars;rfl)
theorem c65(b:Bool):QE Tryz.prog 141 [.bool b] (.string (if b then⟨#[116,114,117,101]⟩else⟨#[102,97,108,115,101]⟩)):=by
 refine Y5 Tryz.func141 rfl Tryz.ntmps141 rfl ?_;intro X w V hM hw hV0 hR;dsimp only[je,Nat.zero_add,Nat.reduceAdd]
 (repeat' (first | refine qq ?_ | refine qc ?_ | refine qo ?_ | refine qh ?_ | refine qT ?_ | ((refine qn rfl ?_);(first | (refine yA tb rfl rfl (c97 b) ?_) | refine qk rfl ?_ | refine qm rfl ?_))))
 all_goals (refine ZE hM hw hV0 hR (yy rfl rfl) ?_)
 all_goals rfl
def yl(V:qa):Prop:=Su.GOK Su.tb V∧∀o:Int,JA o=true→rd V 0 (o-5).toNat (.string ⟨(qaJ o).toArray⟩)
theorem yl.mono{V V':qa}(h:yl V)(hs:Sub V V'):yl V':=⟨Su.GOK.mono h.1 hs,fun o ho=>(h.2 o ho).mono hs⟩
theorem c64{V:qa}(hs:yl V){o:Int}(ho:JA o=true):jC Tryz.prog 140 [.int .u8 o] V (.string ⟨(qaJ o).toArray⟩):=by
 have h1:=hs.2 o ho;have h2:5≤o∧o≤16:=by simpa[JA]using ho
 have h3:rd V 0 (0+(o-5).toNat*1) (.string ⟨(qaJ o).toArray⟩):=by simpa using h1
 refine jk Tryz.func140 rfl Tryz.ntmps140 rfl ?_;intro X w hM hw hV0 hR;dsimp only[je,Nat.zero_add,Nat.reduceAdd]
 (repeat' (first | refine qq ?_ | refine qc ?_ | refine qo ?_ | refine qh ?_ | refine qT ?_ | ((refine qn rfl ?_);(first | (refine qoA rfl rfl (by omega) (by omega) ?_) | (refine qfr (t:=225) (m:=12) (e:=9) (k:=1) (g:=false) rfl rfl (by kernel_rfl) (by kernel_rfl) (by omega) (by omega) ?_) | (refine Qk tb rfl rfl h3 ?_) | refine qk rfl ?_ | refine qm rfl ?_))))
 (refine qY hM hw hV0 hR (yy rfl rfl) ?_)
 rfl
end Fly
end
section
namespace Fly
open Go Go.Proofs
set_option maxRecDepth 10000
attribute [local irreducible] WC WE WR Opr St Go.Calls Js QE jC Rel jl Jk Qj Owe One QS Go.CallsD
def E28(l:jc)(x:Ex):Prop:=∀ {V:qa} {b:Nat} {d:Int} {s:List UInt8} {G0:Own} {cx:List Value},yl V→Ex.Is V x cx→Wr b d s G0→s.length+(jU l x).length≤549755813888 →
 jl Tryz.prog 87 [.pointer (some ⟨b,0,none⟩),.agg cx.toArray].toArray V G0 fun _ _ G'=>Wr b d (s++jU l x) G'
theorem Yg{V:qa}{b b1:Nat}{d:Int}{s:List UInt8}{t:ByteArray}{G0:Own}(hb:V b1=none)(hW:Wr b d s G0)(hl:s.length+t.size≤549755813888) :
 jl Tryz.prog 93 [.pointer (some ⟨b,0,none⟩),.slice (some ⟨b1,0,none⟩) 1 1].toArray (addV V b1 (.cells [.string t].toArray 9 (0,0))) G0 (fun _ _ G'=>Wr b d (s++t.data.toList) G') ∧
 Jk Tryz.prog 93 [.pointer (some ⟨b,0,none⟩),.slice (some ⟨b1,0,none⟩) 1 1].toArray (addV V b1 (.cells [.string t].toArray 9 (0,0))) G0 (fun _ _ G'=>Wr b d (s++t.data.toList) G'):=by
 have:=qno (ts:=[t]) (Sl.made (k:=1) (e:=9) hb rfl (by decide)) hW (by simpa[yQ,y7]using hl)
 simpa[yQ]using this
theorem qnp{V:qa}{b b1:Nat}{d:Int}{s:List UInt8}{t t2 t3:ByteArray}{G0:Own}(hb:V b1=none)(hW:Wr b d s G0)(hl:s.length+(t.size+t2.size+t3.size)≤549755813888) :
 jl Tryz.prog 93 [.pointer (some ⟨b,0,none⟩),.slice (some ⟨b1,0,none⟩) 3 3].toArray (addV V b1 (.cells [.string t,.string t2,.string t3].toArray 9 (0,0))) G0 (fun _ _ G'=>Wr b d (s++(t.data.toList++t2.data.toList++t3.data.toList)) G'):=by
 have:=(qno (ts:=[t,t2,t3]) (Sl.made (k:=1) (m:=3) (e:=9) hb rfl (by decide)) hW (by simpa[yQ,y7,Kp]using hl)).1
 simpa[yQ]using this
theorem qxr{V:qa}{b:Nat}{d:Int}{s:List UInt8}{t:ByteArray}{sl:Value}{G0:Own}(hS:Sl 1 V sl [.string t])(hW:Wr b d s G0)(hl:s.length+t.size≤549755813888) :
 Jk Tryz.prog 93 [.pointer (some ⟨b,0,none⟩),sl].toArray V G0 (fun _ _ G'=>Wr b d (s++t.data.toList) G'):=by
 have:=(qno (ts:=[t]) hS hW (by simpa[yQ,y7]using hl)).2
 simpa[yQ]using this
theorem c96{l:jc}{op p:Int}{bo:Bool}{i f:Int}{nm:ByteArray}{es:Exs}(hk:∀x∈es.list,E28 l x){V:qa}{b:Nat}{d:Int}{s:List UInt8}{G0:Own}{cx:List Value}(j:Nat)(hsg:yl V)(hE:Ex.Is V (.mk op p bo i f nm es) cx)(hW:Wr b d s G0)
 (hl:s.length+(Ye (textEs l es) j).length≤549755813888) (hj:j≤1):jl Tryz.prog 181 [.pointer (some ⟨b,0,none⟩),.agg cx.toArray,.int .i64 j].toArray V G0 fun _ _ G'=>Wr b d (s++Ye (textEs l es) j) G':=by
 simp only[Ex.Is]at hE;obtain⟨sx,ex,rfl,hsx,has⟩:=hE;have hp:=Exs.parts has;cases hx1:es.list[j]? with
 | none=>
  have hlen:es.list.length≤j:=List.getElem?_eq_none_iff.1 hx1
  rw[qcF hx1,Kh];refine qB Tryz.func181 rfl Tryz.ntmps181 rfl ?_;intro X w hM hMl hw hV0 hR;dsimp only[je,Nat.zero_add,Nat.reduceAdd]
  (repeat' (first | refine qq ?_ | refine qc ?_ | refine qo ?_ | refine qh ?_ | refine qG ?_ | ((refine qn rfl ?_);(first | (refine qO rfl ?_;intro bx;refine jB (zE (l₁:=[_])) ?_) | (apply qu tb rfl rfl;(· exact At.own (.app .here));(· exact rfl)) | (refine jE tb rfl hsx rfl rfl hp.1 (by decide) ?_) | refine qk rfl ?_ | refine jx rfl rfl ?_ | refine qf tb rfl rfl ?_)) | refine jW rfl (fun _=>?_) (fun _=>?_)))
  · exfalso;omega
  · exact jb hM hw hV0 hR _ (zH _ _) (Qm rfl) hW
 | some x=>
  have hlen:j<es.list.length:=(zu.1 hx1).1
  rw[qav hx1]at hl ⊢;obtain⟨ax,lx,qx,rfl,hq1,hq2,hlx,hpx⟩:=hsx;have hxl:=hp.1;have hlx':lx=es.list.length:=by omega
  obtain⟨b2,o2,rfl,hrx⟩:=hpx.resolve_left (by omega)
  obtain⟨c,hc1,⟨x',hx1',hc2⟩,hc3⟩:=hp.rd hrx (i:=j) hlen
  obtain rfl:x'=x:=by rw[hx1]at hx1';exact(Vm hx1').symm
  refine qB Tryz.func181 rfl Tryz.ntmps181 rfl ?_;intro X w hM hMl hw hV0 hR;dsimp only[je,Nat.zero_add,Nat.reduceAdd]
  (repeat' (first | refine qq ?_ | refine qc ?_ | refine qo ?_ | refine qh ?_ | refine qG ?_ | ((refine qn rfl ?_);(first | (refine qO rfl ?_;intro bx;refine jB (zE (l₁:=[_])) ?_) | (apply qu tb rfl rfl;(· exact At.own (.app .here));(· exact rfl)) | (refine qV tb rfl rfl rfl (by omega) (by omega) ?_) | (refine j8 tb rfl rfl hc1 (by decide) hc3 ?_) | (refine qp tb rfl rfl rfl (hk _ (zW hx1) hsg hc2 hW hl) (zq _) ?_;intro _ V1 G1 hs1 hW1) | refine qk rfl ?_ | refine jx rfl rfl ?_ | refine qf tb rfl rfl ?_ | refine yw tb rfl rfl rfl ?_)) | refine jW rfl (fun _=>?_) (fun _=>?_)))
  · exact jb hM hw hV0 hR _ (zH _ _) (Qm rfl) hW1
  · exfalso;omega
theorem qnq{l:jc}{es:Exs}{i:Nat}{x:Ex}(h:es.list[i]?=some x)(ho:JA (opE x)=true):yu (textEs l es) i=[40]++jU l x++[41]:=by rw[qeI h,zZ ho]
theorem qnr{l:jc}{es:Exs}{i:Nat}{x:Ex}(h:es.list[i]?=some x)(ho:JA (opE x)=false):yu (textEs l es) i=jU l x:=by rw[qeI h,zP (by rw[ho];simp)]
set_option maxHeartbeats 1000000 in
theorem c63{l:jc}{op p:Int}{bo:Bool}{i f:Int}{nm:ByteArray}{es:Exs}(hk:∀x∈es.list,E28 l x){V:qa}{b:Nat}{d:Int}{s:List UInt8}{G0:Own}{cx:List Value}(j:Nat)(hsg:yl V)(hE:Ex.Is V (.mk op p bo i f nm es) cx)(hW:Wr b d s G0)
 (hl:s.length+(yu (textEs l es) j).length≤549755813888) (hj:j≤1):jl Tryz.prog 139 [.pointer (some ⟨b,0,none⟩),.agg cx.toArray,.int .i64 j].toArray V G0 fun _ _ G'=>Wr b d (s++yu (textEs l es) j) G':=by
 have hE0:=hE;simp only[Ex.Is]at hE;obtain⟨sx,ex,rfl,hsx,has⟩:=hE;have hp:=Exs.parts has;cases hx1:es.list[j]? with
 | none=>
  have hlen:es.list.length≤j:=List.getElem?_eq_none_iff.1 hx1
  have ha:=c96 hk j hsg hE0 hW (by rw[qcF hx1];rw[qeJ hx1]at hl;exact hl) hj
  rw[qcF hx1]at ha;rw[qeJ hx1];refine ZN Tryz.func139 rfl Tryz.ntmps139 rfl ?_;intro X w hM hMl hw hV0 hR;dsimp only[je,Nat.zero_add,Nat.reduceAdd]
  (repeat' (first | refine qq ?_ | refine qc ?_ | refine qo ?_ | refine qh ?_ | refine qG ?_ | ((refine qn rfl ?_);(first | (refine qO rfl ?_;intro bx;refine jB (zE (l₁:=[_])) ?_) | (apply qu tb rfl rfl;(· exact At.own (.app .here));(· exact rfl)) | (apply qQ tb rfl rfl;(· exact At.own (.app .here));(· exact rfl)) | (refine qsl rfl rfl (by omega) ?_) | (refine jE tb rfl hsx rfl rfl hp.1 (by decide) ?_) | (refine qp tb rfl rfl rfl ha (zq _) ?_;intro _ V1 G1 hs1 hW1) | refine qk rfl ?_ | refine qL rfl rfl ?_ | refine qf tb rfl rfl ?_)) | refine Qr rfl rfl rfl rfl ?_ | refine qC rfl ?_))
  all_goals first
   | (exfalso;omega)
   | exact qfN hM hw hV0 hR _ (zH _ _) (Qm rfl) hW1
 | some x=>
  have hlen:j<es.list.length:=(zu.1 hx1).1
  have ha:=fun(V':qa) (hs:Sub V V') (s':List UInt8) (G':Own) (hW':Wr b d s' G') (hl':s'.length+(jU l x).length≤549755813888)=>c96 hk j (hsg.mono hs) (Ex.Is.mono hs _ hE0) hW' (by rw[qav hx1];exact hl') hj
  simp only[qav hx1]at ha;obtain⟨ax,lx,qx,rfl,hq1,hq2,hlx,hpx⟩:=hsx;have hxl:=hp.1;have hlx':lx=es.list.length:=by omega
  obtain⟨b2,o2,rfl,hrx⟩:=hpx.resolve_left (by omega)
  obtain⟨c,hc1,⟨x',hx1',hc2⟩,hc3⟩:=hp.rd hrx (i:=j) hlen
  obtain rfl:x'=x:=by rw[hx1]at hx1';exact(Vm hx1').symm
  obtain⟨xo,xp,xb,xi,xf,xn,xs⟩:=x';simp only[Ex.Is]at hc2;obtain⟨sy,ey,rfl,_,_⟩:=hc2;have r0:=hc3 0 _ rfl
  cases ho:JA xo with
  | false=>
   rw[qnr hx1 ho]at hl ⊢;refine ZN Tryz.func139 rfl Tryz.ntmps139 rfl ?_;intro X w hM hMl hw hV0 hR;dsimp only[je,Nat.zero_add,Nat.reduceAdd]
   have hC:=c62 xo;rw[ho]at hC
   (repeat' (first | refine qq ?_ | refine qc ?_ | refine qo ?_ | refine qh ?_ | refine qG ?_ | ((first | refine qn rfl ?_ | refine yh rfl rfl rfl ?_);(first | (refine qO rfl ?_;intro bx;refine jB (zE (l₁:=[_])) ?_) | (apply qu tb rfl rfl;(· exact At.own (.app .here));(· exact rfl)) | (apply qQ tb rfl rfl;(· exact At.own (.app .here));(· exact rfl)) | (refine qlh rfl rfl (by omega) ?_) | (refine qV tb rfl rfl rfl (by omega) (by omega) ?_) | (refine Qk tb rfl rfl r0 ?_) | (refine yA tb rfl rfl hC ?_) | (refine qp tb rfl rfl rfl (ha V (Sub.refl _) s G0 hW hl) (zq _) ?_;intro _ V1 G1 hs1 hW1) | refine qk rfl ?_ | refine qK rfl rfl ?_ | refine qf tb rfl rfl ?_ | refine yw tb rfl rfl rfl ?_)) | refine qC rfl ?_))
   all_goals first
    | (exfalso;omega)
    | exact qfN hM hw hV0 hR _ (zH _ _) (Qm rfl) hW1
  | true=>
   rw[qnq hx1 ho]at hl ⊢;refine ZN Tryz.func139 rfl Tryz.ntmps139 rfl ?_;intro X w hM hMl hw hV0 hR;dsimp only[je,Nat.zero_add,Nat.reduceAdd]
   simp only[zg,zm,zt]at hl;have hC:=c62 xo;rw[ho]at hC
   (repeat' (first | refine qq ?_ | refine qc ?_ | refine qo ?_ | refine qh ?_ | ((first | refine qn rfl ?_ | refine jt ?_ | refine yh rfl rfl rfl ?_);(first | (refine qO rfl ?_;intro bx;refine jB (zE (l₁:=[_])) ?_) | (apply qu tb rfl rfl;(· exact At.own (.app .here));(· exact rfl)) | (refine qlh rfl rfl (by omega) ?_) | (apply qw tb hMl;(· exact rfl);(· exact rfl);(· exact rfl);(· decide);(· (repeat (first | exact Cat.nil | (apply Cat.cons;(· exact rfl);(· exact rfl);(· exact rfl)) | exact App.nil | apply App.cons)));intro b1 hb1) | (refine qV tb rfl rfl rfl (by omega) (by omega) ?_) | (refine Qk tb rfl rfl r0 ?_) | (refine yA tb rfl rfl hC ?_) | (refine qp tb rfl rfl rfl (Yg hb1 hW (by show _+1≤_;omega)).1 (zq _) ?_;intro _ V1 G1 hs1 hW1;have hq1:=(Sub.addV hb1).trans hs1) | refine qk rfl ?_ | refine qK rfl rfl ?_ | refine qf tb rfl rfl ?_ | refine yw tb rfl rfl rfl ?_)) | refine qS rfl ?_))
   refine qoz rfl hR ?_
   have hW1':Wr b d (s++[40]) G1:=hW1
   have hcall:=ha (addV V1 b1 (.cells [Value.string ⟨#[41]⟩].toArray 9 (0,0))) (hq1.trans (Sub.addV hb1)) (s++[40]) G1 hW1' (by rw[zg];show s.length+1+_≤_;omega)
   (repeat' (first | refine qo ?_ | ((refine qn rfl ?_);(first | (apply qQ tb rfl rfl;(· exact At.own (.app .here));(· exact rfl)) | (refine qp tb rfl rfl rfl hcall (zq _) ?_;intro _ V2 G2 hs2 hW2) | refine qk rfl ?_))))
   refine qkb tb rfl hM hw hV0 (qxr ((Sl.made hb1 rfl (by decide)).mono hs2) hW2 ?_) (zq _) rfl ?_
   · rw[zg,zg];show s.length+1+_+1≤_;omega
   · intro v V' G' h
     refine⟨G',zH _ _,?_⟩
     rw[← zG,← zG];exact h
end Fly
end
section
namespace Fly
open Go Go.Proofs
set_option maxRecDepth 10000
attribute [local irreducible] WC WE WR Opr St Go.Calls Js QE jC Rel jl Jk Qj Owe One QS Go.CallsD
theorem c66{l:jc}{op p:Int}{bo:Bool}{i f:Int}{nm:ByteArray}{es:Exs}(hk:∀x∈es.list,E28 l x){V:qa}{b:Nat}{d:Int}{s:List UInt8}{G0:Own}{cx:List Value}(u v:ByteArray)(hsg:yl V)(hE:Ex.Is V (.mk op p bo i f nm es) cx)(hW:Wr b d s G0)
 (hl:s.length+(u.size+(Ye (textEs l es) 0).length+v.size)≤549755813888):jl Tryz.prog 142 [.pointer (some ⟨b,0,none⟩),.string u,.agg cx.toArray,.string v].toArray V G0 fun _ _ G'=>Wr b d (s++(u.data.toList++Ye (textEs l es) 0++v.data.toList)) G':=by
 have hE0:=hE;simp only[Ex.Is]at hE;obtain⟨sx,ex,rfl,hsx,has⟩:=hE;have hu:=y7 u;have hv:=y7 v;have ha:=fun(V':qa) (hs:Sub V V') (s':List UInt8) (G':Own) (hW':Wr b d s' G') (hl':s'.length+(Ye (textEs l es) 0).length≤549755813888)=>c96 hk 0 (hsg.mono hs) (Ex.Is.mono hs _ hE0) hW' hl' (by omega)
 refine qB Tryz.func142 rfl Tryz.ntmps142 rfl ?_;intro X w hM hMl hw hV0 hR;dsimp only[je,Nat.zero_add,Nat.reduceAdd]
 (repeat' (first | refine qq ?_ | refine qc ?_ | refine qo ?_ | refine qh ?_ | ((refine qn rfl ?_);(first | (refine qO rfl ?_;intro bx;refine jB (zE (l₁:=[_])) ?_) | (apply qw tb hMl;(· exact rfl);(· exact rfl);(· exact rfl);(· decide);(· (repeat (first | exact Cat.nil | (apply Cat.cons;(· exact rfl);(· exact rfl);(· exact rfl)) | exact App.nil | apply App.cons)));intro b1 hb1) | (refine qp tb rfl rfl rfl (Yg hb1 hW (by omega)).1 (zq _) ?_;intro _ V1 G1 hs1 hW1;have hq1:=(Sub.addV hb1).trans hs1) | refine qk rfl ?_))))
 have hcall:=ha V1 hq1 _ G1 hW1 (by rw[zg];omega)
 (repeat' (first | refine qc ?_ | refine qo ?_ | refine qh ?_ | ((refine qn rfl ?_);(first | (apply qQ tb rfl rfl;(· exact At.own (.app .here));(· exact rfl)) | (apply qw tb hMl;(· exact rfl);(· exact rfl);(· exact rfl);(· decide);(· (repeat (first | exact Cat.nil | (apply Cat.cons;(· exact rfl);(· exact rfl);(· exact rfl)) | exact App.nil | apply App.cons)));intro b1 hb1) | (refine qp tb rfl rfl rfl hcall (zq _) ?_;intro _ V2 G2 hs2 hW2) | (refine qp tb rfl rfl rfl (Yg hb1 hW2 (by rw[zg,zg];omega)).1 (zq _) ?_;intro _ V3 G3 hs3 hW3) | refine qk rfl ?_))))
 refine jb hM hw hV0 hR _ (zH _ _) (Qm rfl) ?_
 rw[← zG,← zG];exact hW3
def qhs(l:jc):Ex→Prop
 | .mk op _ _ i f _ _=>(op=2→(∀V,yl V→jl Tryz.prog 94 [.int .i64 i].toArray V [] fun v _ G=>v = .string ⟨(l.itoa i).toArray⟩∧G=[])∧-2147483648≤i∧i≤2147483647)∧(op=3→∀V,yl V→jl Tryz.prog 12 [.int .u64 f].toArray V [] fun v _ G=>v = .string ⟨(l.flt f).toArray⟩∧G=[])
mutual
def Qa(l:jc):Ex→Prop
 | .mk op p bo i f nm es=>qhs l (.mk op p bo i f nm es)∧LeafAlls l es
def LeafAlls(l:jc):Exs→Prop
 | .nil=>True
 | .cons e r=>Qa l e∧LeafAlls l r
end
theorem ja(t:List UInt8):(⟨t.toArray⟩:ByteArray).size=t.length:=rfl
set_option maxHeartbeats 2000000 in
theorem c28b{l:jc}{op p:Int}{bo:Bool}{i f:Int}{nm:ByteArray}{es:Exs}(hk:∀x∈es.list,E28 l x)(hf:qhs l (.mk op p bo i f nm es)):E28 l (.mk op p bo i f nm es):=by
 intro V b d s G0 cx hsg hE hW hl;have hE0:=hE;simp only[Ex.Is]at hE;obtain⟨sx,ex,rfl,hsx,has⟩:=hE;have hp:=Exs.parts has;have hside:=fun(j:Nat) (hj:j≤1) (V':qa) (hs:Sub V V') (s':List UInt8) (G':Own) (hW':Wr b d s' G') (hl':s'.length+(yu (textEs l es) j).length≤549755813888)=>c63 hk j (hsg.mono hs) (Ex.Is.mono hs _ hE0) hW' hl' hj
 have hcall:=fun(u v:ByteArray) (hl':s.length+(u.size+(Ye (textEs l es) 0).length+v.size)≤549755813888)=>c66 hk u v hsg hE0 hW hl'
 simp only[qhs]at hf;by_cases h2:JA op=true
 · have ht:jU l (.mk op p bo i f nm es)=yu (textEs l es) 0++([32]++qaJ op++[32])++yu (textEs l es) 1:=by simp only[jU,h2,WT]
   rw[ht]at hl ⊢;simp only[zg,zm,zt]at hl;have hC:=c62 op;rw[h2]at hC;have hc1:=hside 0 (by omega) V (Sub.refl _) s G0 hW (by omega)
   refine qB Tryz.func87 rfl Tryz.ntmps87 rfl ?_;intro X w hM hMl hw hV0 hR;dsimp only[je,Nat.zero_add,Nat.reduceAdd]
   (repeat' (first | refine qq ?_ | refine qc ?_ | refine qo ?_ | refine qh ?_ | refine qz ?_ | ((refine qn rfl ?_);(first | (refine qO rfl ?_;intro bx;refine jB (zE (l₁:=[_])) ?_) | (apply qu tb rfl rfl;(· exact At.own (.app .here));(· exact rfl)) | (apply qQ tb rfl rfl;(· exact At.own (.app .here));(· exact rfl)) | (apply qw tb hMl;(· exact rfl);(· exact rfl);(· exact rfl);(· decide);(· (repeat (first | exact Cat.nil | (apply Cat.cons;(· exact rfl);(· exact rfl);(· exact rfl)) | exact App.nil | apply App.cons)));intro b1 hb1) | (refine yA tb rfl rfl hC ?_) | (refine qp tb rfl rfl rfl hc1 (zq _) ?_;intro _ V1 G1 hs1 hW1) | (refine qE tb rfl rfl (c64 (hsg.mono hs1) h2) ?_) | (refine qp tb rfl rfl rfl (qnp hb1 hW1 (by simp only[zg,ja,zm,zt];omega)) (zq _) ?_;intro _ V2 G2 hs2 hW2;have hq2:=hs1.trans ((Sub.addV hb1).trans hs2)) | refine qk rfl ?_ | refine qm rfl ?_ | refine qf tb rfl rfl ?_)) | refine qS rfl ?_))
   have hc2:=hside 1 (by omega) V2 hq2 _ G2 hW2 (by simp only[zg,zm,zt];omega)
   (repeat' (first | refine qo ?_ | refine jg ?_ | ((refine qn rfl ?_);(refine qp tb rfl rfl rfl hc2 (zq _) ?_;intro _ V3 G3 hs3 hW3))))
   refine jb hM hw hV0 hR _ (zH _ _) (Qm rfl) ?_
   rw[← zG,← zG];exact hW3
 have hC:=c62 op;have h2':JA op=false:=by cases h:JA op with | true=>exact absurd h h2 | false=>rfl
 rw[h2']at hC;have ht:jU l (.mk op p bo i f nm es)=if op=1 then(if bo then[116,114,117,101]else[102,97,108,115,101])
  else if op=2 then l.itoa i
  else if op=3 then l.flt f
  else if op=4 then qlI nm.data.toList (textEs l es)
  else if op=17 then[45]++yu (textEs l es) 0
  else if op=18 then[33]++yu (textEs l es) 0
  else if op=19 then[105,110,116,40]++Ye (textEs l es) 0++[41]
  else if op=20 then[102,108,111,97,116,40]++Ye (textEs l es) 0++[41]
  else if op=21 then[97,98,115,40]++Ye (textEs l es) 0++[41]
  else[]:=by simp only[jU,h2',Bool.false_eq_true,Wy]
 rw[ht]at hl ⊢;clear ht;by_cases o1:op=1
 · subst o1
   simp only[WT]at hl ⊢;have hb':=c65 bo;have hbs:(if bo then(⟨#[116,114,117,101]⟩:ByteArray)else⟨#[102,97,108,115,101]⟩)=⟨(if bo then[116,114,117,101]else[102,97,108,115,101]:List UInt8).toArray⟩:=by cases bo <;> rfl
   rw[hbs]at hb';refine qB Tryz.func87 rfl Tryz.ntmps87 rfl ?_;intro X w hM hMl hw hV0 hR;dsimp only[je,Nat.zero_add,Nat.reduceAdd]
   (repeat' (first | refine qq ?_ | refine qc ?_ | refine qo ?_ | refine qh ?_ | refine qz ?_ | refine jg ?_ | ((refine qn rfl ?_);(first | (refine qO rfl ?_;intro bx;refine jB (zE (l₁:=[_])) ?_) | (apply qu tb rfl rfl;(· exact At.own (.app .here));(· exact rfl)) | (apply qw tb hMl;(· exact rfl);(· exact rfl);(· exact rfl);(· decide);(· (repeat (first | exact Cat.nil | (apply Cat.cons;(· exact rfl);(· exact rfl);(· exact rfl)) | exact App.nil | apply App.cons)));intro b1 hb1) | (refine yA tb rfl rfl hC ?_) | (refine yA tb rfl rfl hb' ?_) | (refine qp tb rfl rfl rfl (Yg hb1 hW (by simp only[ja];omega)).1 (zq _) ?_;intro _ V1 G1 hs1 hW1) | refine qk rfl ?_ | refine qm rfl ?_ | refine jJ rfl rfl ?_ | refine qf tb rfl rfl ?_)) | refine qS rfl ?_ | refine qC rfl ?_))
   all_goals first
    | contradiction
    | exact jb hM hw hV0 hR _ (zH _ _) (Qm rfl) hW1
 rw[zP o1]at hl ⊢;by_cases o2:op=2
 · subst o2
   rw[zZ rfl]at hl ⊢;obtain⟨hi,hi1,hi2⟩:=hf.1 rfl;refine qB Tryz.func87 rfl Tryz.ntmps87 rfl ?_;intro X w hM hMl hw hV0 hR;dsimp only[je,Nat.zero_add,Nat.reduceAdd]
   have hi:=hi V hsg
   (repeat' (first | refine qq ?_ | refine qc ?_ | refine qo ?_ | refine qh ?_ | refine qz ?_ | refine jg ?_ | ((refine qn rfl ?_);(first | (refine qO rfl ?_;intro bx;refine jB (zE (l₁:=[_])) ?_) | (apply qu tb rfl rfl;(· exact At.own (.app .here));(· exact rfl)) | (apply qw tb hMl;(· exact rfl);(· exact rfl);(· exact rfl);(· decide);(· (repeat (first | exact Cat.nil | (apply Cat.cons;(· exact rfl);(· exact rfl);(· exact rfl)) | exact App.nil | apply App.cons)));intro b1 hb1) | (refine yA tb rfl rfl hC ?_) | (refine qfO tb rfl rfl rfl (by omega) (by omega) ?_) | (refine qp (first:=[]) tb rfl rfl rfl hi (zq _) ?_;rintro _ V0 _ hs0 ⟨rfl,rfl⟩;dsimp only[List.nil_append]) | (refine qp tb rfl rfl rfl (Yg hb1 hW (by simp only[ja];omega)).1 (zq _) ?_;intro _ V1 G1 hs1 hW1) | refine qk rfl ?_ | refine qm rfl ?_ | refine jJ rfl rfl ?_ | refine qf tb rfl rfl ?_)) | refine qS rfl ?_ | refine qC rfl ?_))
   exact jb hM hw hV0 hR _ (zH _ _) (Qm rfl) hW1
 rw[zP o2]at hl ⊢;by_cases o3:op=3
 · subst o3
   rw[zZ rfl]at hl ⊢;have hi:=hf.2 rfl V hsg;refine qB Tryz.func87 rfl Tryz.ntmps87 rfl ?_;intro X w hM hMl hw hV0 hR;dsimp only[je,Nat.zero_add,Nat.reduceAdd]
   (repeat' (first | refine qq ?_ | refine qc ?_ | refine qo ?_ | refine qh ?_ | refine qz ?_ | refine jg ?_ | ((refine qn rfl ?_);(first | (refine qO rfl ?_;intro bx;refine jB (zE (l₁:=[_])) ?_) | (apply qu tb rfl rfl;(· exact At.own (.app .here));(· exact rfl)) | (apply qw tb hMl;(· exact rfl);(· exact rfl);(· exact rfl);(· decide);(· (repeat (first | exact Cat.nil | (apply Cat.cons;(· exact rfl);(· exact rfl);(· exact rfl)) | exact App.nil | apply App.cons)));intro b1 hb1) | (refine yA tb rfl rfl hC ?_) | (refine qp (first:=[]) tb rfl rfl rfl hi (zq _) ?_;rintro _ V0 _ hs0 ⟨rfl,rfl⟩;dsimp only[List.nil_append]) | (refine qp tb rfl rfl rfl (Yg hb1 hW (by simp only[ja];omega)).1 (zq _) ?_;intro _ V1 G1 hs1 hW1) | refine qk rfl ?_ | refine qm rfl ?_ | refine jJ rfl rfl ?_ | refine qf tb rfl rfl ?_)) | refine qS rfl ?_ | refine qC rfl ?_))
   exact jb hM hw hV0 hR _ (zH _ _) (Qm rfl) hW1
 rw[zP o3]at hl ⊢;by_cases o4:op=4
 · subst o4
   rw[zZ rfl]at hl ⊢;have hna:=y7 nm;unfold qlI at hl ⊢
   rw[qa8]at hl ⊢;by_cases h0:es.list.length=0
   · rw[zZ h0]at hl ⊢
     refine qB Tryz.func87 rfl Tryz.ntmps87 rfl ?_;intro X w hM hMl hw hV0 hR;dsimp only[je,Nat.zero_add,Nat.reduceAdd]
     (repeat' (first | refine qq ?_ | refine qc ?_ | refine qo ?_ | refine qh ?_ | refine qz ?_ | refine jg ?_ | ((first | refine qn rfl ?_ | refine yh rfl rfl rfl ?_);(first | (refine qO rfl ?_;intro bx;refine jB (zE (l₁:=[_])) ?_) | (apply qu tb rfl rfl;(· exact At.own (.app .here));(· exact rfl)) | (apply qw tb hMl;(· exact rfl);(· exact rfl);(· exact rfl);(· decide);(· (repeat (first | exact Cat.nil | (apply Cat.cons;(· exact rfl);(· exact rfl);(· exact rfl)) | exact App.nil | apply App.cons)));intro b1 hb1) | (refine yA tb rfl rfl hC ?_) | (refine jE tb rfl hsx rfl rfl hp.1 (by decide) ?_) | (refine qdv rfl rfl (by omega) ?_) | (refine qp tb rfl rfl rfl (Yg hb1 hW (by omega)).1 (zq _) ?_;intro _ V1 G1 hs1 hW1) | refine qk rfl ?_ | refine qm rfl ?_ | refine jJ rfl rfl ?_ | refine qK rfl rfl ?_ | refine qf tb rfl rfl ?_)) | refine qS rfl ?_ | refine qC rfl ?_))
     exact jb hM hw hV0 hR _ (zH _ _) (Qm rfl) hW1
   · rw[zP h0]at hl ⊢
     simp only[zg,zm,zt]at hl;have hap:(nm++(⟨#[91]⟩:ByteArray)).data.toList=nm.data.toList++[91]:=by simp
     have hsz:(nm++(⟨#[91]⟩:ByteArray)).size=nm.size+1:=by rw[ByteArray.size_append];rfl
     have hcc:=hcall (nm++⟨#[91]⟩) ⟨#[93]⟩ (by rw[hsz,show(⟨#[93]⟩:ByteArray).size=1 from rfl];omega)
     rw[hap]at hcc;refine qB Tryz.func87 rfl Tryz.ntmps87 rfl ?_;intro X w hM hMl hw hV0 hR;dsimp only[je,Nat.zero_add,Nat.reduceAdd]
     (repeat' (first | refine qq ?_ | refine qc ?_ | refine qo ?_ | refine qh ?_ | refine qz ?_ | refine jg ?_ | ((first | refine qn rfl ?_ | refine yh rfl rfl rfl ?_);(first | (refine qO rfl ?_;intro bx;refine jB (zE (l₁:=[_])) ?_) | (apply qu tb rfl rfl;(· exact At.own (.app .here));(· exact rfl)) | (apply qQ tb rfl rfl;(· exact At.own (.app .here));(· exact rfl)) | (refine yA tb rfl rfl hC ?_) | (refine jE tb rfl hsx rfl rfl hp.1 (by decide) ?_) | (refine qdu rfl rfl (by omega) ?_) | (refine qlg rfl rfl (by show nm.size+1≤_;omega) ?_) | (refine qp tb rfl rfl rfl hcc (zq _) ?_;intro _ V1 G1 hs1 hW1) | refine qk rfl ?_ | refine qm rfl ?_ | refine jJ rfl rfl ?_ | refine qK rfl rfl ?_ | refine qf tb rfl rfl ?_)) | refine qS rfl ?_ | refine qC rfl ?_))
     exact jb hM hw hV0 hR _ (zH _ _) (Qm rfl) hW1
 rw[zP o4]at hl ⊢;by_cases o17:op=17
 · subst o17
   rw[zZ rfl]at hl ⊢;simp only[zg,zm,zt]at hl;refine qB Tryz.func87 rfl Tryz.ntmps87 rfl ?_;intro X w hM hMl hw hV0 hR;dsimp only[je,Nat.zero_add,Nat.reduceAdd]
   (repeat' (first | refine qq ?_ | refine qc ?_ | refine qo ?_ | refine qh ?_ | refine qz ?_ | ((refine qn rfl ?_);(first | (refine qO rfl ?_;intro bx;refine jB (zE (l₁:=[_])) ?_) | (apply qu tb rfl rfl;(· exact At.own (.app .here));(· exact rfl)) | (apply qQ tb rfl rfl;(· exact At.own (.app .here));(· exact rfl)) | (apply qw tb hMl;(· exact rfl);(· exact rfl);(· exact rfl);(· decide);(· (repeat (first | exact Cat.nil | (apply Cat.cons;(· exact rfl);(· exact rfl);(· exact rfl)) | exact App.nil | apply App.cons)));intro b1 hb1) | (refine yA tb rfl rfl hC ?_) | (refine qp tb rfl rfl rfl (Yg hb1 hW (by simp only[ja,zm,zt];omega)).1 (zq _) ?_;intro _ V1 G1 hs1 hW1;have hq1:=(Sub.addV hb1).trans hs1) | refine qk rfl ?_ | refine qm rfl ?_ | refine jJ rfl rfl ?_ | refine qL rfl rfl ?_ | refine qf tb rfl rfl ?_)) | refine Qr rfl rfl rfl rfl ?_ | refine qS rfl ?_ | refine qC rfl ?_))
   have hc1:=hside 0 (by omega) V1 hq1 _ G1 hW1 (by simp only[zg,zm,zt];omega)
   (repeat' (first | refine qo ?_ | refine jg ?_ | ((refine qn rfl ?_);(refine qp tb rfl rfl rfl hc1 (zq _) ?_;intro _ V2 G2 hs2 hW2))))
   refine jb hM hw hV0 hR _ (zH _ _) (Qm rfl) ?_
   rw[← zG];exact hW2
 rw[zP o17]at hl ⊢;by_cases o18:op=18
 · subst o18
   rw[zZ rfl]at hl ⊢;simp only[zg,zm,zt]at hl;refine qB Tryz.func87 rfl Tryz.ntmps87 rfl ?_;intro X w hM hMl hw hV0 hR;dsimp only[je,Nat.zero_add,Nat.reduceAdd]
   (repeat' (first | refine qq ?_ | refine qc ?_ | refine qo ?_ | refine qh ?_ | refine qz ?_ | ((refine qn rfl ?_);(first | (refine qO rfl ?_;intro bx;refine jB (zE (l₁:=[_])) ?_) | (apply qu tb rfl rfl;(· exact At.own (.app .here));(· exact rfl)) | (apply qQ tb rfl rfl;(· exact At.own (.app .here));(· exact rfl)) | (apply qw tb hMl;(· exact rfl);(· exact rfl);(· exact rfl);(· decide);(· (repeat (first | exact Cat.nil | (apply Cat.cons;(· exact rfl);(· exact rfl);(· exact rfl)) | exact App.nil | apply App.cons)));intro b1 hb1) | (refine yA tb rfl rfl hC ?_) | (refine qp tb rfl rfl rfl (Yg hb1 hW (by simp only[ja,zm,zt];omega)).1 (zq _) ?_;intro _ V1 G1 hs1 hW1;have hq1:=(Sub.addV hb1).trans hs1) | refine qk rfl ?_ | refine qm rfl ?_ | refine jJ rfl rfl ?_ | refine qL rfl rfl ?_ | refine qf tb rfl rfl ?_)) | refine Qr rfl rfl rfl rfl ?_ | refine qS rfl ?_ | refine qC rfl ?_))
   have hc1:=hside 0 (by omega) V1 hq1 _ G1 hW1 (by simp only[zg,zm,zt];omega)
   (repeat' (first | refine qo ?_ | refine jg ?_ | ((refine qn rfl ?_);(refine qp tb rfl rfl rfl hc1 (zq _) ?_;intro _ V2 G2 hs2 hW2))))
   refine jb hM hw hV0 hR _ (zH _ _) (Qm rfl) ?_
   rw[← zG];exact hW2
 rw[zP o18]at hl ⊢;by_cases o19:op=19
 · subst o19
   rw[zZ rfl]at hl ⊢;simp only[zg,zm,zt]at hl;have hcc:=hcall ⟨#[105,110,116,40]⟩ ⟨#[41]⟩ (by simp only[ja,zm,zt];omega)
   refine qB Tryz.func87 rfl Tryz.ntmps87 rfl ?_;intro X w hM hMl hw hV0 hR;dsimp only[je,Nat.zero_add,Nat.reduceAdd]
   (repeat' (first | refine qq ?_ | refine qc ?_ | refine qo ?_ | refine qh ?_ | refine qz ?_ | refine jg ?_ | ((refine qn rfl ?_);(first | (refine qO rfl ?_;intro bx;refine jB (zE (l₁:=[_])) ?_) | (apply qu tb rfl rfl;(· exact At.own (.app .here));(· exact rfl)) | (apply qQ tb rfl rfl;(· exact At.own (.app .here));(· exact rfl)) | (refine yA tb rfl rfl hC ?_) | (refine qp tb rfl rfl rfl hcc (zq _) ?_;intro _ V1 G1 hs1 hW1) | refine qk rfl ?_ | refine qm rfl ?_ | refine jJ rfl rfl ?_ | refine qL rfl rfl ?_ | refine qf tb rfl rfl ?_)) | refine Qr rfl rfl rfl rfl ?_ | refine qS rfl ?_ | refine qC rfl ?_))
   exact jb hM hw hV0 hR _ (zH _ _) (Qm rfl) hW1
 rw[zP o19]at hl ⊢;by_cases o20:op=20
 · subst o20
   rw[zZ rfl]at hl ⊢;simp only[zg,zm,zt]at hl;have hcc:=hcall ⟨#[102,108,111,97,116,40]⟩ ⟨#[41]⟩ (by simp only[ja,zm,zt];omega)
   refine qB Tryz.func87 rfl Tryz.ntmps87 rfl ?_;intro X w hM hMl hw hV0 hR;dsimp only[je,Nat.zero_add,Nat.reduceAdd]
   (repeat' (first | refine qq ?_ | refine qc ?_ | refine qo ?_ | refine qh ?_ | refine qz ?_ | refine jg ?_ | ((refine qn rfl ?_);(first | (refine qO rfl ?_;intro bx;refine jB (zE (l₁:=[_])) ?_) | (apply qu tb rfl rfl;(· exact At.own (.app .here));(· exact rfl)) | (apply qQ tb rfl rfl;(· exact At.own (.app .here));(· exact rfl)) | (refine yA tb rfl rfl hC ?_) | (refine qp tb rfl rfl rfl hcc (zq _) ?_;intro _ V1 G1 hs1 hW1) | refine qk rfl ?_ | refine qm rfl ?_ | refine jJ rfl rfl ?_ | refine qL rfl rfl ?_ | refine qf tb rfl rfl ?_)) | refine Qr rfl rfl rfl rfl ?_ | refine qS rfl ?_ | refine qC rfl ?_))
   exact jb hM hw hV0 hR _ (zH _ _) (Qm rfl) hW1
 rw[zP o20]at hl ⊢;by_cases o21:op=21
 · subst o21
   rw[zZ rfl]at hl ⊢;simp only[zg,zm,zt]at hl;have hcc:=hcall ⟨#[97,98,115,40]⟩ ⟨#[41]⟩ (by simp only[ja,zm,zt];omega)
   refine qB Tryz.func87 rfl Tryz.ntmps87 rfl ?_;intro X w hM hMl hw hV0 hR;dsimp only[je,Nat.zero_add,Nat.reduceAdd]
   (repeat' (first | refine qq ?_ | refine qc ?_ | refine qo ?_ | refine qh ?_ | refine qz ?_ | refine jg ?_ | ((refine qn rfl ?_);(first | (refine qO rfl ?_;intro bx;refine jB (zE (l₁:=[_])) ?_) | (apply qu tb rfl rfl;(· exact At.own (.app .here));(· exact rfl)) | (apply qQ tb rfl rfl;(· exact At.own (.app .here));(· exact rfl)) | (refine yA tb rfl rfl hC ?_) | (refine qp tb rfl rfl rfl hcc (zq _) ?_;intro _ V1 G1 hs1 hW1) | refine qk rfl ?_ | refine qm rfl ?_ | refine jJ rfl rfl ?_ | refine qL rfl rfl ?_ | refine qf tb rfl rfl ?_)) | refine Qr rfl rfl rfl rfl ?_ | refine qS rfl ?_ | refine qC rfl ?_))
   exact jb hM hw hV0 hR _ (zH _ _) (Qm rfl) hW1
 rw[zP o21]at hl ⊢;rw[Kh];refine qB Tryz.func87 rfl Tryz.ntmps87 rfl ?_;intro X w hM hMl hw hV0 hR;dsimp only[je,Nat.zero_add,Nat.reduceAdd]
 (repeat' (first | refine qq ?_ | refine qc ?_ | refine qo ?_ | refine qh ?_ | refine qz ?_ | refine qG ?_ | refine jg ?_ | ((refine qn rfl ?_);(first | (refine qO rfl ?_;intro bx;refine jB (zE (l₁:=[_])) ?_) | (apply qu tb rfl rfl;(· exact At.own (.app .here));(· exact rfl)) | (refine yA tb rfl rfl hC ?_) | (refine qli rfl rfl (by omega) ?_) | refine qk rfl ?_ | refine qm rfl ?_ | refine qL rfl rfl ?_ | refine qf tb rfl rfl ?_)) | refine Qr rfl rfl rfl rfl ?_ | refine qC rfl ?_))
 exact jb hM hw hV0 hR _ (zH _ _) (Qm rfl) hW
mutual
theorem c28{l:jc}:∀(x:Ex),Qa l x→E28 l x
 | .mk _ _ _ _ _ _ es,h=>c28b (c28l es h.2) h.1
 termination_by structural x=>x
theorem c28l{l:jc}:∀(es:Exs),LeafAlls l es→∀x∈es.list,E28 l x
 | .nil,_,x,hm=>by simp[Exs.list]at hm
 | .cons e r,h,x,hm=>by
  rcases zO.1 hm with h' | h'
  · rw[h'];exact c28 e h.1
  · exact c28l r h.2 x h'
 termination_by structural x=>x
end
end Fly
end
section
namespace Fly
open Go Go.Proofs
set_option maxRecDepth 10000
attribute [local irreducible] WC WE WR Opr St Go.Calls Js QE jC Rel jl Jk Qj Owe One QS Go.CallsD
theorem c10{l:jc}{x:Ex}(hf:Qa l x){V:qa}{cx:List Value}(hsg:yl V)(hE:Ex.Is V x cx)(hl:(jU l x).length≤549755813888):jC Tryz.prog 40 [.agg cx.toArray] V (.string ⟨(jU l x).toArray⟩):=by
 obtain⟨a0,a1,a2,a3,a4,a5,a6,rfl⟩:=hE.lit;have hc:E28 l x:=c28 x hf
 refine jk Tryz.func40 rfl Tryz.ntmps40 rfl ?_;intro X w hM hw hV0 hR;dsimp only[je,Nat.zero_add,Nat.reduceAdd]
 (repeat' (first | refine qq ?_ | refine qc ?_ | refine qo ?_ | refine qh ?_ | ((refine qn rfl ?_);(first | (refine ju rfl ?_) | (refine qp tb rfl rfl rfl (hc hsg hE (.new (d:=0) none (.inl rfl)) (by simpa using hl)) (zq _) ?_;intro _ V1 G1 hs1 hW1) | refine qk rfl ?_ | refine qm rfl ?_ | refine qf tb rfl rfl ?_ | (apply qQ tb rfl rfl;(· (refine At.own (?_);repeat (first | exact Has.here | refine Has.there ?_)));(· exact rfl)) | (apply yK tb (by kernel_rfl) rfl (rfl:tb.fo _ 0=_);(· (repeat (exact Fill.nil)))) | (refine qO rfl ?_;intro b)))))
 (repeat' (first | refine qo ?_ | refine qh ?_ | refine qT ?_ | ((refine qn rfl ?_);(first | (refine qp tb rfl rfl rfl (c29 hW1) (zq _) ?_;rintro _ V2 G2 hs2 ⟨rfl,rfl⟩) | refine qm rfl ?_))))
 (refine qY hM hw hV0 hR (yy rfl rfl) ?_)
 rfl
end Fly
end
