/-
  What functions of the program compute, in plain Lean, and that the evaluator finds it.
-/
import Derived.Test.YtfckjjffdfkelaaGreatSuSd
import Derived.Test.YtfckjjffdfkelaaGreatNS05
import Derived.Test.YtfckjjffdfkelaaGreatRay
set_option linter.unusedVariables false
set_option linter.unusedSimpArgs false
set_option maxRecDepth 10000
namespace Su
open Go Fly
noncomputable section
abbrev qgD:=(Int×Int×Bool×Bool×Int×Bool×Int×(List Tm)×Int×Bool×Int×(List Tm)×Int×Bool×(List Int)×(List Int)×Bool×(List Int)×(List Int)×Bool×(List Int)×(List Int)×Unit)
def qdS:qgD→Option (qgD ⊕ qgD):=fun p8=>(bif(decide (p8.2.2.2.2.1<(List.length p8.2.2.2.2.2.2.2.1:Int)))then
 (idx p8.2.2.2.2.2.2.2.1 p8.2.2.2.2.1).bind fun x9=>
 (QN (Tm.c x9)).bind fun x10=>
 (Zb x10.1).bind fun x11=>
 (Z4 ((p8.2.2.2.2.2.2.2.2.2.2.2.2.2.2.2.2.2.2.2.1,p8.2.2.2.2.2.2.2.2.2.2.2.2.2.2.2.2.2.2.2.2.1,p8.2.2.2.2.2.2.2.2.2.2.2.2.2.2.2.2.2.2.2.2.2.1),x11)).bind fun x12=>
 some (.inl (p8.1,p8.2.1,p8.2.2.1,p8.2.2.2.1,(IntKind.wrap .i64 (p8.2.2.2.2.1+1)),p8.2.2.2.2.2.1,p8.2.2.2.2.2.2.1,p8.2.2.2.2.2.2.2.1,p8.2.2.2.2.2.2.2.2.1,p8.2.2.2.2.2.2.2.2.2.1,p8.2.2.2.2.2.2.2.2.2.2.1,p8.2.2.2.2.2.2.2.2.2.2.2.1,p8.2.2.2.2.2.2.2.2.2.2.2.2.1,p8.2.2.2.2.2.2.2.2.2.2.2.2.2.1,p8.2.2.2.2.2.2.2.2.2.2.2.2.2.2.1,p8.2.2.2.2.2.2.2.2.2.2.2.2.2.2.2.1,p8.2.2.2.2.2.2.2.2.2.2.2.2.2.2.2.2.1,p8.2.2.2.2.2.2.2.2.2.2.2.2.2.2.2.2.2.1,p8.2.2.2.2.2.2.2.2.2.2.2.2.2.2.2.2.2.2.1,x12.1,x12.2.1,x12.2.2,()))
 else
  some (.inr (p8.1,p8.2.1,p8.2.2.1,p8.2.2.2.1,p8.2.2.2.2.1,p8.2.2.2.2.2.1,p8.2.2.2.2.2.2.1,p8.2.2.2.2.2.2.2.1,p8.2.2.2.2.2.2.2.2.1,p8.2.2.2.2.2.2.2.2.2.1,p8.2.2.2.2.2.2.2.2.2.2.1,p8.2.2.2.2.2.2.2.2.2.2.2.1,p8.2.2.2.2.2.2.2.2.2.2.2.2.1,p8.2.2.2.2.2.2.2.2.2.2.2.2.2.1,p8.2.2.2.2.2.2.2.2.2.2.2.2.2.2.1,p8.2.2.2.2.2.2.2.2.2.2.2.2.2.2.2.1,p8.2.2.2.2.2.2.2.2.2.2.2.2.2.2.2.2.1,p8.2.2.2.2.2.2.2.2.2.2.2.2.2.2.2.2.2.1,p8.2.2.2.2.2.2.2.2.2.2.2.2.2.2.2.2.2.2.1,p8.2.2.2.2.2.2.2.2.2.2.2.2.2.2.2.2.2.2.2.1,p8.2.2.2.2.2.2.2.2.2.2.2.2.2.2.2.2.2.2.2.2.1,p8.2.2.2.2.2.2.2.2.2.2.2.2.2.2.2.2.2.2.2.2.2.1,())))
def lOf  (fu:Nat)(a:Fm)(b:Fm)(f:Int)(most:Int):Option Bool :=
 (bif(decide (40<(List.length a.2.2.1:Int)))then
 some (f,most,true,true,a.1,a.2.1,a.2.2.1,a.2.2.2,b.1,b.2.1,b.2.2.1,b.2.2.2,())
 else
  some (f,most,true,(decide (40<(List.length b.2.2.1:Int))),a.1,a.2.1,a.2.2.1,a.2.2.2,b.1,b.2.1,b.2.2.1,b.2.2.2,())).bind fun x0=>
  (bif x0.2.2.2.1 then
  some x0.2.2.1
 else
  (QN x0.1).bind fun x1=>
  (qc4 ((x0.2.2.2.2.1,x0.2.2.2.2.2.1,x0.2.2.2.2.2.2.1,x0.2.2.2.2.2.2.2.1),x0.1)).bind fun x2=>
  (bif(!x1.2)then
  (bif x0.2.2.1 then
  some ((!x2),())
 else
  some (false,())).bind fun x3=>
  some x3.1
 else
  (bif x0.2.2.2.2.1 then
  some (x0.1,x0.2.1,x0.2.2.1,x2,true,x0.2.2.2.2.1,x0.2.2.2.2.2.1,x0.2.2.2.2.2.2.1,x0.2.2.2.2.2.2.2.1,x0.2.2.2.2.2.2.2.2.1,x0.2.2.2.2.2.2.2.2.2.1,x0.2.2.2.2.2.2.2.2.2.2.1,x0.2.2.2.2.2.2.2.2.2.2.2.1,x1.1.1,x1.1.2.1,x1.1.2.2,())
 else
  some (x0.1,x0.2.1,x0.2.2.1,x2,(!(yz (x0.2.2.2.2.1,x0.2.2.2.2.2.1,x0.2.2.2.2.2.2.1,x0.2.2.2.2.2.2.2.1))),x0.2.2.2.2.1,x0.2.2.2.2.2.1,x0.2.2.2.2.2.2.1,x0.2.2.2.2.2.2.2.1,x0.2.2.2.2.2.2.2.2.1,x0.2.2.2.2.2.2.2.2.2.1,x0.2.2.2.2.2.2.2.2.2.2.1,x0.2.2.2.2.2.2.2.2.2.2.2.1,x1.1.1,x1.1.2.1,x1.1.2.2,())).bind fun x4=>
  (bif x4.2.2.2.2.1 then
  (bif x4.2.2.1 then
  some (x4.2.2.2.1,())
 else
  some (false,())).bind fun x5=>
  some x5.1
 else
  (QN x4.2.2.2.2.2.2.1).bind fun x6=>
  (QN x4.2.2.2.2.2.2.2.2.1).bind fun x7=>
  (itP fu (qdS) (x4.1,x4.2.1,x4.2.2.1,x4.2.2.2.1,(0:Int),x4.2.2.2.2.2.1,x4.2.2.2.2.2.2.1,x4.2.2.2.2.2.2.2.1,x4.2.2.2.2.2.2.2.2.1,x4.2.2.2.2.2.2.2.2.2.1,x4.2.2.2.2.2.2.2.2.2.2.1,x4.2.2.2.2.2.2.2.2.2.2.2.1,x4.2.2.2.2.2.2.2.2.2.2.2.2.1,x4.2.2.2.2.2.2.2.2.2.2.2.2.2.1,x4.2.2.2.2.2.2.2.2.2.2.2.2.2.2.1,x4.2.2.2.2.2.2.2.2.2.2.2.2.2.2.2.1,x6.1.1,x6.1.2.1,x6.1.2.2,x7.1.1,x7.1.2.1,x7.1.2.2,())).bind fun x13=>
  (qaN ((x13.2.2.2.2.2.2.2.2.2.2.2.2.2.1,x13.2.2.2.2.2.2.2.2.2.2.2.2.2.2.1,x13.2.2.2.2.2.2.2.2.2.2.2.2.2.2.2.1),x13.2.2.2.2.2.2.2.2.2.2.2.2.2.2.2.2.1,x13.2.2.2.2.2.2.2.2.2.2.2.2.2.2.2.2.2.1,x13.2.2.2.2.2.2.2.2.2.2.2.2.2.2.2.2.2.2.1)).bind fun x14=>
  (Zb x14).bind fun x15=>
  (qaM (x15,x13.2.2.2.2.2.2.2.2.2.2.2.2.2.2.2.2.2.2.2.1,x13.2.2.2.2.2.2.2.2.2.2.2.2.2.2.2.2.2.2.2.2.1,x13.2.2.2.2.2.2.2.2.2.2.2.2.2.2.2.2.2.2.2.2.2.1)).bind fun x16=>
  (bif(!(decide (x13.2.2.2.1=(decide (x16≤0)))))then
  some false
 else
  ((qdH ((x13.2.2.2.2.2.1,x13.2.2.2.2.2.2.1,x13.2.2.2.2.2.2.2.1,x13.2.2.2.2.2.2.2.2.1),x13.2.2.2.2.2.2.2.2.2.1,x13.2.2.2.2.2.2.2.2.2.2.1,x13.2.2.2.2.2.2.2.2.2.2.2.1,x13.2.2.2.2.2.2.2.2.2.2.2.2.1)).bind fun x17=>
  (qc4 (x17,x13.1)).bind fun x18=>
  (bif x18 then
  (qdH ((x13.2.2.2.2.2.2.2.2.2.1,x13.2.2.2.2.2.2.2.2.2.2.1,x13.2.2.2.2.2.2.2.2.2.2.2.1,x13.2.2.2.2.2.2.2.2.2.2.2.2.1),x13.2.2.2.2.2.1,x13.2.2.2.2.2.2.1,x13.2.2.2.2.2.2.2.1,x13.2.2.2.2.2.2.2.2.1)).bind fun x19=>
  (qc4 (x19,x13.1)).bind fun x20=>
  (bif x20 then
  (qko ((x13.2.2.2.2.2.1,x13.2.2.2.2.2.2.1,x13.2.2.2.2.2.2.2.1,x13.2.2.2.2.2.2.2.2.1),x13.2.1)).bind fun x21=>
  (qc4 (x21,x13.1)).bind fun x22=>
  (bif x22 then
  (qfc ((x13.2.2.2.2.2.1,x13.2.2.2.2.2.2.1,x13.2.2.2.2.2.2.2.1,x13.2.2.2.2.2.2.2.2.1),x13.2.2.2.2.2.2.2.2.2.2.1)).bind fun x23=>
  (qc4 (x23,x13.1)).bind fun x24=>
  (bif x24 then
  (qfb (x13.2.2.2.2.2.1,x13.2.2.2.2.2.2.1,x13.2.2.2.2.2.2.2.1,x13.2.2.2.2.2.2.2.2.1)).bind fun x25=>
  some (x13.2.2.1,x13.2.2.2.1,(qey x25 x13.1),x13.2.2.2.2.2.2.2.2.2.1,x13.2.2.2.2.2.2.2.2.2.2.1,x13.2.2.2.2.2.2.2.2.2.2.2.1,x13.2.2.2.2.2.2.2.2.2.2.2.2.1,())
 else
  some (x13.2.2.1,x13.2.2.2.1,false,x13.2.2.2.2.2.2.2.2.2.1,x13.2.2.2.2.2.2.2.2.2.2.1,x13.2.2.2.2.2.2.2.2.2.2.2.1,x13.2.2.2.2.2.2.2.2.2.2.2.2.1,()))
 else
  some (x13.2.2.1,x13.2.2.2.1,false,x13.2.2.2.2.2.2.2.2.2.1,x13.2.2.2.2.2.2.2.2.2.2.1,x13.2.2.2.2.2.2.2.2.2.2.2.1,x13.2.2.2.2.2.2.2.2.2.2.2.2.1,()))
 else
  some (x13.2.2.1,x13.2.2.2.1,false,x13.2.2.2.2.2.2.2.2.2.1,x13.2.2.2.2.2.2.2.2.2.2.1,x13.2.2.2.2.2.2.2.2.2.2.2.1,x13.2.2.2.2.2.2.2.2.2.2.2.2.1,()))
 else
  some (x13.2.2.1,x13.2.2.2.1,false,x13.2.2.2.2.2.2.2.2.2.1,x13.2.2.2.2.2.2.2.2.2.2.1,x13.2.2.2.2.2.2.2.2.2.2.2.1,x13.2.2.2.2.2.2.2.2.2.2.2.2.1,()))).bind fun x26=>
  (bif x26.1 then
  (bif(!x26.2.1)then
  some (true,())
 else
  (bif x26.2.2.2.1 then
  some (true,())
 else
  (bif(!(yz (x26.2.2.2.1,x26.2.2.2.2.1,x26.2.2.2.2.2.1,x26.2.2.2.2.2.2.1)))then
  some (true,())
 else
  some (x26.2.2.1,()))))
 else
  some (false,())).bind fun x27=>
  some x27.1))))
abbrev O31S:=Int×(Int×Bool×Bool×Int×Bool×Int×List Tm×Int×Bool×Int×List Tm×Int×Bool×List Int×List Int×Bool×List Int×List Int×Bool×List Int×List Int×Unit)
def o31(f most:Int)(t g:Bool)(i:Int)(a b:Fm)(v m r:Rt):O31S:=(f,most,t,g,i,a.1,a.2.1,a.2.2.1,a.2.2.2,b.1,b.2.1,b.2.2.1,b.2.2.2,v.1,v.2.1,v.2.2,m.1,m.2.1,m.2.2,r.1,r.2.1,r.2.2,())
theorem qAP(c:Int):Zb (JR c.toNat)=some (mkQ ((avF c:Nat):Int) QD):=by
 rw[(qop ((qc0 c.toNat).mono (by omega))).1,YP,qj1 _ JG];rfl
theorem qmY(f most:Int)(t g:Bool)(a b:Fm)(v m:Rt)(hl:a.2.2.1.length≤1000000)(hf:∀u∈a.2.2.1,fI u.c=true):∀(r A:List Tm) (s k:Nat),A++r=a.2.2.1→s<k*2^BX→k+r.length≤1000010 →
 ja (r.length+1) qdS (o31 f most t g ((A.length:Nat):Int) a b v m (mkQ (s:Int) QD)) (o31 f most t g ((a.2.2.1.length:Nat):Int) a b v m (mkQ ((Zd r s:Nat):Int) QD))
 | [],A,s,k,h,_,_=>by
  rw[zO]at h;refine ja.stop ?_
  rw[h];have d0:decide (((a.2.2.1.length:Nat):Int)<((a.2.2.1.length:Nat):Int))=false:=zk (by omega)
  show qdS (o31 f most t g ((a.2.2.1.length:Nat):Int) a b v m (mkQ (s:Int) QD))=_
  unfold qdS;exact Qa d0
 | x::r,A,s,k,h,hs,hk=>by
  have hi:A.length<a.2.2.1.length:=by rw[← h];simp
  have hx:x∈a.2.2.1:=by rw[← h];simp
  have hgx:idx a.2.2.1 ((A.length:Nat):Int)=some x:=by
   rw[jB,← h,zP (by omega),Vi];rfl
  have ha:=qb2 x.c;have hs':s+avF x.c<(k+1)*2^BX:=by rw[zV];omega
  rw[zq]at hk;have hbig:∀z q:Nat,z<q*2^BX→q≤1048576→(z:Int).natAbs<1048576*2^BX:=fun z q h1 h2=>by
   rw[VE];exact Ki h1 (zH _ h2)
  have hadd:=qqE (hbig s k hs (by omega)) (hbig (avF x.c) 1 (by omega) (by omega))
  have ih:=qmY f most t g a b v m hl hf r (A++[x]) (s+avF x.c) (k+1) (by rw[← h];simp) hs' (by omega)
  have el:((A++[x]).length:Nat)=A.length+1:=by simp
  rw[el]at ih;refine ja.next ?_ ih
  have d0:decide (((A.length:Nat):Int)<((a.2.2.1.length:Nat):Int))=true:=zf (by omega)
  have w:IntKind.i64.wrap (((A.length:Nat):Int)+1)=((A.length+1:Nat):Int):=by
   rw[show(((A.length:Nat):Int)+1)=((A.length+1:Nat):Int) by omega];exact rkW (by omega) (by omega)
  have hp:QN x.c=some (JR x.c.toNat,true):=by rw[Z6,qj4 (hf x hx)];rfl
  show qdS (o31 f most t g ((A.length:Nat):Int) a b v m (mkQ (s:Int) QD))=_
  unfold qdS;refine(qH d0).trans (obB hgx (obB hp (obB (qAP x.c) (obB hadd ?_))))
  show some (Sum.inl (o31 f most t g (IntKind.i64.wrap (((A.length:Nat):Int)+1)) a b v m (mkQ ((s:Int)+((avF x.c:Nat):Int)) QD)))=_
  rw[w];rfl
theorem qkr(x:Fm):(jR x).2.2.1.length≤x.2.2.1.length:=by
 rw[qaP];cases(fI (nzI x.2.1)&&fI (nzI x.2.2.2))&&!((jJ x.2.2.1).any fun t=>!fI t.c)with
 | true=>exact List.length_filter_le _ _
 | false=>exact Va _
theorem qib(a b:Fm):(QP joC a b).2.2.1.length≤a.2.2.1.length+b.2.2.1.length:=by
 unfold QP;cases okF a&&okF b with
 | false=>exact Va _
 | true=>exact zU (qkr _) (qv1 _ _ _ _ _)
theorem qsa(a:Fm)(e:Int):(qaS a e).2.2.1.length≤a.2.2.1.length:=by
 unfold qaS;cases okF a&&fI e with
 | false=>exact Va _
 | true=>exact qkr _
theorem qsb{nz:Int→Int}{a:Fm}{X e:Int}(ha:okF a=true)(wa:FmW a)(hX:qbx nz a X 1):qbx nz (qaS a e) X 1:=by
 unfold qaS;rw[ha,zG];cases fe:fI e with
 | false=>exact .inl rfl
 | true=>exact qr3 ha wa fe hX
theorem qc6{a:Fm}(f:Int)(h:a.2.2.1.length≤1000):qc4 (a,f)=some (ofS a f):=qH (zn (by show a.2.2.1.length≤_;omega))
theorem qmZ{nz:Int→Int}{b:Fm}(hb:okF b=true):qbx nz b (smN nz b) 1:=by
 have:=qkc hb
 right;rw[XJ,Int.sub_self];show((0:Int).natAbs:Int)≤_
 simp;omega
theorem qAQ{a b:Fm}{f most:Int}(oa:okF a=true)(ob:okF b=true)(wa:FmW a)(wb:FmW b)(hf:ofS a f=true) :
 ofS (QP joC a b) f=true∧ofS (QP joC b a) f=true∧ofS (qkm a (jV a.2.2.1 most)) f=true∧ofS (qaS a b.2.1) f=true :=
 ⟨qkq oa (fun nz X hz hX=>(qgA hz qmL oa ob wa wb hX (qmZ ob)).1) hf,
  qkq oa (fun nz X hz hX=>(qgA hz qmL ob oa wb wa (qmZ ob) hX).2) hf,
  qkq oa (fun nz X hz hX=>qr4 hz oa wa (qh9 (qkf oa)) hX) hf,
  qkq oa (fun nz X hz hX=>qsb oa wa hX) hf⟩
def qCL(_:Fm×Fm×Int×Int):Option Bool:=some true
theorem qFi(x:Fm×(Fm×(Int×Int)))(y:Bool)(hg:(dc qB (dc qB (dc (cI .u64) (d1 (cI .i64))))).good x)(h:qCL x=some y):∃n,lOf n x.1 x.2.1 x.2.2.1 x.2.2.2=some y:=by
 obtain⟨a,b,f,most⟩:=x;have:=soi h;subst this
 refine⟨a.2.2.1.length+1,?_⟩
 show lOf (a.2.2.1.length+1) a b f most=some true
 have ga:=hg.1;have gb:=hg.2.1;have wa:FmW a:=⟨QJ.1 ga.2.1,QJ.1 ga.2.2.2,fun t ht=>QJ.1 (ga.2.2.1.1 t ht).2⟩
 have wb:FmW b:=⟨QJ.1 gb.2.1,QJ.1 gb.2.2.2,fun t ht=>QJ.1 (gb.2.2.1.1 t ht).2⟩
 have wf:Fw f:=QJ.1 hg.2.2.1
 unfold lOf;by_cases h1:40<(a.2.2.1.length:Int)
 · exact obB (qH (zf h1)) rfl
 refine obB (Qa (zk h1)) ?_
 by_cases h2:40<(b.2.2.1.length:Int)
 · exact qH (zf h2)
 refine(Qa (zk h2)).trans ?_
 have la:a.2.2.1.length≤40:=by omega
 have lb:b.2.2.1.length≤40:=by omega
 have fO:qc4 (a,f)=some (ofS a f):=qc6 f (by omega)
 refine obB (Z6 f) (obB fO ?_)
 cases hn:Yz f.toNat with
 | true=>
  have:ofS a f=false:=by unfold ofS;rw[hn];rfl
  refine(qH rfl).trans ?_
  rw[this];rfl
 | false=>
 refine(Qa rfl).trans ?_
 have nof:okF a=false→ofS a f=true:=fun h=>by unfold ofS;rw[hn,h];rfl
 cases hb:a.1 with
 | true=>
  refine obB (qH rfl) ((qH rfl).trans ?_)
  rw[nof (by unfold okF;rw[hb];rfl)];rfl
 | false=>
 have ea:(false,(a.2.1,(a.2.2.1,a.2.2.2)))=a:=by rw[← hb]
 refine obB (Qa rfl) ?_
 cases hm:yz a with
 | false=>
  refine(qH ?_).trans ?_
  · show(!yz (false,(a.2.1,(a.2.2.1,a.2.2.2))))=true
    rw[ea,hm];rfl
  · rw[nof (by unfold okF;rw[hb,hm];rfl)];rfl
 | true=>
 have oa:okF a=true:=by unfold okF;rw[hb,hm];rfl
 refine(Qa ?_).trans ?_
 · show(!yz (false,(a.2.1,(a.2.2.1,a.2.2.2))))=false
   rw[ea,hm];rfl
 obtain⟨-,F⟩:=yR oa
 have p1:QN a.2.1=some (JR a.2.1.toNat,true):=by rw[Z6,qj4 F.mid];rfl
 have p2:QN a.2.2.2=some (JR a.2.2.2.toNat,true):=by rw[Z6,qj4 F.err];rfl
 have er:JR a.2.2.2.toNat=mkQ ((avF a.2.2.2:Nat):Int) QD:=by
  rw[YP];congr 1
  have:=qkc oa
  unfold avF;omega
 have hrun:=qmY f most true (ofS a f) a b (JR f.toNat) (JR a.2.1.toNat) (by omega) F.tms a.2.2.1 [] (avF a.2.2.2) 1 rfl (by have:=qb2 a.2.2.2;omega) (by omega)
 rw[← er]at hrun;have hrun:=hrun (a.2.2.1.length+1) (zE _)
 unfold o31 at hrun;rw[hb]at hrun;refine obB p1 (obB p2 (obB hrun ?_))
 have b1:=qdE f.toNat;have b2:=qdE a.2.1.toNat;have b3:(fv f.toNat-fv a.2.1.toNat).natAbs<1048576*2^BX:=by omega
 have b4:((Zf a:Nat):Int).natAbs<1048576*2^BX:=by
  have:=qj5 a.2.2.1 (avF a.2.2.2) 1 (by have:=qb2 a.2.2.2;omega)
  rw[VE];exact Ki this (zH _ (by omega))
 have z1:Sz (JR f.toNat) 100000:=(qc0 _).mono (by omega)
 have z2:Sz (JR a.2.1.toNat) 100000:=(qc0 _).mono (by omega)
 have s1:qaN (JR f.toNat,JR a.2.1.toNat)=some (mkQ (fv f.toNat-fv a.2.1.toNat) QD):=by
  rw[(qvD z1 z2).1,YP,YP,subD]
 have s2:Zb (mkQ (fv f.toNat-fv a.2.1.toNat) QD)=some (mkQ ((fv f.toNat-fv a.2.1.toNat).natAbs:Int) QD):=by
  rw[(qop ((qaU b3).mono (by omega))).1,qj1 _ JG]
 have s3:qaM (mkQ ((fv f.toNat-fv a.2.1.toNat).natAbs:Int) QD,mkQ ((Zf a:Nat):Int) QD)=some (qaT ((fv f.toNat-fv a.2.1.toNat).natAbs:Int) (Zf a:Int)):=by
  rw[qvE ((qaU (by rw[VE];exact b3)).mono (by omega)) ((qaU b4).mono (by omega)),cmpD]
 refine obB s1 (obB s2 (obB s3 ?_))
 have hin:ofS a f=decide (qaT ((fv f.toNat-fv a.2.1.toNat).natAbs:Int) (Zf a:Int)≤0):=by
  rw[qqj];unfold ofS;rw[hn,oa];simp only[Kl,zG,Kh,VL];by_cases hle:(fv f.toNat-fv a.2.1.toNat).natAbs≤Zf a
  · rw[zf hle,zf (by omega)]
  · rw[zk hle,zk (by omega)]
 refine(Qa ?_).trans ?_
 · show(!decide (ofS a f=decide (qaT ((fv f.toNat-fv a.2.1.toNat).natAbs:Int) (Zf a:Int)≤0)))=false
   rw[← hin];simp
 -- what becomes
 have j1:qdH (a,b)=some (QP joC a b):=qH (zn (by show a.2.2.1.length+b.2.2.1.length≤_;omega))
 have j2:qdH (b,a)=some (QP joC b a):=qH (zn (by show b.2.2.1.length+a.2.2.1.length≤_;omega))
 have c1:qko (a,most)=some (qkm a (jV a.2.2.1 most)):=qH (show(okF a&&Nat.ble a.2.2.1.length 40)=true by rw[oa,zn la];rfl)
 have m1:qfc (a,b.2.1)=some (qaS a b.2.1):=qH (zn (by show a.2.2.1.length≤_;omega))
 have sp:qfb a=some (qh1 a):=qH (zn (by show a.2.2.1.length≤_;omega))
 have o1:=qc6 (a:=QP joC a b) f (by have:=qib a b;omega)
 have o2:=qc6 (a:=QP joC b a) f (by have:=qib b a;omega)
 have kl:=qmU a.2.2.1 most;have o3:=qc6 (a:=qkm a (jV a.2.2.1 most)) f (by
  have h3:(qkm a (jV a.2.2.1 most)).2.2.1.length≤(jV a.2.2.1 most).length:=qkr _
  omega)
 have o4:=qc6 (a:=qaS a b.2.1) f (by have:=qsa a b.2.1;omega)
 have key:∀v:Bool,(ofS a f=true→okF b=true→v=true)→((bif true then(bif(!ofS a f)then some (true,())else(bif b.1 then some (true,())else(bif(!yz (b.1,(b.2.1,(b.2.2.1,b.2.2.2))))then some (true,())else some (v,()))))else some (false,())).bind fun x:Bool×Unit=>some x.1)=some true:=fun v hv=>by
  cases hi:ofS a f with
  | false=>rfl
  | true=>
   have eb:(b.1,(b.2.1,(b.2.2.1,b.2.2.2)))=b:=rfl
   rw[eb];cases hb1:b.1 with
   | true=>rfl
   | false=>
    cases hmb:yz b with
    | false=>rfl
    | true=>rw[hv hi (by unfold okF;rw[hb1,hmb];rfl)];rfl
 simp only[ea];have ob2:ofS a f=true→okF b=true→ofS (QP joC a b) f=true∧ofS (QP joC b a) f=true∧ofS (qkm a (jV a.2.2.1 most)) f=true∧ofS (qaS a b.2.1) f=true:=fun h ob=>qAQ oa ob wa wb h
 cases q1:ofS (QP joC a b) f with
 | false=>
  rw[q1]at o1;exact obB (obB j1 (obB o1 rfl)) (key false fun h ob=>by have:=(ob2 h ob).1;rw[q1]at this;cases this)
 | true=>
 rw[q1]at o1;cases q2:ofS (QP joC b a) f with
 | false=>
  rw[q2]at o2;exact obB (obB j1 (obB o1 ((qH rfl).trans (obB j2 (obB o2 rfl))))) (key false fun h ob=>by have:=(ob2 h ob).2.1;rw[q2]at this;cases this)
 | true=>
 rw[q2]at o2;cases q3:ofS (qkm a (jV a.2.2.1 most)) f with
 | false=>
  rw[q3]at o3;exact obB (obB j1 (obB o1 ((qH rfl).trans (obB j2 (obB o2 ((qH rfl).trans (obB c1 (obB o3 rfl)))))))) (key false fun h ob=>by have:=(ob2 h ob).2.2.1;rw[q3]at this;cases this)
 | true=>
 rw[q3]at o3;cases q4:ofS (qaS a b.2.1) f with
 | false=>
  rw[q4]at o4;exact obB (obB j1 (obB o1 ((qH rfl).trans (obB j2 (obB o2 ((qH rfl).trans (obB c1 (obB o3 ((qH rfl).trans (obB m1 (obB o4 rfl))))))))))) (key false fun h ob=>by have:=(ob2 h ob).2.2.2;rw[q4]at this;cases this)
 | true=>
 rw[q4]at o4;have hff:fI f=true:=by rw[qEO]at hn;simpa using hn
 exact obB (obB j1 (obB o1 ((qH rfl).trans (obB j2 (obB o2 ((qH rfl).trans (obB c1 (obB o3 ((qH rfl).trans (obB m1 (obB o4 ((qH rfl).trans (obB sp rfl))))))))))))) (key (qey (qh1 a) f) fun h ob=>qvW wa wf hff h)
end
end Su
