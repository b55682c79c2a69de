/-
  Bits and rounding, in plain Lean. No condition.
-/
import Derived.Test.YtnegfdebjikfiaaGreatRsm
import Derived.Test.YtnegfdebjikfiaaGreatSuXl
set_option linter.unusedVariables false
set_option linter.unusedSimpArgs false
set_option maxRecDepth 10000
section
namespace Su
noncomputable section
open Go Fly
theorem qyT(l:List Tm):qt (qt l)=qt l:=by unfold qt;rw[List.filter_filter];simp
theorem qtY(b:Bool)(m e:Int)(l:List Tm):yY (b,m,qt l,e)=yY (b,m,l,e):=by
 rw[Qz,Qz];simp only[qyT]
theorem qoi:∀(l:List Tm) (i:Int),atN l i=0∨∃t∈l,atN l i=t.c
 | [],_=>.inl rfl
 | t::l,i=>by
  by_cases e:t.id=i
  · exact .inr ⟨t,zq ..,by rw[← e,Yj]⟩
  · rw[Yk e]
    rcases qoi l i with h | ⟨u,hu,h⟩
    · exact .inl h
    · exact .inr ⟨u,zo _ hu,h⟩
theorem qoj{g:Int→Int}(hg:∀i,Fw (g i)∧fI (g i)=true):∀ {l:List Tm} {e:Int},(∀t∈l,Fw t.c∧fI t.c=true)→(∃n,Up e n)→∃n,Up (qc4 g l e) n
 | [],_,_,h=>h
 | t::l,e,hl,⟨n,h⟩=>by
  unfold qc4;refine qoj hg (fun u hu=>hl u (zo _ hu)) ?_
  cases decide (t.c=0)with
  | true=>exact⟨n,h⟩
  | false=>exact⟨_,upI2 h (qz3 (hl t (zq ..)).1 (hl t (zq ..)).2 (hg t.id).1 (hg t.id).2)⟩
def Co(c:Int):Prop:=Fw c∧fI c=true∧j0 c
theorem co_0:Co 0:=⟨fw_0,rfl,wd_0⟩
theorem qAf{l:List Tm}(h:∀t∈l,Co t.c)(i:Int):Co (atN l i):=by
 rcases qoi l i with e | ⟨t,ht,e⟩
 · rw[e];exact co_0
 · rw[e];exact h t ht
theorem qCM{f:Int→Int→Int}(hp:Pick f){a b:List Tm}(ha:∀t∈a,Co t.c)(hb:∀t∈b,Co t.c):∀t∈joW f (atN b) a,Co t.c:=by
 intro t ht;unfold joW at ht;obtain⟨u,hu,rfl⟩:=KJ.1 ht;exact hp.all co_0 _ _ (ha u hu) (qAf hb _)
theorem qEy{f:Int→Int→Int}(hp:Pick f){a b:List Tm}(ha:∀t∈a,zI t.c=false)(hb:∀t∈b,zI t.c=false):∀t∈joW f (atN b) a,zI t.c=true→t.c=0:=by
 intro t ht hz;unfold joW at ht;obtain⟨u,hu,rfl⟩:=KJ.1 ht;have hz:zI (f u.c (atN b u.id))=true:=hz
 show f u.c (atN b u.id)=0
 rcases hp.o u.c (atN b u.id)with e | e | e
 · exact e
 · rw[e,ha u hu]at hz;cases hz
 · rw[e]at hz ⊢
   rcases qoi b u.id with e' | ⟨v,hv,e'⟩
   · exact e'
   · rw[e',hb v hv]at hz;cases hz
def joD(f:Int→Int→Int)(a b:List Tm):List Tm:=qt (joW f (atN b) a)
theorem qCN{f:Int→Int→Int}(hp:Pick f){a b:List Tm}(ha:∀t∈a,Co t.c)(hb:∀t∈b,Co t.c):∀t∈joD f a b,Co t.c:=fun t ht=>qCM hp ha hb t (by unfold joD qt at ht;exact(Vx.1 ht).1)
theorem qkM{f:Int→Int→Int}(hp:Pick f){a b C:List Tm}(ra:Qk a)(rb:Qk b)(rC:Qk C)(ca:∀t∈a,Co t.c)(cb:∀t∈b,Co t.c)(cC:∀t∈C,Co t.c)(za:∀t∈a,zI t.c=false)(zb:∀t∈b,zI t.c=false)(zC:∀t∈C,zI t.c=false)
 {cm mid r:Int} (hc:Co cm) (hm:Co mid) (hr:Fw r∧fI r=true) :
 upI [(qm QA (C.length+(qm (jnD f) (a.length+b.length) a b 0).1.length) C (qm (jnD f) (a.length+b.length) a b 0).1 (awI cm mid)).2,r]=qJ (qkL (atN (joD f a b)) C (qJ 0 (awD cm mid) 1)) r 1 ∧
 qB (bK (qJ (qkL (atN (joD f a b)) C (qJ 0 (awD cm mid) 1)) r 1).toNat)=false:=by
 have hg:=qAf (qCN hp ca cb)
 have hl:∀t∈C,t.c≠0∧Fw t.c∧fI t.c=true∧j0 t.c:=fun t ht=>⟨fun e=>by
  have h0:=zC t ht;rw[e,qps]at h0;exact Bool.noConfusion h0,cC t ht⟩
 have e:=(qoh (e:=awI cm mid) (e':=qJ 0 (awD cm mid) 1) hg hl (by rw[qtW hc.1 hc.2.1 hm.1 hm.2.1]) (qiP wd_0 (qtX hc.2.2 hm.2.2) (by decide)) r).1
 have q:=qtU hp.l hp.r ra rb rC (qEy hp za zb) (awI cm mid)
 have q':upI [(qm QA (C.length+(qm (jnD f) (a.length+b.length) a b 0).1.length) C (qm (jnD f) (a.length+b.length) a b 0).1 (awI cm mid)).2,r]=upI [qc4 (atN (joD f a b)) C (awI cm mid),r]:=by rw[q];rfl
 refine⟨q'.trans e,?_⟩
 rw[← e];obtain⟨n,hn⟩:=qoj (fun i=>⟨(hg i).1,(hg i).2.1⟩) (fun t ht=>⟨(cC t ht).1,(cC t ht).2.1⟩) ⟨_,qz3 hc.1 hc.2.1 hm.1 hm.2.1⟩
 exact qma (upI2 hn (qiB hr.2))
def gtD(x y:Int):Int:=bif decide (jZ x.toNat y.toNat<0)then y else x
def Yo(a:Fm)(D:List Tm)(mid:Int):Int:=qJ (qkL (atN D) a.2.2.1 (qJ 0 (awD a.2.1 mid) 1)) a.2.2.2 1
theorem qtZ{f:Int→Int→Int}(hp:Pick f){a b:Fm}(ha:okF a=true)(hb:okF b=true)(ra:Qk a.2.2.1)(rb:Qk b.2.2.1)(ca:∀t∈a.2.2.1,Co t.c)(cb:∀t∈b.2.2.1,Co t.c)(za:∀t∈a.2.2.1,zI t.c=false)(zb:∀t∈b.2.2.1,zI t.c=false)
 (ma:Co a.2.1) (mb:Co b.2.1) (ea:Fw a.2.2.2∧fI a.2.2.2=true) (eb:Fw b.2.2.2∧fI b.2.2.2=true) (hm:Co (jP a.2.1 b.2.1)) :
 qbQ f a b=yY (false,jP a.2.1 b.2.1,joD f a.2.2.1 b.2.2.1,gtD (Yo a (joD f a.2.2.1 b.2.2.1) (jP a.2.1 b.2.1)) (Yo b (joD f a.2.2.1 b.2.2.1) (jP a.2.1 b.2.1))):=by
 have E1:=qkM hp ra rb ra ca cb ca za zb za ma hm ea;have E2:=qkM hp ra rb rb ca cb cb za zb zb mb hm eb;have D:qt (Y4 f a b)=joD f a.2.2.1 b.2.2.1:=qag hp.l hp.r 0 _ _ _ (zE _) ra rb
 have M1:qiC a (Y4 f a b) (jP a.2.1 b.2.1)=Yo a (joD f a.2.2.1 b.2.2.1) (jP a.2.1 b.2.1):=E1.1
 have M2:qiC b (Y4 f a b) (jP a.2.1 b.2.1)=Yo b (joD f a.2.2.1 b.2.2.1) (jP a.2.1 b.2.1):=E2.1
 have X:mxI (Yo a (joD f a.2.2.1 b.2.2.1) (jP a.2.1 b.2.1)) (Yo b (joD f a.2.2.1 b.2.2.1) (jP a.2.1 b.2.1))=gtD (Yo a (joD f a.2.2.1 b.2.2.1) (jP a.2.1 b.2.1)) (Yo b (joD f a.2.2.1 b.2.2.1) (jP a.2.1 b.2.1)) :=
  qog (qah ..) (qah ..) E1.2 E2.2
 unfold qbQ;rw[ha,hb,M1,M2,X,← qtY,D];rfl
end
end Su
end
section
namespace Su
open Go Fly
theorem qt0{A:List Tm}(h:Qk A)(most e:Int) :
 (ssK Tm.id ((ssK qh A).take (min (max most 0) (A.length:Int)).toNat),qkl (inK (ssK Tm.id ((ssK qh A).take (min (max most 0) (A.length:Int)).toNat))) A e)=qdz A most [] A e:=by
 have hi:inK (ssK Tm.id ((ssK qh A).take (min (max most 0) (A.length:Int)).toNat))=inK ((ssK qh A).take (min (max most 0) (A.length:Int)).toNat):=by
  funext t
  rw[Bool.eq_iff_iff,JE,JE];exact(j8 Tm.id _).mem_iff
 rw[hi,qoe h A [] e rfl,← qmo h]
noncomputable def Yp(A:List Tm)(most:Int):List Tm→List Tm→Int→List Tm×Int
 | _,[],e=>([],e)
 | P,x::Q,e=>bif qkK A P x most then(x::(Yp A most (P++[x]) Q e).1,(Yp A most (P++[x]) Q e).2)else Yp A most (P++[x]) Q (qJ e (qcU x.c) 1)
theorem qfv{A:List Tm}{most:Int}:∀(Q P:List Tm) (e:Int),Cle e→(∀t∈Q,j0 (qcU t.c))→qdz A most P Q e=Yp A most P Q e
 | [],_,_,_,_=>rfl
 | x::Q,P,e,he,hq=>by
  have h':∀t∈Q,j0 (qcU t.c):=fun t ht=>hq t (zo _ ht)
  obtain⟨h1,h2⟩:=qCF he (hq x (zq ..))
  unfold qdz Yp;rw[h1,qfv Q (P++[x]) e he h',qfv Q (P++[x]) _ h2 h']
end Su
end
section
namespace Su
open Go Fly
theorem qfw:∀ {l:List Tm} {lo:Int},ja lo l=true→∀t∈l,zI t.c=false∧fI t.c=true
 | [],_,_,_,ht=>by cases ht
 | a::l,lo,h,t,ht=>by
  unfold ja at h;simp only[zl,Ky,zy]at h;rcases zA.1 ht with rfl | ht
  · exact⟨h.2.1,h.2.2.1⟩
  · exact qfw h.2.2.2 t ht
theorem qiS{a:Fm}(h:okF a=true):Qk a.2.2.1:=qg1 (qiD h)
theorem qt1{a:Fm}(h:okF a=true):∀t∈a.2.2.1,zI t.c=false∧fI t.c=true:=qfw (qiD h)
theorem qfx{c:Int}(h:j0 c)(f:fI c=true):Co c:=⟨by obtain⟨n,rfl,hn⟩:=h;exact⟨by omega,by omega⟩,f,h⟩
end Su
end
section
namespace Su
open Go Fly
noncomputable section
def qt2  (a:Int)(b:Int):Option Int :=
 (bif(decide ((jZ (Int.toNat (qJ a (Y5 b) 1)) (Int.toNat (qJ b (Y5 a) 1)))<0))then
 some (qJ b (Y5 a) 1)
 else
  some (qJ a (Y5 b) 1))
noncomputable def qok(p:Int×Int):Option Int:=some (awD p.1 p.2)
theorem qt3(p:Int×Int)(y:Int)(hg:(dc (cI .u64) (d1 (cI .u64))).good p)(h:qok p=some y):qt2 p.1 p.2=some y:=by
 obtain⟨a,b⟩:=p;have:=soi h;subst this
 unfold qt2 awD;rw[qb5 (qbP hg.2),qb5 (qbP hg.1)];cases decide (jZ (qJ a (Jr b) 1).toNat (qJ b (Jr a) 1).toNat<0) <;> rfl
end
end Su
end
section
namespace Su
open Go Fly
noncomputable section
def qb7:Stp (Int×Int×Bool×Int×(List Int)×(List Int)×Int×Bool×Int×(List Int)×(List Int)×Int×Unit):=fun p0=>(bif(decide (p0.2.1<(List.length p0.2.2.2.2.1:Int)))then
 (idx p0.2.2.2.2.2.1 p0.2.1).bind fun x1=>
 (idx p0.2.2.2.2.1 p0.2.1).bind fun x2=>
 (qb6 ((p0.2.2.2.2.2.2.2.1,p0.2.2.2.2.2.2.2.2.1,p0.2.2.2.2.2.2.2.2.2.1,p0.2.2.2.2.2.2.2.2.2.2.1,p0.2.2.2.2.2.2.2.2.2.2.2.1),x2)).bind fun x3=>
 some (.inl ((qJ p0.1 (awD x1 x3) 1),(IntKind.wrap .i64 (p0.2.1+1)),p0.2.2.1,p0.2.2.2.1,p0.2.2.2.2.1,p0.2.2.2.2.2.1,p0.2.2.2.2.2.2.1,p0.2.2.2.2.2.2.2.1,p0.2.2.2.2.2.2.2.2.1,p0.2.2.2.2.2.2.2.2.2.1,p0.2.2.2.2.2.2.2.2.2.2.1,p0.2.2.2.2.2.2.2.2.2.2.2.1,()))
 else
  some (.inr (p0.1,p0.2.1,p0.2.2.1,p0.2.2.2.1,p0.2.2.2.2.1,p0.2.2.2.2.2.1,p0.2.2.2.2.2.2.1,p0.2.2.2.2.2.2.2.1,p0.2.2.2.2.2.2.2.2.1,p0.2.2.2.2.2.2.2.2.2.1,p0.2.2.2.2.2.2.2.2.2.2.1,p0.2.2.2.2.2.2.2.2.2.2.2.1,())))
def qkN  (fu:Nat)(x:(Bool×Int×(List Int)×(List Int)×Int))(j:(Bool×Int×(List Int)×(List Int)×Int)):Option Int :=
 (itP fu (qb7) ((qJ 0 (awD x.2.1 j.2.1) 1),(0:Int),x.1,x.2.1,x.2.2.1,x.2.2.2.1,x.2.2.2.2,j.1,j.2.1,j.2.2.1,j.2.2.2.1,j.2.2.2.2,())).bind fun x4=>
 some (qJ x4.1 x4.2.2.2.2.2.2.1 1)
theorem qfy(a j:Fm)(hl:a.2.2.1.length≤500000000000):∀(rest A:List Tm) (e:Int),A++rest=a.2.2.1 →
 ∃n,itP n qb7 (e,(A.length:Int),(ofF a).1,(ofF a).2.1,(ofF a).2.2.1,(ofF a).2.2.2.1,(ofF a).2.2.2.2,(ofF j).1,(ofF j).2.1,(ofF j).2.2.1,(ofF j).2.2.2.1,(ofF j).2.2.2.2,()) =
  some (qkL (atN j.2.2.1) rest e,(a.2.2.1.length:Int),(ofF a).1,(ofF a).2.1,(ofF a).2.2.1,(ofF a).2.2.2.1,(ofF a).2.2.2.2,(ofF j).1,(ofF j).2.1,(ofF j).2.2.1,(ofF j).2.2.2.1,(ofF j).2.2.2.2,())
 | [],A,e,hA=>by
  rw[zD]at hA;rw[← hA];refine⟨1,?_⟩
  have t:decide ((A.length:Int)<(((ofF a).2.2.1.length:Nat):Int))=false:=zh (by
   show¬(A.length:Int)<((a.2.2.1.map Tm.id).length:Nat)
   rw[zn,← hA];omega)
  rw[qu];simp only[qb7,t,zi];rfl
 | t::rest,A,e,hA=>by
  have hNl:A.length+(rest.length+1)=a.2.2.1.length:=by rw[← hA];simp
  have hi:idx (ofF a).2.2.1 (A.length:Int)=some t.id:=by
   show idx (a.2.2.1.map Tm.id) _=_
   rw[← hA];exact jA Tm.id A t rest
  have hc:idx (ofF a).2.2.2.1 (A.length:Int)=some t.c:=by
   show idx (a.2.2.1.map Tm.c) _=_
   rw[← hA];exact jA Tm.c A t rest
  have hlt:decide ((A.length:Int)<(((ofF a).2.2.1.length:Nat):Int))=true:=zd (by
   show(A.length:Int)<((a.2.2.1.map Tm.id).length:Nat)
   rw[zn];omega)
  have hw:IntKind.i64.wrap ((A.length:Int)+1)=(((A++[t]).length:Nat):Int):=by rw[w64 (by omega) (by omega)];simp
  have rb:qb6 (((ofF j).1,(ofF j).2.1,(ofF j).2.2.1,(ofF j).2.2.2.1,(ofF j).2.2.2.2),t.id)=some (atN j.2.2.1 t.id):=qmn j t.id
  obtain⟨n,h⟩:=qfy a j hl rest (A++[t]) (qJ e (awD t.c (atN j.2.2.1 t.id)) 1) (by rw[← hA];simp)
  refine⟨n+1,?_⟩
  rw[qu];simp only[qb7,hi,hc,hlt,rb,zf,zj,hw];exact h
noncomputable def qed(p:Rf×Rf):Option Int:=bif okR p.1&&okR p.2 then some (Yo (toF p.1) (toF p.2).2.2.1 (toF p.2).2.1)else none
theorem qkO{a j:Fm}(ha:a.2.2.1.length≤500000000000)(hj:j.2.2.1.length≤500000000000):qed (ofF a,ofF j)=some (Yo a j.2.2.1 j.2.1):=by
 unfold qed;simp only[];rw[qfq ha,qfq hj,QM,QM];rfl
theorem qt4(p:Rf×Rf)(y:Int)(hg:(dc cRf (d1 cRf)).good p)(h:qed p=some y):∃n,qkN n p.1 p.2=some y:=by
 obtain⟨x,z⟩:=p;obtain⟨hc,h2⟩:=qj h;have:=soi h2;subst this
 rw[zl]at hc;refine onR (P:=fun x=>∃n,qkN n x z=some (Yo (toF x) (toF z).2.2.1 (toF z).2.1)) (fun a hla=>?_) hc.1
 refine onR (P:=fun z=>∃n,qkN n (ofF a) z=some (Yo (toF (ofF a)) (toF z).2.2.1 (toF z).2.1)) (fun j hlj=>?_) hc.2
 rw[QM,QM];obtain⟨n,q⟩:=qfy a j hla a.2.2.1 [] (qJ 0 (awD a.2.1 j.2.1) 1) rfl
 refine⟨n,?_⟩
 unfold qkN;exact obs q rfl
end
end Su
end
section
namespace Su
open Go Fly
noncomputable section
def j9:Stp (Int×(List T)×(List T)×Bool×Int×Nat×Nat×Int×Bool×Int×(List Int)×(List Int)×Int×Bool×Int×(List Int)×(List Int)×Int×Bool×Int×Nat×Nat×Int×(List T)×(List T)×Unit):=fun p2=>(bif(decide (p2.1<(List.length p2.2.2.2.2.2.2.2.2.2.2.1:Int)))then
 (idx p2.2.2.2.2.2.2.2.2.2.2.2.1 p2.1).bind fun x3=>
 (idx p2.2.2.2.2.2.2.2.2.2.2.1 p2.1).bind fun x4=>
 (qb6 ((p2.2.2.2.2.2.2.2.2.2.2.2.2.2.1,p2.2.2.2.2.2.2.2.2.2.2.2.2.2.2.1,p2.2.2.2.2.2.2.2.2.2.2.2.2.2.2.2.1,p2.2.2.2.2.2.2.2.2.2.2.2.2.2.2.2.2.1,p2.2.2.2.2.2.2.2.2.2.2.2.2.2.2.2.2.2.1),x4)).bind fun x5=>
 (bif(decide (x5=0))then
 some (.inl ((IntKind.wrap .i64 (p2.1+1)),p2.2.1,p2.2.2.1,p2.2.2.2.1,p2.2.2.2.2.1,p2.2.2.2.2.2.1,p2.2.2.2.2.2.2.1,p2.2.2.2.2.2.2.2.1,p2.2.2.2.2.2.2.2.2.1,p2.2.2.2.2.2.2.2.2.2.1,p2.2.2.2.2.2.2.2.2.2.2.1,p2.2.2.2.2.2.2.2.2.2.2.2.1,p2.2.2.2.2.2.2.2.2.2.2.2.2.1,p2.2.2.2.2.2.2.2.2.2.2.2.2.2.1,p2.2.2.2.2.2.2.2.2.2.2.2.2.2.2.1,p2.2.2.2.2.2.2.2.2.2.2.2.2.2.2.2.1,p2.2.2.2.2.2.2.2.2.2.2.2.2.2.2.2.2.1,p2.2.2.2.2.2.2.2.2.2.2.2.2.2.2.2.2.2.1,p2.2.2.2.2.2.2.2.2.2.2.2.2.2.2.2.2.2.2.1,p2.2.2.2.2.2.2.2.2.2.2.2.2.2.2.2.2.2.2.2.1,p2.2.2.2.2.2.2.2.2.2.2.2.2.2.2.2.2.2.2.2.2.1,p2.2.2.2.2.2.2.2.2.2.2.2.2.2.2.2.2.2.2.2.2.2.1,p2.2.2.2.2.2.2.2.2.2.2.2.2.2.2.2.2.2.2.2.2.2.2.1,p2.2.2.2.2.2.2.2.2.2.2.2.2.2.2.2.2.2.2.2.2.2.2.2.1,p2.2.2.2.2.2.2.2.2.2.2.2.2.2.2.2.2.2.2.2.2.2.2.2.2.1,()))
 else
  (bif(!(decide ((Int.fdiv x3 (2^63))=(Int.fdiv x5 (2^63)))))then
  some (.inl ((IntKind.wrap .i64 (p2.1+1)),p2.2.1,p2.2.2.1,p2.2.2.2.1,p2.2.2.2.2.1,p2.2.2.2.2.2.1,p2.2.2.2.2.2.2.1,p2.2.2.2.2.2.2.2.1,p2.2.2.2.2.2.2.2.2.1,p2.2.2.2.2.2.2.2.2.2.1,p2.2.2.2.2.2.2.2.2.2.2.1,p2.2.2.2.2.2.2.2.2.2.2.2.1,p2.2.2.2.2.2.2.2.2.2.2.2.2.1,p2.2.2.2.2.2.2.2.2.2.2.2.2.2.1,p2.2.2.2.2.2.2.2.2.2.2.2.2.2.2.1,p2.2.2.2.2.2.2.2.2.2.2.2.2.2.2.2.1,p2.2.2.2.2.2.2.2.2.2.2.2.2.2.2.2.2.1,p2.2.2.2.2.2.2.2.2.2.2.2.2.2.2.2.2.2.1,p2.2.2.2.2.2.2.2.2.2.2.2.2.2.2.2.2.2.2.1,p2.2.2.2.2.2.2.2.2.2.2.2.2.2.2.2.2.2.2.2.1,p2.2.2.2.2.2.2.2.2.2.2.2.2.2.2.2.2.2.2.2.2.1,p2.2.2.2.2.2.2.2.2.2.2.2.2.2.2.2.2.2.2.2.2.2.1,p2.2.2.2.2.2.2.2.2.2.2.2.2.2.2.2.2.2.2.2.2.2.2.1,p2.2.2.2.2.2.2.2.2.2.2.2.2.2.2.2.2.2.2.2.2.2.2.2.1,p2.2.2.2.2.2.2.2.2.2.2.2.2.2.2.2.2.2.2.2.2.2.2.2.2.1,()))
 else
  (bif(decide (0<(jZ (Int.toNat (Qi x3)) (Int.toNat (Qi x5)))))then
  (idx p2.2.2.2.2.2.2.2.2.2.2.1 p2.1).bind fun x6=>
  (bif((true&&(Nat.beq p2.2.2.2.2.2.2.2.2.2.2.2.2.2.2.2.2.2.2.2.2.1 p2.2.2.2.2.2.2.2.2.2.2.2.2.2.2.2.2.2.2.2.2.2.2.2.1.length))&&(Nat.ble (p2.2.2.2.2.2.2.2.2.2.2.2.2.2.2.2.2.2.2.2.2.2.2.2.1.length+(List.length [(T.s (.int .i64 x6))])) 549755813888))then
  (bif((true&&(Nat.beq p2.2.2.2.2.2.2.2.2.2.2.2.2.2.2.2.2.2.2.2.2.2.1 p2.2.2.2.2.2.2.2.2.2.2.2.2.2.2.2.2.2.2.2.2.2.2.2.2.1.length))&&(Nat.ble (p2.2.2.2.2.2.2.2.2.2.2.2.2.2.2.2.2.2.2.2.2.2.2.2.2.1.length+(List.length [(T.s (.int .u64 x5))])) 549755813888))then
  some (.inl ((IntKind.wrap .i64 (p2.1+1)),p2.2.1,p2.2.2.1,p2.2.2.2.1,p2.2.2.2.2.1,p2.2.2.2.2.2.1,p2.2.2.2.2.2.2.1,p2.2.2.2.2.2.2.2.1,p2.2.2.2.2.2.2.2.2.1,p2.2.2.2.2.2.2.2.2.2.1,p2.2.2.2.2.2.2.2.2.2.2.1,p2.2.2.2.2.2.2.2.2.2.2.2.1,p2.2.2.2.2.2.2.2.2.2.2.2.2.1,p2.2.2.2.2.2.2.2.2.2.2.2.2.2.1,p2.2.2.2.2.2.2.2.2.2.2.2.2.2.2.1,p2.2.2.2.2.2.2.2.2.2.2.2.2.2.2.2.1,p2.2.2.2.2.2.2.2.2.2.2.2.2.2.2.2.2.1,p2.2.2.2.2.2.2.2.2.2.2.2.2.2.2.2.2.2.1,p2.2.2.2.2.2.2.2.2.2.2.2.2.2.2.2.2.2.2.1,p2.2.2.2.2.2.2.2.2.2.2.2.2.2.2.2.2.2.2.2.1,(List.length (p2.2.2.2.2.2.2.2.2.2.2.2.2.2.2.2.2.2.2.2.2.2.2.2.1++[(T.s (.int .i64 x6))])),(List.length (p2.2.2.2.2.2.2.2.2.2.2.2.2.2.2.2.2.2.2.2.2.2.2.2.2.1++[(T.s (.int .u64 x5))])),p2.2.2.2.2.2.2.2.2.2.2.2.2.2.2.2.2.2.2.2.2.2.2.1,(p2.2.2.2.2.2.2.2.2.2.2.2.2.2.2.2.2.2.2.2.2.2.2.2.1++[(T.s (.int .i64 x6))]),(p2.2.2.2.2.2.2.2.2.2.2.2.2.2.2.2.2.2.2.2.2.2.2.2.2.1++[(T.s (.int .u64 x5))]),()))
 else none)
 else none)
 else
  (idx p2.2.2.2.2.2.2.2.2.2.2.1 p2.1).bind fun x7=>
  (bif((true&&(Nat.beq p2.2.2.2.2.2.2.2.2.2.2.2.2.2.2.2.2.2.2.2.2.1 p2.2.2.2.2.2.2.2.2.2.2.2.2.2.2.2.2.2.2.2.2.2.2.2.1.length))&&(Nat.ble (p2.2.2.2.2.2.2.2.2.2.2.2.2.2.2.2.2.2.2.2.2.2.2.2.1.length+(List.length [(T.s (.int .i64 x7))])) 549755813888))then
  (bif((true&&(Nat.beq p2.2.2.2.2.2.2.2.2.2.2.2.2.2.2.2.2.2.2.2.2.2.1 p2.2.2.2.2.2.2.2.2.2.2.2.2.2.2.2.2.2.2.2.2.2.2.2.2.1.length))&&(Nat.ble (p2.2.2.2.2.2.2.2.2.2.2.2.2.2.2.2.2.2.2.2.2.2.2.2.2.1.length+(List.length [(T.s (.int .u64 x3))])) 549755813888))then
  some (.inl ((IntKind.wrap .i64 (p2.1+1)),p2.2.1,p2.2.2.1,p2.2.2.2.1,p2.2.2.2.2.1,p2.2.2.2.2.2.1,p2.2.2.2.2.2.2.1,p2.2.2.2.2.2.2.2.1,p2.2.2.2.2.2.2.2.2.1,p2.2.2.2.2.2.2.2.2.2.1,p2.2.2.2.2.2.2.2.2.2.2.1,p2.2.2.2.2.2.2.2.2.2.2.2.1,p2.2.2.2.2.2.2.2.2.2.2.2.2.1,p2.2.2.2.2.2.2.2.2.2.2.2.2.2.1,p2.2.2.2.2.2.2.2.2.2.2.2.2.2.2.1,p2.2.2.2.2.2.2.2.2.2.2.2.2.2.2.2.1,p2.2.2.2.2.2.2.2.2.2.2.2.2.2.2.2.2.1,p2.2.2.2.2.2.2.2.2.2.2.2.2.2.2.2.2.2.1,p2.2.2.2.2.2.2.2.2.2.2.2.2.2.2.2.2.2.2.1,p2.2.2.2.2.2.2.2.2.2.2.2.2.2.2.2.2.2.2.2.1,(List.length (p2.2.2.2.2.2.2.2.2.2.2.2.2.2.2.2.2.2.2.2.2.2.2.2.1++[(T.s (.int .i64 x7))])),(List.length (p2.2.2.2.2.2.2.2.2.2.2.2.2.2.2.2.2.2.2.2.2.2.2.2.2.1++[(T.s (.int .u64 x3))])),p2.2.2.2.2.2.2.2.2.2.2.2.2.2.2.2.2.2.2.2.2.2.2.1,(p2.2.2.2.2.2.2.2.2.2.2.2.2.2.2.2.2.2.2.2.2.2.2.2.1++[(T.s (.int .i64 x7))]),(p2.2.2.2.2.2.2.2.2.2.2.2.2.2.2.2.2.2.2.2.2.2.2.2.2.1++[(T.s (.int .u64 x3))]),()))
 else none)
 else none))))
 else
  some (.inr (p2.1,p2.2.1,p2.2.2.1,p2.2.2.2.1,p2.2.2.2.2.1,p2.2.2.2.2.2.1,p2.2.2.2.2.2.2.1,p2.2.2.2.2.2.2.2.1,p2.2.2.2.2.2.2.2.2.1,p2.2.2.2.2.2.2.2.2.2.1,p2.2.2.2.2.2.2.2.2.2.2.1,p2.2.2.2.2.2.2.2.2.2.2.2.1,p2.2.2.2.2.2.2.2.2.2.2.2.2.1,p2.2.2.2.2.2.2.2.2.2.2.2.2.2.1,p2.2.2.2.2.2.2.2.2.2.2.2.2.2.2.1,p2.2.2.2.2.2.2.2.2.2.2.2.2.2.2.2.1,p2.2.2.2.2.2.2.2.2.2.2.2.2.2.2.2.2.1,p2.2.2.2.2.2.2.2.2.2.2.2.2.2.2.2.2.2.1,p2.2.2.2.2.2.2.2.2.2.2.2.2.2.2.2.2.2.2.1,p2.2.2.2.2.2.2.2.2.2.2.2.2.2.2.2.2.2.2.2.1,p2.2.2.2.2.2.2.2.2.2.2.2.2.2.2.2.2.2.2.2.2.1,p2.2.2.2.2.2.2.2.2.2.2.2.2.2.2.2.2.2.2.2.2.2.1,p2.2.2.2.2.2.2.2.2.2.2.2.2.2.2.2.2.2.2.2.2.2.2.1,p2.2.2.2.2.2.2.2.2.2.2.2.2.2.2.2.2.2.2.2.2.2.2.2.1,p2.2.2.2.2.2.2.2.2.2.2.2.2.2.2.2.2.2.2.2.2.2.2.2.2.1,())))
def qkP  (fu:Nat)(a:(Bool×Int×(List Int)×(List Int)×Int))(b:(Bool×Int×(List Int)×(List Int)×Int)):Option (Bool×Int×(List Int)×(List Int)×Int) :=
 (qpQ a).bind fun x0=>
 (qpQ b).bind fun x1=>
 (bif x0.1 then
 some (true,(0:Int),[],[],(0:Int))
 else
  (bif x1.1 then
  some (true,(0:Int),[],[],(0:Int))
 else
  (itP fu (j9) ((0:Int),[],[],false,(0:Int),0,0,(0:Int),x0.1,x0.2.1,x0.2.2.1,x0.2.2.2.1,x0.2.2.2.2,x1.1,x1.2.1,x1.2.2.1,x1.2.2.2.1,x1.2.2.2.2,false,(qJ (qcT x0.2.1 4602678819172646912 0) (qcT x1.2.1 4602678819172646912 0) 0),0,0,(0:Int),[],[],())).bind fun x8=>
  (Su.sub x8.2.2.2.2.2.2.2.2.2.2.2.2.2.2.2.2.2.2.2.2.2.2.2.1 0 x8.2.2.2.2.2.2.2.2.2.2.2.2.2.2.2.2.2.2.2.2.1).bind fun x9=>
  (Su.sub x8.2.2.2.2.2.2.2.2.2.2.2.2.2.2.2.2.2.2.2.2.2.2.2.1 0 x8.2.2.2.2.2.2.2.2.2.2.2.2.2.2.2.2.2.2.2.2.1).bind fun x10=>
  (Su.sub x8.2.2.2.2.2.2.2.2.2.2.2.2.2.2.2.2.2.2.2.2.2.2.2.2.1 0 x8.2.2.2.2.2.2.2.2.2.2.2.2.2.2.2.2.2.2.2.2.2.1).bind fun x11=>
  (Su.sub x8.2.2.2.2.2.2.2.2.2.2.2.2.2.2.2.2.2.2.2.2.2.2.2.2.1 0 x8.2.2.2.2.2.2.2.2.2.2.2.2.2.2.2.2.2.2.2.2.2.1).bind fun x12=>
  ((((((qI 3 x9).bind fun x13=>
  ((qI 2 x11).bind fun x14=>
  some (x14,x8.2.2.2.2.2.2.2.2.2.2.2.2.2.2.2.2.2.2.2.2.2.2.1)).bind fun x15=>
  some (x13,x15)).bind fun x16=>
  some (x8.2.2.2.2.2.2.2.2.2.2.2.2.2.2.2.2.2.2.2.1,x16)).bind fun x17=>
  some (x8.2.2.2.2.2.2.2.2.2.2.2.2.2.2.2.2.2.2.1,x17)).bind fun x18=>
  some ((x8.2.2.2.2.2.2.2.2.1,x8.2.2.2.2.2.2.2.2.2.1,x8.2.2.2.2.2.2.2.2.2.2.1,x8.2.2.2.2.2.2.2.2.2.2.2.1,x8.2.2.2.2.2.2.2.2.2.2.2.2.1),x18)).bind fun x19=>
  (bif((okR x19.1)&&(okR x19.2))then
  some (Yo (toF x19.1) (toF x19.2).2.2.1 (toF x19.2).2.1)
 else none)).bind fun x20=>
  ((((((qI 3 x10).bind fun x21=>
  ((qI 2 x12).bind fun x22=>
  some (x22,x8.2.2.2.2.2.2.2.2.2.2.2.2.2.2.2.2.2.2.2.2.2.2.1)).bind fun x23=>
  some (x21,x23)).bind fun x24=>
  some (x8.2.2.2.2.2.2.2.2.2.2.2.2.2.2.2.2.2.2.2.1,x24)).bind fun x25=>
  some (x8.2.2.2.2.2.2.2.2.2.2.2.2.2.2.2.2.2.2.1,x25)).bind fun x26=>
  some ((x8.2.2.2.2.2.2.2.2.2.2.2.2.2.1,x8.2.2.2.2.2.2.2.2.2.2.2.2.2.2.1,x8.2.2.2.2.2.2.2.2.2.2.2.2.2.2.2.1,x8.2.2.2.2.2.2.2.2.2.2.2.2.2.2.2.2.1,x8.2.2.2.2.2.2.2.2.2.2.2.2.2.2.2.2.2.1),x26)).bind fun x27=>
  (bif((okR x27.1)&&(okR x27.2))then
  some (Yo (toF x27.1) (toF x27.2).2.2.1 (toF x27.2).2.1)
 else none)).bind fun x28=>
  (bif(decide ((jZ x20.toNat x28.toNat)<0))then
  (((((qI 3 x10).bind fun x29=>
  ((qI 2 x12).bind fun x30=>
  some (x30,x28)).bind fun x31=>
  some (x29,x31)).bind fun x32=>
  some (x8.2.2.2.2.2.2.2.2.2.2.2.2.2.2.2.2.2.2.2.1,x32)).bind fun x33=>
  some (x8.2.2.2.2.2.2.2.2.2.2.2.2.2.2.2.2.2.2.1,x33)).bind fun x34=>
  (bif((eqL x34)&&(Nat.ble x34.2.2.1.length 549755813888))then
  some (ofF (qdy (toF x34)))
 else none)).bind fun x35=>
  some x35
 else
  (((((qI 3 x10).bind fun x36=>
  ((qI 2 x12).bind fun x37=>
  some (x37,x20)).bind fun x38=>
  some (x36,x38)).bind fun x39=>
  some (x8.2.2.2.2.2.2.2.2.2.2.2.2.2.2.2.2.2.2.2.1,x39)).bind fun x40=>
  some (x8.2.2.2.2.2.2.2.2.2.2.2.2.2.2.2.2.2.2.1,x40)).bind fun x41=>
  (bif((eqL x41)&&(Nat.ble x41.2.2.1.length 549755813888))then
  some (ofF (qdy (toF x41)))
 else none)).bind fun x42=>
  some x42)))
theorem qb8(a:Fm):qpQ (ofF a)=some (ofF (bif yn a then a else qaS)):=by
 unfold qpQ;refine obs (qyN a) ?_
 cases yn a <;> rfl
noncomputable def joG(g:Int→Int):List Tm→List Tm
 | []=>[]
 | t::l=>bif decide (g t.id=0)then joG g l else bif !decide (Int.fdiv t.c (2^63)=Int.fdiv (g t.id) (2^63))then joG g l else
  ⟨t.id,bif decide (0<jZ (Qi t.c).toNat (Qi (g t.id)).toNat)then g t.id else t.c⟩::joG g l
theorem qfz(g:Int→Int)(t:Tm)(l:List Tm):joG g (t::l)=bif decide (g t.id=0)then joG g l else bif !decide (Int.fdiv t.c (2^63)=Int.fdiv (g t.id) (2^63))then joG g l else⟨t.id,bif decide (0<jZ (Qi t.c).toNat (Qi (g t.id)).toNat)then g t.id else t.c⟩::joG g l:=rfl
theorem qb9{c:Int}(h:fI c=true):(Qi c).toNat=Int.toNat ((jT c.toNat:Nat):Int):=by
 unfold Qi;rw[zm,zm,YI h]
theorem qt5{p q:Int}(fp:fI p=true)(fq:fI q=true):jV (Int.toNat ((jT q.toNat:Nat):Int)) (Int.toNat ((jT p.toNat:Nat):Int))=decide (0<jZ (Qi p).toNat (Qi q).toNat):=by
 have e1:=qCJ (x:=⟨0,q⟩) (y:=⟨0,p⟩) fq fp
 have e2:=qCJ (x:=⟨0,p⟩) (y:=⟨0,q⟩) fp fq
 rw[← qb9 fp,← qb9 fq]at *
 have n:∀c:Int,fI c=true→qB (bK (Qi c).toNat)=false:=fun c h=>by
  unfold fI at h;unfold Qi;rw[zm,qke];exact qE.2 (by have:=qT.1 h;omega)
 unfold jV qcO;rw[n _ fp,n _ fq,e1,e2,qtN];unfold qdC;simp only[VK,zX,zK];by_cases h : -qh ⟨0,q⟩ < -qh ⟨0,p⟩
 · rw[zd h,zf,zd (by decide),zd (by omega)]
 · rw[zh h,zi,zh (show¬qh ⟨0,p⟩<qh ⟨0,q⟩ by omega)]
   cases decide (-qh ⟨0,p⟩ < -qh ⟨0,q⟩) <;> rfl
theorem qt6{g:Int→Int}:∀ {l:List Tm},(∀t∈l,zI t.c=false∧fI t.c=true)→(∀i,g i=0∨zI (g i)=false∧fI (g i)=true)→qt (joW joC g l)=joG g l
 | [],_,_=>rfl
 | t::l,hl,hg=>by
  have ih:=qt6 (fun u hu=>hl u (zo _ hu)) hg
  obtain⟨z,f⟩:=hl t (zq ..)
  have z0:decide (t.c=0)=false:=zh fun e=>by rw[e,qps]at z;cases z
  have e:qt (joW joC g (t::l))=bif zI (joC t.c (g t.id))then qt (joW joC g l)else⟨t.id,joC t.c (g t.id)⟩::qt (joW joC g l):=by
   unfold joW qt;rw[KB,KG];cases zI (joC t.c (g t.id)) <;> rfl
  rw[e,ih,qfz];unfold joC;rw[z0,zi];rcases hg t.id with h | ⟨h1,h2⟩
  · rw[h,zd rfl,zf,qps];rfl
  · have g0:decide (g t.id=0)=false:=zh fun e=>by rw[e,qps]at h1;cases h1
    rw[g0,zi,zi,qt5 f h2];cases decide (Int.fdiv t.c (2^63)=Int.fdiv (g t.id) (2^63))with
    | false=>rw[zX,zf,zf,qps];rfl
    | true=>
     rw[Kf,zi,zi];cases decide (0<jZ (Qi t.c).toNat (Qi (g t.id)).toNat)with
     | true=>rw[zf,h1];rfl
     | false=>rw[zi,z];rfl
abbrev rjS(r1 r2:List T)(b0:Bool)(m0:Int)(n0 n1:Nat)(e0:Int)(x y:Rf)(b1:Bool)(m1 e1:Int)(i:Int)(B:List Tm):Int×((List T)×(List T)×Bool×Int×Nat×Nat×Int×Bool×Int×(List Int)×(List Int)×Int×Bool×Int×(List Int)×(List Int)×Int×Bool×Int×Nat×Nat×Int×(List T)×(List T)×Unit) :=
 (i,r1,r2,b0,m0,n0,n1,e0,x.1,x.2.1,x.2.2.1,x.2.2.2.1,x.2.2.2.2,y.1,y.2.1,y.2.2.1,y.2.2.2.1,y.2.2.2.2,b1,m1,B.length,B.length,e1,(B.map Tm.id).map e3,(B.map Tm.c).map e2,())
theorem qaV(r1 r2:List T)(b0:Bool)(m0:Int)(n0 n1:Nat)(e0:Int)(a b:Fm)(b1:Bool)(m1 e1:Int)(hl:a.2.2.1.length≤500000000000):∀(rest A B:List Tm),A++rest=a.2.2.1→B.length≤A.length →
 ∃n,itP n j9 (rjS r1 r2 b0 m0 n0 n1 e0 (ofF a) (ofF b) b1 m1 e1 (A.length:Int) B)=some (rjS r1 r2 b0 m0 n0 n1 e0 (ofF a) (ofF b) b1 m1 e1 (a.2.2.1.length:Int) (B++joG (atN b.2.2.1) rest))
 | [],A,B,hA,hB=>by
  rw[zD]at hA;rw[← hA];refine⟨1,?_⟩
  have t:decide ((A.length:Int)<(((ofF a).2.2.1.length:Nat):Int))=false:=zh (by
   show¬(A.length:Int)<((a.2.2.1.map Tm.id).length:Nat)
   rw[zn,← hA];omega)
  rw[qu];simp only[j9,t,zi,joG,zD];rfl
 | t::rest,A,B,hA,hB=>by
  have hNl:A.length+(rest.length+1)=a.2.2.1.length:=by rw[← hA];simp
  have hi:idx (ofF a).2.2.1 (A.length:Int)=some t.id:=by
   show idx (a.2.2.1.map Tm.id) _=_
   rw[← hA];exact jA Tm.id A t rest
  have hc:idx (ofF a).2.2.2.1 (A.length:Int)=some t.c:=by
   show idx (a.2.2.1.map Tm.c) _=_
   rw[← hA];exact jA Tm.c A t rest
  have hlt:decide ((A.length:Int)<(((ofF a).2.2.1.length:Nat):Int))=true:=zd (by
   show(A.length:Int)<((a.2.2.1.map Tm.id).length:Nat)
   rw[zn];omega)
  have hw:IntKind.i64.wrap ((A.length:Int)+1)=(((A++[t]).length:Nat):Int):=by rw[w64 (by omega) (by omega)];simp
  have rb:qb6 (((ofF b).1,(ofF b).2.1,(ofF b).2.2.1,(ofF b).2.2.2.1,(ofF b).2.2.2.2),t.id)=some (atN b.2.2.1 t.id):=qmn b t.id
  have rb':qb6 (ofF b,t.id)=some (atN b.2.2.1 t.id):=qmn b t.id
  have hb:Nat.ble (B.length+1) 549755813888=true:=zB (by omega)
  have d1:∀u:Tm,(B.map Tm.id).map e3++[T.s (.int .i64 u.id)]=((B++[u]).map Tm.id).map e3:=fun u=>by rw[zU,zU];rfl
  have d2:∀u:Tm,(B.map Tm.c).map e2++[T.s (.int .u64 u.c)]=((B++[u]).map Tm.c).map e2:=fun u=>by rw[zU,zU];rfl
  have l1:((B.map Tm.id).map e3).length=B.length:=by rw[zn,zn]
  have l2:((B.map Tm.c).map e2).length=B.length:=by rw[zn,zn]
  have l3:∀u:Tm,(((B++[u]).map Tm.id).map e3).length=(B++[u]).length:=fun u=>by rw[zn,zn]
  have l4:∀u:Tm,(((B++[u]).map Tm.c).map e2).length=(B++[u]).length:=fun u=>by rw[zn,zn]
  have same:∀R,joG (atN b.2.2.1) (t::rest)=R→(∃n,itP n j9 (rjS r1 r2 b0 m0 n0 n1 e0 (ofF a) (ofF b) b1 m1 e1 (A.length:Int) B)=some (rjS r1 r2 b0 m0 n0 n1 e0 (ofF a) (ofF b) b1 m1 e1 (a.2.2.1.length:Int) (B++R)))→∃n,itP n j9 (rjS r1 r2 b0 m0 n0 n1 e0 (ofF a) (ofF b) b1 m1 e1 (A.length:Int) B)=some (rjS r1 r2 b0 m0 n0 n1 e0 (ofF a) (ofF b) b1 m1 e1 (a.2.2.1.length:Int) (B++joG (atN b.2.2.1) (t::rest))):=fun R h h'=>by rw[h];exact h'
  refine same _ rfl ?_
  have skip:(∃n,itP n j9 (rjS r1 r2 b0 m0 n0 n1 e0 (ofF a) (ofF b) b1 m1 e1 ((A++[t]).length:Int) B)=some (rjS r1 r2 b0 m0 n0 n1 e0 (ofF a) (ofF b) b1 m1 e1 (a.2.2.1.length:Int) (B++joG (atN b.2.2.1) rest))) :=
   qaV r1 r2 b0 m0 n0 n1 e0 a b b1 m1 e1 hl rest (A++[t]) B (by rw[← hA];simp) (by simp;omega)
  have take:∀u:Tm,(∃n,itP n j9 (rjS r1 r2 b0 m0 n0 n1 e0 (ofF a) (ofF b) b1 m1 e1 ((A++[t]).length:Int) (B++[u]))=some (rjS r1 r2 b0 m0 n0 n1 e0 (ofF a) (ofF b) b1 m1 e1 (a.2.2.1.length:Int) (B++u::joG (atN b.2.2.1) rest))):=fun u=>by
   have:=qaV r1 r2 b0 m0 n0 n1 e0 a b b1 m1 e1 hl rest (A++[t]) (B++[u]) (by rw[← hA];simp) (by simp;omega)
   rwa [zM,V9]at this
  rw[qfz];cases g1:decide (atN b.2.2.1 t.id=0)with
  | true=>
   obtain⟨n,h⟩:=skip;refine⟨n+1,?_⟩
   rw[qu];simp only[j9,rjS,hi,hc,hlt,rb,rb',g1,zf,zj,hw];exact h
  | false=>
   cases g2:decide (Int.fdiv t.c (2^63)=Int.fdiv (atN b.2.2.1 t.id) (2^63))with
   | false=>
    obtain⟨n,h⟩:=skip;refine⟨n+1,?_⟩
    rw[qu];simp only[j9,rjS,hi,hc,hlt,rb,rb',g1,g2,zf,zi,zX,zj,hw];exact h
   | true=>
    cases g3:decide (0<jZ (Qi t.c).toNat (Qi (atN b.2.2.1 t.id)).toNat)with
    | true=>
     obtain⟨n,h⟩:=take ⟨t.id,atN b.2.2.1 t.id⟩
     refine⟨n+1,?_⟩
     rw[qu];have d1:=d1 ⟨t.id,atN b.2.2.1 t.id⟩
     have d2:=d2 ⟨t.id,atN b.2.2.1 t.id⟩
     have l3:=l3 ⟨t.id,atN b.2.2.1 t.id⟩
     have l4:=l4 ⟨t.id,atN b.2.2.1 t.id⟩
     simp only[]at d1 d2;simp only[j9,rjS,hi,hc,hlt,rb,rb',g1,g2,g3,zf,zi,Kf,zj,hw,d1,d2,l1,l2,l3,l4,qH,zW,Kz,hb];exact h
    | false=>
     obtain⟨n,h⟩:=take ⟨t.id,t.c⟩
     refine⟨n+1,?_⟩
     rw[qu];have d1:=d1 ⟨t.id,t.c⟩
     have d2:=d2 ⟨t.id,t.c⟩
     have l3:=l3 ⟨t.id,t.c⟩
     have l4:=l4 ⟨t.id,t.c⟩
     simp only[]at d1 d2;simp only[j9,rjS,hi,hc,hlt,rb,rb',g1,g2,g3,zf,zi,Kf,zj,hw,d1,d2,l1,l2,l3,l4,qH,zW,Kz,hb];exact h
theorem qiT(g:Int→Int):∀l:List Tm,(joG g l).length≤l.length
 | []=>zE _
 | t::l=>by
  have:=qiT g l
  rw[qfz];cases decide (g t.id=0) <;> cases decide (Int.fdiv t.c (2^63)=Int.fdiv (g t.id) (2^63)) <;> simp <;> omega
noncomputable def Js(a b:Fm):Fm:=bif okF a&&okF b then yY (false,jP a.2.1 b.2.1,joG (atN b.2.2.1) a.2.2.1,gtD (Yo a (joG (atN b.2.2.1) a.2.2.1) (jP a.2.1 b.2.1)) (Yo b (joG (atN b.2.2.1) a.2.2.1) (jP a.2.1 b.2.1)))else qaS
noncomputable def qca(p:Rf×Rf):Option Rf:=bif okR p.1&&okR p.2 then some (ofF (Js (toF p.1) (toF p.2)))else none
theorem qt7{a b:Fm}(ha:a.2.2.1.length≤500000000000)(hb:b.2.2.1.length≤500000000000):qca (ofF a,ofF b)=some (ofF (Js a b)):=by
 unfold qca;simp only[];rw[qfq ha,qfq hb,QM,QM];rfl
theorem qt8(p:Rf×Rf)(y:Rf)(hg:(dc cRf (d1 cRf)).good p)(h:qca p=some y):∃n,qkP n p.1 p.2=some y:=by
 obtain⟨x,z⟩:=p;obtain⟨hc,h2⟩:=qj h;have:=soi h2;subst this
 clear hg h h2;rw[zl]at hc;refine onR (P:=fun x=>∃n,qkP n x z=some (ofF (Js (toF x) (toF z)))) (fun a hla=>?_) hc.1
 refine onR (P:=fun z=>∃n,qkP n (ofF a) z=some (ofF (Js (toF (ofF a)) (toF z)))) (fun b hlb=>?_) hc.2
 rw[QM,QM];obtain⟨n,q⟩:=qaV [] [] false 0 0 0 0 a b false (jP a.2.1 b.2.1) 0 hla a.2.2.1 [] [] rfl (zE _)
 refine⟨n,?_⟩
 unfold qkP Js;refine obs (qb8 a) (obs (qb8 b) ?_)
 have c1:∀c:Fm,(ofF (bif yn c then c else qaS)).1 = !okF c:=fun c=>by
  rcases yi c with⟨h1,h2⟩ | ⟨h1,h2,h3,_⟩ | ⟨h1,h2,h3⟩
  · rw[h1,h2];rfl
  · rw[h1,h2];exact h3
  · rw[h1,h2];exact h3
 rw[c1 a,c1 b];cases oa:okF a with
 | false=>rfl
 | true=>
  cases ob:okF b with
  | false=>rfl
  | true=>
   have ma:yn a=true:=by
    rcases yi a with⟨h1,_⟩ | ⟨h1,_⟩ | ⟨_,h2,_⟩
    · rw[oa]at h1;cases h1
    · rw[oa]at h1;cases h1
    · exact h2
   have mb:yn b=true:=by
    rcases yi b with⟨h1,_⟩ | ⟨h1,_⟩ | ⟨_,h2,_⟩
    · rw[ob]at h1;cases h1
    · rw[ob]at h1;cases h1
    · exact h2
   rw[ma,mb];have fa:a.1=false:=by
    rcases yi a with⟨h1,_⟩ | ⟨h1,_⟩ | ⟨_,_,h2⟩
    · rw[oa]at h1;cases h1
    · rw[oa]at h1;cases h1
    · exact h2
   have fb:b.1=false:=by
    rcases yi b with⟨h1,_⟩ | ⟨h1,_⟩ | ⟨_,_,h2⟩
    · rw[ob]at h1;cases h1
    · rw[ob]at h1;cases h1
    · exact h2
   clear c1 oa ob ma mb hc;obtain⟨ab,am,al,ae⟩:=a;obtain⟨bb,bm,bl,be⟩:=b;have fa:ab=false:=fa
   have fb:bb=false:=fb
   subst fa fb
   simp only[Kf,zi,zf,zW]at *
   have hjl:=qiT (atN bl) al
   generalize hJ:joG (atN bl) al=J at *
   refine obs q ?_
   simp only[Ka,rjS];have fm:∀e:Int,(false,jP am bm,J.map Tm.id,J.map Tm.c,e)=ofF (false,jP am bm,J,e):=fun _=>rfl
   have hd:∀e:Int,qaf (ofF (false,jP am bm,J,e))=some (ofF (yY (false,jP am bm,J,e))):=fun e=>qkI (a:=(false,jP am bm,J,e)) (by simp only[];omega)
   have m1:=qkO (a:=(false,am,al,ae)) (j:=(false,jP am bm,J,0)) hla (by simp only[];omega)
   have m2:=qkO (a:=(false,bm,bl,be)) (j:=(false,jP am bm,J,0)) hlb (by simp only[];omega)
   simp only[]at m1 m2;refine obs (jF _ _ (by simp)) (obs (jF _ _ (by simp)) (obs (jF _ _ (by simp)) (obs (jF _ _ (by simp)) ?_)))
   refine obs (t:=Yo (false,am,al,ae) J (jP am bm)) (obs (obs (obs (obs (obs (yD (J.map Tm.id)) (obs (obs (Qj (J.map Tm.c)) rfl) rfl)) rfl) rfl) rfl) m1) ?_
   refine obs (t:=Yo (false,bm,bl,be) J (jP am bm)) (obs (obs (obs (obs (obs (yD (J.map Tm.id)) (obs (obs (Qj (J.map Tm.c)) rfl) rfl)) rfl) rfl) rfl) m2) ?_
   unfold gtD;cases decide (jZ (Yo (false,am,al,ae) J (jP am bm)).toNat (Yo (false,bm,bl,be) J (jP am bm)).toNat<0)with
   | true=>exact obs (obs (obs (obs (obs (yD (J.map Tm.id)) (obs (obs (Qj (J.map Tm.c)) rfl) rfl)) rfl) rfl) (hd _)) rfl
   | false=>exact obs (obs (obs (obs (obs (yD (J.map Tm.id)) (obs (obs (Qj (J.map Tm.c)) rfl) rfl)) rfl) rfl) (hd _)) rfl
end
end Su
end
