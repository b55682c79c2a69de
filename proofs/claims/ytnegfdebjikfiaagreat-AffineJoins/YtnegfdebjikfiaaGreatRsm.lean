/-
  Bits and rounding, in plain Lean. No condition.
-/
import Derived.Test.YtnegfdebjikfiaaGreatND12
import Derived.Test.YtnegfdebjikfiaaGreatNC19
import Derived.Test.YtnegfdebjikfiaaGreatSuXl
import Derived.Test.YtnegfdebjikfiaaGreatND13
import Derived.Test.YtnegfdebjikfiaaGreatNC31
import Derived.Test.YtnegfdebjikfiaaGreatNC14
set_option linter.unusedVariables false
set_option linter.unusedSimpArgs false
set_option maxRecDepth 10000
section
namespace Su
open Go Fly
theorem kV_1:kV 1=1:=by
 have:=qjW (q:=0) (w:=1) (by omega) (.inr rfl)
 simpa using this
theorem qAd{neg:Bool}{mode:Int}{M E:Nat}{rest:Bool}(hM:M≠0)(hE:SH≤E):qB (bK (RN neg mode M E rest))=false∧bK (RN neg mode M E rest)≠0:=by
 have hf:1≤qp M E:=by
  refine(qru hM).1 ?_
  rw[kV_1,Vq];have h1:2^SH≤2^E:=KK (by omega) hE
  have h2:=Va (show 1≤M by omega) h1
  omega
 unfold RN;rw[Qy hM,zi];generalize (upN neg mode (qO M E % 2 == 1) (hfN M E) (rest||rsN M E)).toNat=u
 have h1:=qit (twN neg mode) (qp M E+u)
 have h2:1≤Jn (twN neg mode) (qp M E+u):=by
  unfold Jn qU;cases h:Nat.ble (qp M E+u) 9218868437227405311 with
  | true=>rw[zf];omega
  | false=>cases twN neg mode <;> simp
 rw[(qEs (by omega)).1];exact⟨qE.2 h1,by omega⟩
def Cln(r:Nat):Prop:=r=9221120237041090560∨r=0∨(qB (bK r)=false∧bK r≠0)
theorem qkH{nx ny:Bool}{X Y D:Nat}{ey:Int}(hX:X≠0)(he : -1074≤ey)(hle:Y≤2^D*X):Cln (qcP nx ny 1 X Y D ey):=by
 have hD:=Va (zJ D) (show 1≤X by omega)
 unfold qcP;by_cases h:nx=ny
 · rw[zR h]
   exact .inr (.inr (qAd (by omega) (by rw[qbx];omega)))
 · rw[zP h]
   by_cases h1:2^D*X=Y
   · rw[zR h1];exact .inr (.inl rfl)
   · rw[zP h1]
     exact .inr (.inr (qAd (by omega) (by rw[qbx];omega)))
theorem qfp{i j:Nat}(hi:i≤9218868437227405311)(hj:j≤9218868437227405311)(h:kE j<kE i∨kE j=kE i∧kM j≤kM i):kM j≤2^(kE i-kE j)*kM i:=by
 obtain⟨a1,a2,a3,a4⟩:=q9 hi;obtain⟨b1,b2,b3,b4⟩:=q9 hj;rcases h with h | ⟨h1,h2⟩
 · have hp:2^1≤2^(kE i-kE j):=KK (by omega) (by omega)
   have h4:=a4 (by omega)
   have:=Va hp h4
   omega
 · rw[h1,Vv,KH,Vq];exact h2
theorem qtH{a b:Nat}(ha:a<18446744073709551616)(hm:a≠9223372036854775808):Cln (yg a b 1):=by
 unfold yg;cases h1:qB (bK a)with
 | true=>exact .inl rfl
 | false=>
 cases h2:qB (bK b)with
 | true=>exact .inl rfl
 | false=>
 have h1':=qE.1 h1;have h2':=qE.1 h2;have cla:∀ {f:Nat},qB (bK f)=false→bK f≠0→Cln f:=fun h1 h2=>.inr (.inr ⟨h1,h2⟩)
 have nzi:∀ {f:Nat},qQ (bK f)=true→bK f≠0:=fun h e=>by rw[e]at h;exact absurd h (by decide)
 simp only[zi];cases h3:qQ (bK a)with
 | true=>
  cases h4:qQ (bK b)with
  | true=>
   cases decide (bS a=bS b)with
   | true=>exact cla h1 (nzi h3)
   | false=>exact .inl rfl
  | false=>exact cla h1 (nzi h3)
 | false=>
 cases h4:qQ (bK b)with
 | true=>exact cla h2 (nzi h4)
 | false=>
 have i3:bK a≠9218868437227405312:=fun e=>by unfold qQ at h3;rw[e]at h3;simp at h3
 have i4:bK b≠9218868437227405312:=fun e=>by unfold qQ at h4;rw[e]at h4;simp at h4
 have fa:bK a≤9218868437227405311:=by omega
 have fb:bK b≤9218868437227405311:=by omega
 simp only[zi,Kh];cases h5:Nat.beq (bK a) 0 with
 | true=>
  have z:=zk h5;have a0:a=0:=by unfold bK at z;omega
  cases h6:Nat.beq (bK b) 0 with
  | true=>
   cases decide (bS a=bS b)with
   | true=>exact .inr (.inl a0)
   | false=>exact .inr (.inl rfl)
  | false=>
   show Cln b
   exact cla h2 (fun e=>by rw[e]at h6;simp at h6)
 | false=>
 have za:bK a≠0:=fun e=>by rw[e]at h5;simp at h5
 cases h6:Nat.beq (bK b) 0 with
 | true=>
  show Cln a
  exact cla h1 za
 | false=>
 have zb:bK b≠0:=fun e=>by rw[e]at h6;simp at h6
 have k1:=(q9 fa).2.1 za
 have k2:=(q9 fb).2.1 zb
 simp only[zi,Kh];unfold Zy qfQ;by_cases h:kE (bK a)<kE (bK b)∨kE (bK a)=kE (bK b)∧kM (bK a)<kM (bK b)
 · have hs:(decide (kE (bK a)<kE (bK b))||(decide (kE (bK a)=kE (bK b))&&decide (kM (bK a)<kM (bK b))))=true:=by
    rw[← WK,← Bool.decide_or];exact zd h
   rw[hs,zf];exact qkH (by omega) (by omega) (qfp fb fa (by omega))
 · have hs:(decide (kE (bK a)<kE (bK b))||(decide (kE (bK a)=kE (bK b))&&decide (kM (bK a)<kM (bK b))))=false:=by
    rw[← WK,← Bool.decide_or];exact zh h
   rw[hs,zi];exact qkH (by omega) (by omega) (qfp fa fb (by omega))
theorem qtI{a:Nat}(h:Cln a):yg 0 a 1=a:=by
 rcases h with rfl | rfl | ⟨h1,h2⟩
 · rfl
 · rfl
 · have h3:Nat.beq (bK a) 0=false:=Qy h2
   have e1:qB (bK 0)=false:=rfl
   have e2:qQ (bK 0)=false:=rfl
   have e3:Nat.beq (bK 0) 0=true:=rfl
   unfold yg;rw[e1,e2,e3,h1,h3];simp only[zi,zf,Kh,zK];cases qQ (bK a) <;> rfl
def Cle(e:Int):Prop:=j0 e∧e≠9223372036854775808∧qJ 0 e 1=e
theorem qiP{x y:Int}(wx:j0 x)(wy:j0 y)(hx:x≠9223372036854775808):Cle (qJ x y 1):=by
 have w:=qe8 wx wy 1
 obtain⟨X,rfl,hX⟩:=wx;have hc:Cln (yg X y.toNat 1):=qtH hX (by omega)
 refine⟨w,?_,?_⟩
 · unfold qJ
   rw[jX,zm];generalize yg X y.toNat 1=r at *
   rcases hc with rfl | rfl | ⟨h1,h2⟩
   · omega
   · omega
   · intro e
     have:r=9223372036854775808:=by omega
     subst this;exact h2 rfl
 · have h:=qtI hc
   unfold qJ;rw[jX,jX];simp only[zm];rw[show(0:Int).toNat=0 from rfl,h]
theorem qCF{e s:Int}(h:Cle e)(w:j0 s):upI [e,s]=qJ e s 1∧Cle (qJ e s 1):=by
 refine⟨?_,qiP h.1 w h.2.1⟩
 have:upI [e,s]=qJ (qJ 0 e 1) s 1:=rfl
 rw[this,h.2.2]
theorem wd_0:j0 0:=⟨0,rfl,by omega⟩
end Su
end
section
namespace Su
open Go Fly
noncomputable section
def qpQ  (a:(Bool×Int×(List Int)×(List Int)×Int)):Option (Bool×Int×(List Int)×(List Int)×Int) :=
 (qfo (a.1,a.2.1,a.2.2.1,a.2.2.2.1,a.2.2.2.2)).bind fun x0=>
 (bif(!x0)then
 some (true,(0:Int),[],[],(0:Int))
 else
  some (a.1,a.2.1,a.2.2.1,a.2.2.2.1,a.2.2.2.2))
def okR(x:Rf):Bool:=eqL x&&Nat.ble x.2.2.1.length 500000000000
theorem qfq{a:Fm}(h:a.2.2.1.length≤500000000000):okR (ofF a)=true:=by
 unfold okR;rw[qiO,zK];refine zB ?_
 show(a.2.2.1.map Tm.id).length≤_
 rw[zn];exact h
theorem onR{P:Rf→Prop}(h:∀a:Fm,a.2.2.1.length≤500000000000→P (ofF a)){x:Rf}(hx:okR x=true):P x:=by
 unfold okR at hx;rw[zl]at hx;have hl:=zr hx.2;revert hl;refine onF (P:=fun x=>x.2.2.1.length≤500000000000→P x) (fun a hl=>h a ?_) hx.1
 have hl:(a.2.2.1.map Tm.id).length≤500000000000:=hl
 rwa [zn]at hl
def Wf(a:Fm):Prop:=j0 a.2.1∧j0 a.2.2.2∧∀t∈a.2.2.1,j0 t.c
theorem qyN(a:Fm):qfo (ofF a)=some (yn a):=by
 unfold qfo;rw[qiO,QM];rfl
theorem qmn(a:Fm)(i:Int):qb6 (ofF a,i)=some (atN a.2.2.1 i):=by
 unfold qb6;simp only[qiO,QM];rfl
theorem qkI{a:Fm}(h:a.2.2.1.length≤549755813888):qaf (ofF a)=some (ofF (qdy a)):=by
 unfold qaf;have hb:Nat.ble (ofF a).2.2.1.length 549755813888=true:=by
  refine zB ?_
  show(a.2.2.1.map Tm.id).length≤_
  rw[zn];exact h
 rw[qiO,hb,QM];rfl
theorem qyO{a:Fm}(hb:a.1=true)(hm:yn a=true):a=qaS:=by
 obtain⟨b,m,l,e⟩:=a;simp only[]at hb;subst hb;rw[qbJ,zf]at hm;simp only[zl,zy,List.isEmpty_iff]at hm;obtain⟨rfl,rfl,rfl⟩:=hm;rfl
theorem yi(a:Fm):(okF a=false∧yn a=false)∨(okF a=false∧yn a=true∧a.1=true∧a=qaS)∨(okF a=true∧yn a=true∧a.1=false):=by
 cases hm:yn a with
 | false=>exact .inl ⟨by unfold okF;rw[hm];cases a.1 <;> rfl,rfl⟩
 | true=>
  cases hb:a.1 with
  | true=>exact .inr (.inl ⟨by unfold okF;rw[hb];rfl,rfl,rfl,qyO hb hm⟩)
  | false=>exact .inr (.inr ⟨by unfold okF;rw[hb,hm];rfl,rfl,rfl⟩)
end
end Su
end
section
namespace Su
open Go Fly
noncomputable section
def qiQ:Stp (Int×Bool×Int×(List Tm)×Int×(List T)×(List T)×Bool×Int×Nat×Nat×Int×(List T)×(List T)×Bool×Int×Nat×Nat×Int×Unit):=fun p0=>(bif(decide (p0.1<(List.length p0.2.2.2.1:Int)))then
 (idx p0.2.2.2.1 p0.1).bind fun x1=>
 (bif((true&&(Nat.beq p0.2.2.2.2.2.2.2.2.2.2.2.2.2.2.2.2.1 p0.2.2.2.2.2.2.2.2.2.2.2.2.1.length))&&(Nat.ble (p0.2.2.2.2.2.2.2.2.2.2.2.2.1.length+(List.length [(T.s (.int .i64 (Tm.id x1)))])) 549755813888))then
 (idx p0.2.2.2.1 p0.1).bind fun x2=>
 (bif((true&&(Nat.beq p0.2.2.2.2.2.2.2.2.2.2.2.2.2.2.2.2.2.1 p0.2.2.2.2.2.2.2.2.2.2.2.2.2.1.length))&&(Nat.ble (p0.2.2.2.2.2.2.2.2.2.2.2.2.2.1.length+(List.length [(T.s (.int .u64 (Tm.c x2)))])) 549755813888))then
 some (.inl ((IntKind.wrap .i64 (p0.1+1)),p0.2.1,p0.2.2.1,p0.2.2.2.1,p0.2.2.2.2.1,p0.2.2.2.2.2.1,p0.2.2.2.2.2.2.1,p0.2.2.2.2.2.2.2.1,p0.2.2.2.2.2.2.2.2.1,p0.2.2.2.2.2.2.2.2.2.1,p0.2.2.2.2.2.2.2.2.2.2.1,p0.2.2.2.2.2.2.2.2.2.2.2.1,(p0.2.2.2.2.2.2.2.2.2.2.2.2.1++[(T.s (.int .i64 (Tm.id x1)))]),(p0.2.2.2.2.2.2.2.2.2.2.2.2.2.1++[(T.s (.int .u64 (Tm.c x2)))]),p0.2.2.2.2.2.2.2.2.2.2.2.2.2.2.1,p0.2.2.2.2.2.2.2.2.2.2.2.2.2.2.2.1,(List.length (p0.2.2.2.2.2.2.2.2.2.2.2.2.1++[(T.s (.int .i64 (Tm.id x1)))])),(List.length (p0.2.2.2.2.2.2.2.2.2.2.2.2.2.1++[(T.s (.int .u64 (Tm.c x2)))])),p0.2.2.2.2.2.2.2.2.2.2.2.2.2.2.2.2.2.2.1,()))
 else none)
 else none)
 else
  some (.inr (p0.1,p0.2.1,p0.2.2.1,p0.2.2.2.1,p0.2.2.2.2.1,p0.2.2.2.2.2.1,p0.2.2.2.2.2.2.1,p0.2.2.2.2.2.2.2.1,p0.2.2.2.2.2.2.2.2.1,p0.2.2.2.2.2.2.2.2.2.1,p0.2.2.2.2.2.2.2.2.2.2.1,p0.2.2.2.2.2.2.2.2.2.2.2.1,p0.2.2.2.2.2.2.2.2.2.2.2.2.1,p0.2.2.2.2.2.2.2.2.2.2.2.2.2.1,p0.2.2.2.2.2.2.2.2.2.2.2.2.2.2.1,p0.2.2.2.2.2.2.2.2.2.2.2.2.2.2.2.1,p0.2.2.2.2.2.2.2.2.2.2.2.2.2.2.2.2.1,p0.2.2.2.2.2.2.2.2.2.2.2.2.2.2.2.2.2.1,p0.2.2.2.2.2.2.2.2.2.2.2.2.2.2.2.2.2.2.1,())))
def lOf  (fu:Nat)(a:Fm):Option (Bool×Int×(List Int)×(List Int)×Int) :=
 (itP fu (qiQ) ((0:Int),a.1,a.2.1,a.2.2.1,a.2.2.2,[],[],false,(0:Int),0,0,(0:Int),[],[],a.1,a.2.1,0,0,a.2.2.2,())).bind fun x3=>
 (Su.sub x3.2.2.2.2.2.2.2.2.2.2.2.2.1 0 x3.2.2.2.2.2.2.2.2.2.2.2.2.2.2.2.2.1).bind fun x4=>
 (Su.sub x3.2.2.2.2.2.2.2.2.2.2.2.2.2.1 0 x3.2.2.2.2.2.2.2.2.2.2.2.2.2.2.2.2.2.1).bind fun x5=>
 (((qI 3 x4).bind fun x6=>
 ((qI 2 x5).bind fun x7=>
 some (x7,x3.2.2.2.2.2.2.2.2.2.2.2.2.2.2.2.2.2.2.1)).bind fun x8=>
 some (x6,x8)).bind fun x9=>
 some (x3.2.2.2.2.2.2.2.2.2.2.2.2.2.2.2.1,x9)).bind fun x10=>
 some (x3.2.2.2.2.2.2.2.2.2.2.2.2.2.2.1,x10)
def qiR:(Int×Bool×Int×(List Tm)×Int×Bool×Int×(List Int)×(List Int)×Int×Unit)→Option ((Int×Bool×Int×(List Tm)×Int×Bool×Int×(List Int)×(List Int)×Int×Unit) ⊕ (Lp (Int×Bool×Int×(List Tm)×Int×Bool×Int×(List Int)×(List Int)×Int×Unit) Bool)):=fun p0=>(bif(decide (p0.1<(List.length p0.2.2.2.1:Int)))then
 (idx p0.2.2.2.1 p0.1).bind fun x1=>
 (idx p0.2.2.2.2.2.2.2.1 p0.1).bind fun x2=>
 (bif(!(decide ((Tm.id x1)=x2)))then
 some (.inr (.ret false))
 else
  (idx p0.2.2.2.1 p0.1).bind fun x3=>
  (idx p0.2.2.2.2.2.2.2.2.1 p0.1).bind fun x4=>
  (bif(!(decide ((Tm.c x3)=x4)))then
  some (.inr (.ret false))
 else
  some (.inl ((IntKind.wrap .i64 (p0.1+1)),p0.2.1,p0.2.2.1,p0.2.2.2.1,p0.2.2.2.2.1,p0.2.2.2.2.2.1,p0.2.2.2.2.2.2.1,p0.2.2.2.2.2.2.2.1,p0.2.2.2.2.2.2.2.2.1,p0.2.2.2.2.2.2.2.2.2.1,()))))
 else
  some (.inr (.exit 0 (p0.1,p0.2.1,p0.2.2.1,p0.2.2.2.1,p0.2.2.2.2.1,p0.2.2.2.2.2.1,p0.2.2.2.2.2.2.1,p0.2.2.2.2.2.2.2.1,p0.2.2.2.2.2.2.2.2.1,p0.2.2.2.2.2.2.2.2.2.1,()))))
def lIs  (fu:Nat)(a:Fm)(f:(Bool×Int×(List Int)×(List Int)×Int)):Option Bool :=
 (bif(!(decide (a.1=f.1)))then
 some false
 else
  (bif(!(decide (a.2.1=f.2.1)))then
  some false
 else
  (bif(!(decide (a.2.2.2=f.2.2.2.2)))then
  some false
 else
  (bif(!(decide ((List.length a.2.2.1:Int)=(List.length f.2.2.1:Int))))then
  some false
 else
  (itP fu (qiR) ((0:Int),a.1,a.2.1,a.2.2.1,a.2.2.2,f.1,f.2.1,f.2.2.1,f.2.2.2.1,f.2.2.2.2,())).bind fun x5=>
  (match x5 with
 | .exit i6 p7=>(bif(Nat.beq i6 0)then
  some true
 else none)
 | .ret o8=>some o8)))))
def qfr(a:Fm):Option Rf:=bif Nat.ble a.2.2.1.length 500000000000 then some (ofF a)else none
theorem qob(b b1 b2:Bool)(m m1 m2 e e1 e3':Int)(r1 r2:List T)(n1 n2:Nat)(l:List Tm)(hl:l.length≤500000000000):∀(rest A:List Tm),A++rest=l →
 ∃n,itP n qiQ ((A.length:Int),b,m,l,e,r1,r2,b1,m1,n1,n2,e1,(A.map Tm.id).map e3,(A.map Tm.c).map e2,b2,m2,A.length,A.length,e3',()) =
  some ((l.length:Int),b,m,l,e,r1,r2,b1,m1,n1,n2,e1,(l.map Tm.id).map e3,(l.map Tm.c).map e2,b2,m2,l.length,l.length,e3',())
 | [],A,hA=>by
  rw[zD]at hA;subst hA;refine⟨1,?_⟩
  have t:∀k:Nat,decide ((k:Int)<(k:Int))=false:=fun k=>zh (by omega)
  rw[qu];simp only[qiQ,t,zi];rfl
 | t::rest,A,hA=>by
  have hNl:A.length+(rest.length+1)=l.length:=by rw[← hA];simp
  have hi:idx l (A.length:Int)=some t:=by
   have:=jA (fun x:Tm=>x) A t rest
   rw[List.map_id',hA]at this;exact this
  have hlt:decide ((A.length:Int)<((l.length:Nat):Int))=true:=zd (by omega)
  have hw:IntKind.i64.wrap ((A.length:Int)+1)=(((A++[t]).length:Nat):Int):=by rw[w64 (by omega) (by omega)];simp
  have hb:Nat.ble (A.length+1) 549755813888=true:=zB (by omega)
  have d1:(A.map Tm.id).map e3++[T.s (.int .i64 t.id)]=((A++[t]).map Tm.id).map e3:=by rw[zU,zU];rfl
  have d2:(A.map Tm.c).map e2++[T.s (.int .u64 t.c)]=((A++[t]).map Tm.c).map e2:=by rw[zU,zU];rfl
  have l1:((A.map Tm.id).map e3).length=A.length:=by rw[zn,zn]
  have l2:((A.map Tm.c).map e2).length=A.length:=by rw[zn,zn]
  have l3:(((A++[t]).map Tm.id).map e3).length=(A++[t]).length:=by rw[zn,zn]
  have l4:(((A++[t]).map Tm.c).map e2).length=(A++[t]).length:=by rw[zn,zn]
  obtain⟨n,h⟩:=qob b b1 b2 m m1 m2 e e1 e3' r1 r2 n1 n2 l hl rest (A++[t]) (by rw[← hA];simp)
  refine⟨n+1,?_⟩
  rw[qu];simp only[qiQ,hi,hlt,zf,zj,hw,d1,d2,l1,l2,l3,l4,qH,zW,Kz,hb];exact h
theorem qCG(a:Fm)(y:Rf)(hg:(d1 jC).good a)(h:qfr a=some y):∃n,lOf n a=some y:=by
 obtain⟨b,m,l,e⟩:=a;obtain⟨h1,h2⟩:=qj h;have:=soi h2;subst this
 have hl:l.length≤500000000000:=zr h1
 obtain⟨n,q⟩:=qob b false b m 0 m e 0 e [] [] 0 0 l hl l [] rfl
 refine⟨n,?_⟩
 unfold lOf;refine obs q ?_
 refine obs (jF _ _ (by simp)) (obs (jF _ _ (by simp)) ?_)
 exact obs (obs (obs (yD _) (obs (obs (Qj _) rfl) rfl)) rfl) rfl
noncomputable def qfs(p:Fm×Rf):Option Bool:=@ite _ (p.2=ofF p.1∧p.1.2.2.1.length≤500000000000) (Classical.propDecidable _) (some true) none
theorem qtJ{a:Fm}(h:a.2.2.1.length≤500000000000):qfs (a,ofF a)=some true:=by
 unfold qfs;exact zR ⟨rfl,h⟩
theorem qoc(b c:Bool)(m e k j:Int)(l:List Tm)(hl:l.length≤500000000000):∀(rest A:List Tm),A++rest=l →
 ∃n,itP n qiR ((A.length:Int),b,m,l,e,c,k,l.map Tm.id,l.map Tm.c,j,())=some (.exit 0 ((l.length:Int),b,m,l,e,c,k,l.map Tm.id,l.map Tm.c,j,()))
 | [],A,hA=>by
  rw[zD]at hA;subst hA;refine⟨1,?_⟩
  have t:∀k:Nat,decide ((k:Int)<(k:Int))=false:=fun k=>zh (by omega)
  rw[qu];simp only[qiR,t,zi];rfl
 | t::rest,A,hA=>by
  have hNl:A.length+(rest.length+1)=l.length:=by rw[← hA];simp
  have hi:idx l (A.length:Int)=some t:=by
   have:=jA (fun x:Tm=>x) A t rest
   rw[List.map_id',hA]at this;exact this
  have h1:idx (l.map Tm.id) (A.length:Int)=some t.id:=by rw[← hA];exact jA Tm.id A t rest
  have h2:idx (l.map Tm.c) (A.length:Int)=some t.c:=by rw[← hA];exact jA Tm.c A t rest
  have hlt:decide ((A.length:Int)<((l.length:Nat):Int))=true:=zd (by omega)
  have hw:IntKind.i64.wrap ((A.length:Int)+1)=(((A++[t]).length:Nat):Int):=by rw[w64 (by omega) (by omega)];simp
  obtain⟨n,h⟩:=qoc b c m e k j l hl rest (A++[t]) (by rw[← hA];simp)
  refine⟨n+1,?_⟩
  rw[qu];simp only[qiR,hi,h1,h2,hlt,zf,zj,hw,V5,Kf,zi];exact h
theorem qCH(p:Fm×Rf)(y:Bool)(hg:(dc jC (d1 cRf)).good p)(h:qfs p=some y):∃n,lIs n p.1 p.2=some y:=by
 obtain⟨a,f⟩:=p;unfold qfs at h;by_cases hc:f=ofF a∧a.2.2.1.length≤500000000000
 · rw[zR hc]at h
   have:=soi h;subst this
   obtain⟨rfl,hl⟩:=hc;obtain⟨b,m,l,e⟩:=a;obtain⟨n,q⟩:=qoc b b m e m e l hl l [] rfl
   refine⟨n,?_⟩
   have hlen:(((l.map Tm.id).length:Nat):Int)=(l.length:Int):=by rw[zn]
   unfold lIs ofF;simp only[V5,Kf,zi,hlen];exact obs q rfl
 · rw[zP hc]at h;cases h
end
end Su
end
section
namespace Su
section
variable {α:Type}
theorem qg0{x:α}:∀ {P Q P' Q':List α},P++x::Q=P'++x::Q'→x ∉ P→x ∉ P'→P=P'∧Q=Q'
 | [],Q,[],Q',h,_,_=>⟨rfl,by injection h⟩
 | [],Q,y::P',Q',h,_,h2=>by
  injection h with h3 h4
  exact absurd (by rw[h3];exact zq ..) h2
 | y::P,Q,[],Q',h,h1,_=>by
  injection h with h3 h4
  exact absurd (by rw[← h3];exact zq ..) h1
 | y::P,Q,z::P',Q',h,h1,h2=>by
  injection h with h3 h4
  obtain⟨e1,e2⟩:=qg0 h4 (fun m=>h1 (zo _ m)) (fun m=>h2 (zo _ m))
  exact⟨by rw[h3,e1],e2⟩
variable [DecidableEq α]
theorem qkJ{x:α}:∀ {l:List α},x∈l→∃P Q,l=P++x::Q∧x ∉ P
 | [],h=>by cases h
 | y::r,h=>by
  by_cases e:x=y
  · exact⟨[],r,by rw[e];rfl,by simp⟩
  · have hr:x∈r:=by
     cases h with
     | head=>exact absurd rfl e
     | tail _ h=>exact h
    obtain⟨P,Q,e1,e2⟩:=qkJ hr;exact⟨y::P,Q,by rw[e1];rfl,fun m=>by
     cases m with
     | head=>exact e rfl
     | tail _ m=>exact e2 m⟩
def YW(key:α→Int)(A P:List α)(x:α):Nat:=A.countP (fun y=>decide (key y<key x))+P.countP fun y=>decide (key y=key x)
theorem qyP{key:α→Int}{A P Q S:List α}{x:α}(hs:Srt key S)(hb:Stb key A S)(hA:A=P++x::Q)(hP:x ∉ P):∃P' Q',S=P'++x::Q'∧x ∉ P'∧P'.length=YW key A P x:=by
 obtain⟨P',Q',hS,hP'⟩:=qkJ (hb.mem.2 (show x∈A by rw[hA];simp))
 refine⟨P',Q',hS,hP',?_⟩
 have h1:=hb (key x)
 rw[hS,hA,Vk,Vk,KG,KG,zR (zd rfl),zR (zd rfl)]at h1;obtain⟨e1,-⟩:=qg0 h1 (fun m=>hP' (Vx.1 m).1) (fun m=>hP (Vx.1 m).1)
 have hp:=hb.perm;have e2:A.countP (fun y=>decide (key y<key x))=P'.countP fun y=>decide (key y<key x):=by
  rw[← hp.countP_eq,hS,List.countP_append,Wl];have hz:Q'.countP (fun y=>decide (key y<key x))=0:=List.countP_eq_zero.2 fun y hy hd=>by
   rw[hS]at hs;have:=(zH.1 (Srt.right hs)).1 y hy
   have:=Ku hd
   omega
  rw[hz];simp
 unfold YW;rw[e2,List.countP_eq_length_filter (l:=P),← e1,← List.countP_eq_length_filter];rw[hS]at hs;have hle:∀y∈P',key y≤key x:=fun y hy=>hs.both y hy x (zq ..)
 clear e1 e2 h1 hS hs hP' hA;induction P' with
 | nil=>rfl
 | cons y r ih=>
  have hy:=hle y (zq ..)
  have:=ih (fun z hz=>hle z (zo _ hz))
  rw[Wl,Wl,zw,this];by_cases h:key y<key x
  · rw[zd h,zh (show¬key y=key x by omega)];simp;omega
  · rw[zh h,zd (show key y=key x by omega)];simp;omega
theorem qpR{key:α→Int}{A P Q S:List α}{x:α}(n:Nat)(hs:Srt key S)(hb:Stb key A S)(hA:A=P++x::Q)(hP:x ∉ P)(hQ:x ∉ Q):x∈S.take n↔YW key A P x<n:=by
 obtain⟨P',Q',hS,hP',e⟩:=qyP hs hb hA hP;have hQ':x ∉ Q':=fun m=>by
  have hc:=hb.perm.count_eq x;rw[hS,hA,List.count_append,List.count_append,List.count_cons_self,List.count_cons_self,List.count_eq_zero.2 hP,List.count_eq_zero.2 hP',List.count_eq_zero.2 hQ]at hc;exact absurd (List.count_pos_iff.2 m) (by omega)
 rw[← e,hS];constructor
 · intro h
   by_cases hn:P'.length<n
   · exact hn
   · rw[VW (by omega)]at h
     exact absurd (VD h) hP'
 · intro h
   rw[WH,zF];right;obtain⟨k,hk⟩:∃k,n-P'.length=k+1:=⟨n-P'.length-1,by omega⟩
   rw[hk,List.take_succ_cons];exact zq ..
end
end Su
end
section
namespace Su
open Go Fly
theorem qg1:∀ {l:List Tm} {lo:Int},ja lo l=true→l.Pairwise fun x y=>x.id<y.id
 | [],_,_=>List.Pairwise.nil
 | a::l,lo,h=>by
  unfold ja at h;simp only[zl,Ky,zy]at h;exact zH.2 ⟨fun t ht=>qbR h.2.2.2 t ht,qg1 h.2.2.2⟩
theorem qod{l:List Tm}(h:l.Pairwise fun x y=>x.id<y.id):l.Nodup:=h.imp fun h e=>by subst e;omega
theorem qtK{l:List Tm}(h:l.Pairwise fun x y=>x.id<y.id):(l.map Tm.id).Nodup:=by
 unfold List.Nodup;rw[List.pairwise_map];exact h.imp fun h e=>by omega
theorem qmo{A:List Tm}(h:A.Pairwise fun x y=>x.id<y.id)(n:Nat):ssK Tm.id ((ssK qh A).take n)=A.filter (inK ((ssK qh A).take n)):=by
 have hd:=qtK h;have hp:=j8 qh A;have hn:A.Nodup:=qod h
 have hT:((ssK qh A).take n).Perm (A.filter (inK ((ssK qh A).take n))):=by
  refine kept (r:=(ssK qh A).drop n) hn ?_
  rw[Kv];exact hp
 have hs:Srt Tm.id (A.filter (inK ((ssK qh A).take n))):=(h.filter _).imp fun h=>Int.le_of_lt h
 have hi:(((ssK qh A).take n).map Tm.id).Nodup:=((hp.map Tm.id).nodup_iff.2 hd).sublist ((List.take_sublist _ _).map _)
 exact(ZE hs (qsJ hi hT.symm)).symm
def qkK(A P:List Tm)(x:Tm)(most:Int):Bool:=decide (((YW qh A P x:Nat):Int)<most)
theorem qtL{α:Type}[DecidableEq α]{key:α→Int}{A P Q:List α}{x:α}(hA:A=P++x::Q):YW key A P x<A.length:=by
 subst hA;unfold YW;rw[List.countP_append,Wl,zp,zw];have h1:∀R:List α,R.countP (fun y=>decide (key y<key x))≤R.length:=fun R=>List.countP_le_length
 have h2:=h1 Q;have h3:∀R:List α,R.countP (fun y=>decide (key y<key x))+R.countP (fun y=>decide (key y=key x))≤R.length:=fun R=>by
  induction R with
  | nil=>simp
  | cons y r ih=>
   rw[Wl,Wl,zw];by_cases h:key y<key x
   · rw[zd h,zh (show¬key y=key x by omega)];simp;omega
   · rw[zh h]
     cases decide (key y=key x) <;> simp <;> omega
 have h4:=h3 P;rw[zh (show¬key x<key x by omega)];simp only[Bool.false_eq_true,if_false];omega
instance:DecidableEq Tm:=fun x y=>if h:inK [y] x=true then isTrue (by have:=JE.1 h;simpa using this)else isFalse (fun e=>h (JE.2 (by rw[e];exact zq ..)))
theorem qtM{A P Q:List Tm}{x:Tm}{most:Int}(h:A.Pairwise fun x y=>x.id<y.id)(hA:A=P++x::Q):inK ((ssK qh A).take (min (max most 0) (A.length:Int)).toNat) x=qkK A P x most:=by
 have hd:A.Nodup:=qod h
 have hd':=hd;rw[hA,Vr]at hd';have hP:x ∉ P:=fun m=>hd'.2.2 x m x (zq ..) rfl
 have hQ:x ∉ Q:=(KQ.1 hd'.2.1).1
 have hr:=qpR (x:=x) (min (max most 0) (A.length:Int)).toNat (QT qh A) (YJ qh A) hA hP hQ
 have hl:=qtL (key:=qh) hA
 rw[Bool.eq_iff_iff,JE,hr];unfold qkK;rw[zy];omega
noncomputable def qdz(A:List Tm)(most:Int):List Tm→List Tm→Int→List Tm×Int
 | _,[],e=>([],e)
 | P,x::Q,e=>bif qkK A P x most then(x::(qdz A most (P++[x]) Q e).1,(qdz A most (P++[x]) Q e).2)else qdz A most (P++[x]) Q (upI [e,qcU x.c])
theorem qoe{A:List Tm}{most:Int}(h:A.Pairwise fun x y=>x.id<y.id):∀(Q P:List Tm) (e:Int),A=P++Q →
 qdz A most P Q e=(Q.filter (inK ((ssK qh A).take (min (max most 0) (A.length:Int)).toNat)),qkl (inK ((ssK qh A).take (min (max most 0) (A.length:Int)).toNat)) Q e)
 | [],_,_,_=>rfl
 | x::Q,P,e,hA=>by
  have hk:=qtM (most:=most) h hA
  have ih:=fun e'=>qoe (most:=most) h Q (P++[x]) e' (by rw[hA];simp)
  unfold qdz qkl;rw[KG,hk,ih,ih];cases qkK A P x most <;> rfl
end Su
end
section
namespace Su
section
variable {α:Type}
def qc3(key:α→Int)(A:List α)(i:Nat)(x:α)(k:Nat):Nat:=(A.take k).countP (fun y=>decide (key y<key x))+(A.take (min k i)).countP fun y=>decide (key y=key x)
theorem qEw(key:α→Int)(A:List α)(i:Nat)(x:α):qc3 key A i x 0=0:=by
 unfold qc3;rw[Nat.zero_min];rfl
theorem qEx{key:α→Int}{A:List α}{i k:Nat}{x y:α}(h:A[k]?=some y):qc3 key A i x (k+1)=qc3 key A i x k+bif decide (key y<key x)||(decide (key y=key x)&&decide (k<i))then 1 else 0:=by
 obtain⟨hk,e⟩:=zu.1 h
 have t1:A.take (k+1)=A.take k++[y]:=by rw[List.take_add_one,h];rfl
 unfold qc3;rw[t1,List.countP_append,List.countP_singleton];by_cases hi:k<i
 · have e1:min (k+1) i=k+1:=by omega
   have e2:min k i=k:=by omega
   rw[e1,e2,t1,List.countP_append,List.countP_singleton,zd hi,zL];by_cases h1:key y<key x
   · rw[zd h1,zh (show¬key y=key x by omega)];simp;omega
   · rw[zh h1]
     cases decide (key y=key x) <;> simp <;> omega
 · have e1:min (k+1) i=i:=by omega
   have e2:min k i=i:=by omega
   rw[e1,e2,zh hi,Bool.and_false,VY];cases decide (key y<key x) <;> simp <;> omega
theorem qyQ{key:α→Int}{A P Q:List α}{x:α}(hA:A=P++x::Q):qc3 key A P.length x A.length=YW key A P x:=by
 unfold qc3 YW;have e:min A.length P.length=P.length:=by rw[hA,zp];omega
 rw[WI,e]
 congr 1
 rw[hA,VU]
theorem qCI{key:α→Int}{A:List α}{i k:Nat}{x:α}:qc3 key A i x k≤2*k:=by
 unfold qc3;have h1:(A.take k).countP (fun y=>decide (key y<key x))≤(A.take k).length:=List.countP_le_length
 have h2:(A.take (min k i)).countP (fun y=>decide (key y=key x))≤(A.take (min k i)).length:=List.countP_le_length
 rw[zV]at h1 h2;omega
end
end Su
end
section
namespace Su
open Go Fly
theorem qCJ{x y:Tm}(fx:fI x.c=true)(fy:fI y.c=true):jZ (Int.toNat ((jT (Int.toNat x.c):Nat):Int)) (Int.toNat ((jT (Int.toNat y.c):Nat):Int))=qdC (-qh x) (-qh y):=by
 rw[zm,zm,YI fx,YI fy];have hn:∀c:Int,fI c=true→qB (bK (bK c.toNat))=false:=fun c h=>by
  unfold fI at h;rw[qke];exact qE.2 (by have:=qT.1 h;omega)
 have hk:∀c:Int,yf (bK c.toNat)=((bK c.toNat:Nat):Int):=fun c=>by unfold yf;rw[qzZ,qke];rfl
 unfold jZ;rw[hn _ fx,hn _ fy,hk,hk];unfold qh;rw[Int.neg_neg,Int.neg_neg];rfl
theorem qtN(x y:Tm):decide (0<qdC (-qh x) (-qh y))=decide (qh x<qh y):=by
 unfold qdC;by_cases h : -qh x < -qh y
 · rw[zd h,zf,zh (by omega),zh (by omega)]
 · rw[zh h,zi]
   by_cases h' : -qh y < -qh x
   · rw[zd h',zf,zd (by omega),zd (by omega)]
   · rw[zh h',zi,zh (by omega),zh (by omega)]
theorem qCK(x y:Tm):decide (qdC (-qh x) (-qh y)=0)=decide (qh x=qh y):=by
 unfold qdC;by_cases h : -qh x < -qh y
 · rw[zd h,zf,zh (by omega),zh (by omega)]
 · rw[zh h,zi]
   by_cases h' : -qh y < -qh x
   · rw[zd h',zf,zh (by omega),zh (by omega)]
   · rw[zh h',zi,zd (by omega),zd (by omega)]
end Su
end
section
namespace Su
open Go Fly
theorem qtO{neg:Bool}{z:Nat}(h:z<9223372036854775808):bK (sgN neg+z)=z:=by
 unfold bK sgN;cases neg with
 | true=>rw[zf];omega
 | false=>rw[zi];omega
theorem qtP(c:Bool):qB (bK (sgN c))=false:=by cases c <;> rfl
theorem qtQ(neg:Bool)(mode:Int)(M E:Nat):qB (bK (RN neg mode M E false))=false:=by
 unfold RN;cases Nat.beq M 0 with
 | true=>
  rw[zf,qtO (by omega)];rfl
 | false=>
  rw[zi];have:=qit (twN neg mode) (qp M E+(upN neg mode (qO M E % 2 == 1) (hfN M E) (false||rsN M E)).toNat)
  rw[qtO (by omega)];exact qE.2 this
theorem qtR(x y:Nat)(mode:Int):qB (bK (qfQ x y mode))=false:=by
 unfold qfQ qcP;split
 · exact qtQ _ _ _ _
 · split
   · exact qtP _
   · exact qtQ _ _ _ _
theorem qyR{a b:Nat}{mode:Int}(fa:qB (bK a)=false)(fb:bK b≤9218868437227405311):qB (bK (yg a b mode))=false:=by
 have n2:qB (bK b)=false:=qE.2 (by omega)
 have i2:qQ (bK b)=false:=by unfold qQ;rw[beq_dec];exact zh (by omega)
 unfold yg;rw[fa,n2,i2];simp only[zi,Kh,Bool.and_false];cases qQ (bK a) <;> simp only[zf,zi]
 · cases Nat.beq (bK a) 0 <;> cases Nat.beq (bK b) 0 <;> cases decide (bS a=bS b) <;> simp only[zf,zi,zK,Kh,zW]
   all_goals first | exact fa | exact n2 | exact qtP _ | (cases Zy a b <;> exact qtR _ _ _)
 · exact fa
theorem qyS{a b:Nat}(fa:qB (bK a)=false)(fb:qB (bK b)=false):qaq a b=bif decide (jZ a b<0)then b else a:=by
 unfold qaq jV qcO;rw[fa,fb];rfl
end Su
end
section
namespace Su
open Go Fly
noncomputable def qc4(g:Int→Int):List Tm→Int→Int
 | [],e=>e
 | t::l,e=>qc4 g l (bif decide (t.c=0)then e else upI [e,awI t.c (g t.id)])
theorem YX{g g':Int→Int}:∀ {l:List Tm} {e:Int},(∀t∈l,g t.id=g' t.id)→qc4 g l e=qc4 g' l e
 | [],_,_=>rfl
 | t::l,e,h=>by
  unfold qc4;rw[h t (zq ..),YX fun u hu=>h u (zo _ hu)]
abbrev Qk(l:List Tm):Prop:=l.Pairwise fun x y=>x.id<y.id
theorem qft{l:List Tm}{i:Int}(h:∀t∈l,i<t.id):atN l i=0:=qn6 fun j hj=>by
 obtain⟨t,ht,rfl⟩:=KJ.1 hj;have:=h t ht;omega
theorem qec{t:Tm}{l:List Tm}{i:Int}(h:t.id<i):atN (t::l) i=atN l i:=Yk (by omega)
theorem Ym:∀(n:Nat) (l m:List Tm) (e:Int),l.length+m.length≤n→Qk l→Qk m→(qm QA n l m e).2=qc4 (atN m) l e
 | 0,[],m,e,_,_,_=>rfl
 | 0,_::_,_,_,h,_,_=>by simp at h
 | n+1,[],[],e,_,_,_=>rfl
 | n+1,[],b::m,e,h,hl,hm=>by
  have ih:=Ym n [] m e (by simp at h ⊢;omega) hl (zH.1 hm).2
  show(qm QA n [] m (QA e 0 b.c).2).2=_
  exact ih
 | n+1,a::l,[],e,h,hl,hm=>by
  have ih:=Ym n l [] (QA e a.c 0).2 (by simp at h ⊢;omega) (zH.1 hl).2 hm
  show(qm QA n l [] (QA e a.c 0).2).2=_
  rw[ih];rfl
 | n+1,a::l,b::m,e,h,hl,hm=>by
  simp only[zw]at h;have pl:=zH.1 hl;have pm:=zH.1 hm;by_cases g1:a.id<b.id
  · rw[ZC _ _ _ _ _ _ _ g1]
    have ih:=Ym n l (b::m) (QA e a.c 0).2 (by simp only[zw];omega) pl.2 hm
    have h0:atN (b::m) a.id=0:=qft fun t ht=>by
     rcases zA.1 ht with rfl | ht
     · exact g1
     · have:=pm.1 t ht;omega
    show(qm QA n l (b::m) (QA e a.c 0).2).2=_
    rw[ih];conv=>rhs;unfold qc4
    rw[h0];rfl
  · by_cases g2:b.id<a.id
    · rw[ZD _ _ _ _ _ _ _ g2]
      have ih:=Ym n (a::l) m (QA e 0 b.c).2 (by simp only[zw];omega) hl pm.2
      show(qm QA n (a::l) m (QA e 0 b.c).2).2=_
      rw[ih];refine YX fun t ht=>(qec ?_).symm
      rcases zA.1 ht with rfl | ht
      · exact g2
      · have:=pl.1 t ht;omega
    · have hid:a.id=b.id:=by omega
      rw[ZB _ _ _ _ _ _ _ hid];have ih:=Ym n l m (QA e a.c b.c).2 (by omega) pl.2 pm.2
      show(qm QA n l m (QA e a.c b.c).2).2=_
      rw[ih];conv=>rhs;unfold qc4
      rw[hid,Yj];exact YX fun t ht=>(qec (by have:=pl.1 t ht;omega)).symm
def joW(f:Int→Int→Int)(g:Int→Int)(l:List Tm):List Tm:=l.map fun t=>⟨t.id,f t.c (g t.id)⟩
theorem qg2{f:Int→Int→Int}{g g':Int→Int}{l:List Tm}(h:∀t∈l,g t.id=g' t.id):joW f g l=joW f g' l:=by
 unfold joW;exact List.map_congr_left fun t ht=>by rw[h t ht]
theorem qAe(i:Int)(l:List Tm):qt (⟨i,0⟩::l)=qt l:=by
 unfold qt;rw[KG,zP (by rw[qps];decide)]
theorem qfu{t:Tm}{l m:List Tm}(h:qt l=qt m):qt (t::l)=qt (t::m):=by
 unfold qt at *
 rw[KG,KG,h]
theorem qag{f:Int→Int→Int}(fl:∀x,f x 0=0)(fr:∀y,f 0 y=0)(z:Int):∀(n:Nat) (l m:List Tm),l.length+m.length≤n→Qk l→Qk m→qt (qm (jnD f) n l m z).1=qt (joW f (atN m) l)
 | 0,[],m,_,_,_=>rfl
 | 0,_::_,_,h,_,_=>by simp at h
 | n+1,[],[],_,_,_=>rfl
 | n+1,[],b::m,h,hl,hm=>by
  have ih:=qag fl fr z n [] m (by simp at h ⊢;omega) hl (zH.1 hm).2
  show qt (⟨b.id,f 0 b.c⟩::(qm (jnD f) n [] m z).1)=_
  rw[fr,qAe];exact ih
 | n+1,a::l,[],h,hl,hm=>by
  have ih:=qag fl fr z n l [] (by simp at h ⊢;omega) (zH.1 hl).2 hm
  show qt (⟨a.id,f a.c 0⟩::(qm (jnD f) n l [] z).1)=qt (⟨a.id,f a.c 0⟩::joW f (atN []) l)
  exact qfu ih
 | n+1,a::l,b::m,h,hl,hm=>by
  simp only[zw]at h;have pl:=zH.1 hl;have pm:=zH.1 hm;by_cases g1:a.id<b.id
  · rw[ZC _ _ _ _ _ _ _ g1]
    have ih:=qag fl fr z n l (b::m) (by simp only[zw];omega) pl.2 hm
    have h0:atN (b::m) a.id=0:=qft fun t ht=>by
     rcases zA.1 ht with rfl | ht
     · exact g1
     · have:=pm.1 t ht;omega
    show qt (⟨a.id,f a.c 0⟩::(qm (jnD f) n l (b::m) z).1)=qt (⟨a.id,f a.c (atN (b::m) a.id)⟩::joW f (atN (b::m)) l)
    rw[h0];exact qfu ih
  · by_cases g2:b.id<a.id
    · rw[ZD _ _ _ _ _ _ _ g2]
      have ih:=qag fl fr z n (a::l) m (by simp only[zw];omega) hl pm.2
      show qt (⟨b.id,f 0 b.c⟩::(qm (jnD f) n (a::l) m z).1)=_
      rw[fr,qAe,ih];refine congrArg qt (qg2 fun t ht=>(qec ?_).symm)
      rcases zA.1 ht with rfl | ht
      · exact g2
      · have:=pl.1 t ht;omega
    · have hid:a.id=b.id:=by omega
      rw[ZB _ _ _ _ _ _ _ hid];have ih:=qag fl fr z n l m (by omega) pl.2 pm.2
      show qt (⟨a.id,f a.c b.c⟩::(qm (jnD f) n l m z).1)=qt (⟨a.id,f a.c (atN (b::m) a.id)⟩::joW f (atN (b::m)) l)
      rw[hid,Yj];refine qfu (ih.trans (congrArg qt (qg2 fun t ht=>(qec ?_).symm)))
      have:=pl.1 t ht;omega
theorem qg3{f:Int→Int→Int}(fl:∀x,f x 0=0)(fr:∀y,f 0 y=0)(z:Int):∀(n:Nat) (l m:List Tm),l.length+m.length≤n→Qk l→Qk m→∀i,atN (qm (jnD f) n l m z).1 i=f (atN l i) (atN m i)
 | 0,[],[],_,_,_,i=>(fl _).symm
 | 0,[],_::_,h,_,_,_=>by simp at h
 | 0,_::_,_,h,_,_,_=>by simp at h
 | n+1,[],[],_,_,_,i=>(fl _).symm
 | n+1,[],b::m,h,hl,hm,i=>by
  have ih:atN (qm (jnD f) n [] m z).1 i=f 0 (atN m i):=qg3 fl fr z n [] m (by simp at h ⊢;omega) hl (zH.1 hm).2 i
  show(bif decide (b.id=i)then f 0 b.c else atN (qm (jnD f) n [] m z).1 i)=f 0 (atN (b::m) i)
  rw[ih,fr,fr,fr];cases decide (b.id=i) <;> rfl
 | n+1,a::l,[],h,hl,hm,i=>by
  have ih:atN (qm (jnD f) n l [] z).1 i=f (atN l i) 0:=qg3 fl fr z n l [] (by simp at h ⊢;omega) (zH.1 hl).2 hm i
  show(bif decide (a.id=i)then f a.c 0 else atN (qm (jnD f) n l [] z).1 i)=f (atN (a::l) i) 0
  rw[ih,fl,fl,fl];cases decide (a.id=i) <;> rfl
 | n+1,a::l,b::m,h,hl,hm,i=>by
  simp only[zw]at h;have pl:=zH.1 hl;have pm:=zH.1 hm;by_cases g1:a.id<b.id
  · rw[ZC _ _ _ _ _ _ _ g1]
    have ih:=qg3 fl fr z n l (b::m) (by simp only[zw];omega) pl.2 hm i
    show atN (⟨a.id,f a.c 0⟩::(qm (jnD f) n l (b::m) z).1) i=_
    by_cases e:a.id=i
    · have h0:atN (b::m) a.id=0:=qft fun t ht=>by
       rcases zA.1 ht with rfl | ht
       · exact g1
       · have:=pm.1 t ht;omega
      subst e;rw[Yj,Yj,h0]
    · rw[Yk (t:=⟨a.id,f a.c 0⟩) e,Yk e];exact ih
  · by_cases g2:b.id<a.id
    · rw[ZD _ _ _ _ _ _ _ g2]
      have ih:=qg3 fl fr z n (a::l) m (by simp only[zw];omega) hl pm.2 i
      show atN (⟨b.id,f 0 b.c⟩::(qm (jnD f) n (a::l) m z).1) i=_
      by_cases e:b.id=i
      · have h0:atN (a::l) b.id=0:=qft fun t ht=>by
         rcases zA.1 ht with rfl | ht
         · exact g2
         · have:=pl.1 t ht;omega
        subst e;rw[Yj (⟨b.id,f 0 b.c⟩:Tm),Yj,h0]
      · rw[Yk (t:=⟨b.id,f 0 b.c⟩) e,Yk (t:=b) e];exact ih
    · have hid:a.id=b.id:=by omega
      rw[ZB _ _ _ _ _ _ _ hid];have ih:=qg3 fl fr z n l m (by omega) pl.2 pm.2 i
      show atN (⟨a.id,f a.c b.c⟩::(qm (jnD f) n l m z).1) i=_
      by_cases e:a.id=i
      · have e':b.id=i:=by omega
        rw[← e,Yj (⟨a.id,f a.c b.c⟩:Tm),Yj,hid,Yj]
      · rw[Yk (t:=⟨a.id,f a.c b.c⟩) e,Yk e,Yk (by omega)];exact ih
theorem qtS{f:Int→Int→Int}(fr:∀y,f 0 y=0)(g:Int→Int)(i:Int):∀l:List Tm,atN (joW f g l) i=f (atN l i) (g i)
 | []=>(fr _).symm
 | t::l=>by
  show(bif decide (t.id=i)then f t.c (g t.id)else atN (joW f g l) i)=f (bif decide (t.id=i)then t.c else atN l i) (g i)
  rw[qtS fr g i l];by_cases e:t.id=i
  · rw[zd e,zf,zf,e]
  · rw[zh e,zi,zi]
theorem qCL{l:List Tm}(i:Int)(hl:Qk l)(hz:∀t∈l,zI t.c=true→t.c=0):atN (qt l) i=atN l i:=by
 induction l with
 | nil=>rfl
 | cons t l ih=>
  have pl:=zH.1 hl;have ih:=ih pl.2 fun u hu=>hz u (zo _ hu)
  cases h:zI t.c with
  | true=>
   have h0:=hz t (zq ..) h
   have e1:qt (t::l)=qt l:=by
    unfold qt;rw[KG,zP (by rw[h];decide)]
   rw[e1,ih];by_cases e:t.id=i
   · have:atN l i=0:=qft fun u hu=>by have:=pl.1 u hu;omega
     rw[this,← e,Yj,h0]
   · rw[Yk e]
  | false=>
   have e1:qt (t::l)=t::qt l:=by
    unfold qt;rw[KG,zR (by rw[h];rfl)]
   rw[e1];by_cases e:t.id=i
   · rw[← e,Yj,Yj]
   · rw[Yk e,Yk e,ih]
end Su
end
section
namespace Su
open Go Fly
theorem Yn(f:Int→Int→Int→Int×Int):∀(n:Nat) (l m:List Tm) (e:Int),∀t∈(qm f n l m e).1,(∃u∈l,u.id=t.id)∨∃u∈m,u.id=t.id:=by
 intro n;induction n with
 | zero=>intro l m e t ht;cases ht
 | succ n ih=>
  intro l m e
  match l,m with
  | [],[]=>intro t ht;cases ht
  | a::l,[]=>
   intro t ht;rcases zA.1 (show t∈⟨a.id,(f e a.c 0).1⟩::(qm f n l [] (f e a.c 0).2).1 from ht)with rfl | ht
   · exact .inl ⟨a,zq ..,rfl⟩
   · rcases ih l [] _ t ht with⟨u,hu,h⟩ | ⟨u,hu,h⟩
     · exact .inl ⟨u,zo _ hu,h⟩
     · exact .inr ⟨u,hu,h⟩
  | [],b::m=>
   intro t ht;rcases zA.1 (show t∈⟨b.id,(f e 0 b.c).1⟩::(qm f n [] m (f e 0 b.c).2).1 from ht)with rfl | ht
   · exact .inr ⟨b,zq ..,rfl⟩
   · rcases ih [] m _ t ht with⟨u,hu,h⟩ | ⟨u,hu,h⟩
     · exact .inl ⟨u,hu,h⟩
     · exact .inr ⟨u,zo _ hu,h⟩
  | a::l,b::m=>
   by_cases g1:a.id<b.id
   · rw[ZC _ _ _ _ _ _ _ g1]
     intro t ht;rcases zA.1 (show t∈⟨a.id,(f e a.c 0).1⟩::(qm f n l (b::m) (f e a.c 0).2).1 from ht)with rfl | ht
     · exact .inl ⟨a,zq ..,rfl⟩
     · rcases ih l (b::m) _ t ht with⟨u,hu,h⟩ | ⟨u,hu,h⟩
       · exact .inl ⟨u,zo _ hu,h⟩
       · exact .inr ⟨u,hu,h⟩
   · by_cases g2:b.id<a.id
     · rw[ZD _ _ _ _ _ _ _ g2]
       intro t ht;rcases zA.1 (show t∈⟨b.id,(f e 0 b.c).1⟩::(qm f n (a::l) m (f e 0 b.c).2).1 from ht)with rfl | ht
       · exact .inr ⟨b,zq ..,rfl⟩
       · rcases ih (a::l) m _ t ht with⟨u,hu,h⟩ | ⟨u,hu,h⟩
         · exact .inl ⟨u,hu,h⟩
         · exact .inr ⟨u,zo _ hu,h⟩
     · rw[ZB _ _ _ _ _ _ _ (show a.id=b.id by omega)]
       intro t ht;rcases zA.1 (show t∈⟨a.id,(f e a.c b.c).1⟩::(qm f n l m (f e a.c b.c).2).1 from ht)with rfl | ht
       · exact .inl ⟨a,zq ..,rfl⟩
       · rcases ih l m _ t ht with⟨u,hu,h⟩ | ⟨u,hu,h⟩
         · exact .inl ⟨u,zo _ hu,h⟩
         · exact .inr ⟨u,zo _ hu,h⟩
theorem qmp(f:Int→Int→Int→Int×Int):∀(n:Nat) (l m:List Tm) (e:Int),Qk l→Qk m→Qk (qm f n l m e).1:=by
 intro n;induction n with
 | zero=>intro l m e _ _;exact List.Pairwise.nil
 | succ n ih=>
  intro l m e hl hm
  match l,m,hl,hm with
  | [],[],_,_=>exact List.Pairwise.nil
  | a::l,[],hl,hm=>
   have pl:=zH.1 hl;show Qk (⟨a.id,(f e a.c 0).1⟩::(qm f n l [] (f e a.c 0).2).1)
   refine zH.2 ⟨fun t ht=>?_,ih _ _ _ pl.2 hm⟩
   rcases Yn f n l [] _ t ht with⟨u,hu,h⟩ | ⟨u,hu,h⟩
   · have:=pl.1 u hu;show a.id<t.id;omega
   · cases hu
  | [],b::m,hl,hm=>
   have pm:=zH.1 hm;show Qk (⟨b.id,(f e 0 b.c).1⟩::(qm f n [] m (f e 0 b.c).2).1)
   refine zH.2 ⟨fun t ht=>?_,ih _ _ _ hl pm.2⟩
   rcases Yn f n [] m _ t ht with⟨u,hu,h⟩ | ⟨u,hu,h⟩
   · cases hu
   · have:=pm.1 u hu;show b.id<t.id;omega
  | a::l,b::m,hl,hm=>
   have pl:=zH.1 hl;have pm:=zH.1 hm;by_cases g1:a.id<b.id
   · rw[ZC _ _ _ _ _ _ _ g1]
     show Qk (⟨a.id,(f e a.c 0).1⟩::(qm f n l (b::m) (f e a.c 0).2).1)
     refine zH.2 ⟨fun t ht=>?_,ih _ _ _ pl.2 hm⟩
     show a.id<t.id
     rcases Yn f n l (b::m) _ t ht with⟨u,hu,h⟩ | ⟨u,hu,h⟩
     · have:=pl.1 u hu;omega
     · rcases zA.1 hu with rfl | hu
       · omega
       · have:=pm.1 u hu;omega
   · by_cases g2:b.id<a.id
     · rw[ZD _ _ _ _ _ _ _ g2]
       show Qk (⟨b.id,(f e 0 b.c).1⟩::(qm f n (a::l) m (f e 0 b.c).2).1)
       refine zH.2 ⟨fun t ht=>?_,ih _ _ _ hl pm.2⟩
       show b.id<t.id
       rcases Yn f n (a::l) m _ t ht with⟨u,hu,h⟩ | ⟨u,hu,h⟩
       · rcases zA.1 hu with rfl | hu
         · omega
         · have:=pl.1 u hu;omega
       · have:=pm.1 u hu;omega
     · rw[ZB _ _ _ _ _ _ _ (show a.id=b.id by omega)]
       show Qk (⟨a.id,(f e a.c b.c).1⟩::(qm f n l m (f e a.c b.c).2).1)
       refine zH.2 ⟨fun t ht=>?_,ih _ _ _ pl.2 pm.2⟩
       show a.id<t.id
       rcases Yn f n l m _ t ht with⟨u,hu,h⟩ | ⟨u,hu,h⟩
       · have:=pl.1 u hu;omega
       · have:=pm.1 u hu;omega
theorem qtT{f:Int→Int→Int}{g:Int→Int}{l:List Tm}(h:Qk l):Qk (joW f g l):=by
 unfold joW;exact List.pairwise_map.2 h
theorem qtU{f:Int→Int→Int}(fl:∀x,f x 0=0)(fr:∀y,f 0 y=0){a b C:List Tm}(ha:Qk a)(hb:Qk b)(hC:Qk C)(hz:∀t∈joW f (atN b) a,zI t.c=true→t.c=0)(e:Int) :
 (qm QA (C.length+(qm (jnD f) (a.length+b.length) a b 0).1.length) C (qm (jnD f) (a.length+b.length) a b 0).1 e).2=qc4 (atN (qt (joW f (atN b) a))) C e:=by
 rw[Ym _ _ _ _ (zE _) hC (qmp _ _ _ _ _ ha hb)];refine YX fun t _=>?_
 rw[qg3 fl fr 0 _ _ _ (zE _) ha hb,qCL _ (qtT ha) hz,qtS fr]
end Su
end
section
namespace Su
noncomputable section
open Go Fly
def awD(x y:Int):Int:=bif decide (jZ (qJ x (Jr y) 1).toNat (qJ y (Jr x) 1).toNat<0)then qJ y (Jr x) 1 else qJ x (Jr y) 1
theorem qof{m:Int}(wm:Fw m)(fm:fI m=true):fI (Jr m)=true:=JV.2 (by
 unfold Jr;rw[zm];exact(qnN (qkk wm) (JV.1 fm)).1)
theorem qtV{x y:Int}(fx:fI x=true)(fy:fI y=true)(m:Int):qB (bK (qJ x y m).toNat)=false:=by
 unfold fI at fx fy;have h1:=qT.1 fx;have h2:=qT.1 fy;unfold qJ;rw[zm,jX];exact qyR (qE.2 (by omega)) (by omega)
theorem qog{x y:Int}(hx:(x.toNat:Int)=x)(hy:(y.toNat:Int)=y)(nx:qB (bK x.toNat)=false)(ny:qB (bK y.toNat)=false):mxI x y=bif decide (jZ x.toNat y.toNat<0)then y else x:=by
 unfold mxI;rw[qyS nx ny];cases decide (jZ x.toNat y.toNat<0)with
 | true=>exact hy
 | false=>exact hx
theorem qah(x y m:Int):((qJ x y m).toNat:Int)=qJ x y m:=by unfold qJ;rw[zm]
theorem qtW{x y:Int}(wx:Fw x)(fx:fI x=true)(wy:Fw y)(fy:fI y=true):awI x y=awD x y :=
 qog (qah ..) (qah ..) (qtV fx (qof wy fy) 1) (qtV fy (qof wx fx) 1)
def qkL(g:Int→Int):List Tm→Int→Int
 | [],e=>e
 | t::l,e=>qkL g l (qJ e (awD t.c (g t.id)) 1)
theorem qtX{x y:Int}(wx:j0 x)(wy:j0 y):j0 (awD x y):=by
 unfold awD;cases decide (jZ (qJ x (Jr y) 1).toNat (qJ y (Jr x) 1).toNat<0)with
 | true=>exact qe8 wy (qsB wx) 1
 | false=>exact qe8 wx (qsB wy) 1
theorem qoh{g:Int→Int}(hg:∀i,Fw (g i)∧fI (g i)=true∧j0 (g i)):∀ {l:List Tm} {e e':Int},(∀t∈l,t.c≠0∧Fw t.c∧fI t.c=true∧j0 t.c)→qJ 0 e 1=e'→Cle e'→∀r,upI [qc4 g l e,r]=qJ (qkL g l e') r 1∧Cle (qkL g l e')
 | [],e,e',_,h,hc,r=>by
  refine⟨?_,hc⟩
  show qJ (qJ 0 e 1) r 1=qJ e' r 1
  rw[h]
 | t::l,e,e',hl,h,hc,r=>by
  obtain⟨t0,tw,tf,td⟩:=hl t (zq ..)
  obtain⟨gw,gf,gd⟩:=hg t.id;have wa:=qtX td gd;have hs:=qiP hc.1 wa hc.2.1;have e1:upI [e,awI t.c (g t.id)]=qJ e' (awD t.c (g t.id)) 1:=by
   show qJ (qJ 0 e 1) (awI t.c (g t.id)) 1=_
   rw[h,qtW tw tf gw gf]
  unfold qc4 qkL;rw[zh t0,zi,e1];exact qoh hg (fun u hu=>hl u (zo _ hu)) hs.2.2 hs r
end
end Su
end
