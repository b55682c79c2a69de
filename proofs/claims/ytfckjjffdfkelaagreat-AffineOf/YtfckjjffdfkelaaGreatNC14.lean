/-
  What functions of the program compute, in plain Lean, and that the evaluator finds it.
-/
import Derived.Test.YtfckjjffdfkelaaGreatSuSd
import Derived.Test.YtfckjjffdfkelaaGreatNC13
set_option linter.unusedVariables false
set_option linter.unusedSimpArgs false
set_option maxRecDepth 10000
section
namespace Su
open Go Fly
noncomputable section
def qEx  (a:Int)(b:Int)(mode:Int):Option Int :=
 (qrS a b mode).bind fun x0=>
 some x0.1
def qEy  (a:Int)(b:Int)(mode:Int):Option Int :=
 (qu6 a b mode).bind fun x0=>
 some x0.1
def qjO:(Int×Int×(List Int)×Int×Int×Unit)→Option ((Int×Int×(List Int)×Int×Int×Unit) ⊕ (Int×Int×(List Int)×Int×Int×Unit)):=fun p0=>(bif(decide (p0.2.2.2.2.1<p0.2.2.2.1))then
 (idx p0.2.2.1 p0.2.2.2.2.1).bind fun x1=>
 (qrS p0.2.1 x1 p0.1).bind fun x2=>
 some (.inl (p0.1,x2.1,p0.2.2.1,p0.2.2.2.1,(IntKind.wrap .i64 (p0.2.2.2.2.1+1)),()))
 else
  some (.inr (p0.1,p0.2.1,p0.2.2.1,p0.2.2.2.1,p0.2.2.2.2.1,())))
def aUp  (fu:Nat)(l:(List Int)):Option Int :=
 (itP fu (qjO) ((1:Int),(0:Int),l,(List.length l:Int),(0:Int),())).bind fun x3=>
 some x3.2.1
def qjP(p:Int×Int×Int):Option Int:=some (Qt p.1.toNat p.2.1.toNat p.2.2:Int)
def qjQ(p:Int×Int×Int):Option Int:=some (qrU p.1.toNat p.2.1.toNat p.2.2:Int)
theorem qzI(p:Int×Int×Int)(y:Int)(hg:(dc (cI .u64) (dc (cI .u64) (d1 (cI .u8)))).good p)(h:qjP p=some y):qEx p.1 p.2.1 p.2.2=some y:=by
 obtain⟨a,b,mode⟩:=p;obtain⟨A,rfl,hA⟩:=q9 hg.1;obtain⟨B,rfl,hB⟩:=q9 hg.2.1;have:=soi h;subst this
 unfold qEx;obtain⟨fl,hfl⟩:=qmj hA hB mode;simp only[]at *
 rw[hfl,Z5];rfl
theorem qzJ(p:Int×Int×Int)(y:Int)(hg:(dc (cI .u64) (dc (cI .u64) (d1 (cI .u8)))).good p)(h:qjQ p=some y):qEy p.1 p.2.1 p.2.2=some y:=by
 obtain⟨a,b,mode⟩:=p;obtain⟨A,rfl,hA⟩:=q9 hg.1;obtain⟨B,rfl,hB⟩:=q9 hg.2.1;have:=soi h;subst this
 unfold qEy;obtain⟨fl,hfl⟩:=qu7 hA hB mode;simp only[]at *
 rw[hfl,qjN];rfl
theorem qjR(b:Bool):sgN b≤9223372036854775808:=by unfold sgN;cases b <;> simp
theorem qzK(tw:Bool)(k:Nat):qcC tw k≤9218868437227405312:=by
 unfold qcC js;cases h:Nat.ble k 9218868437227405311 with
 | true=>have:=zo h;rw[zd];omega
 | false=>cases tw <;> simp only[zd,zh] <;> omega
theorem qu8(neg:Bool)(mode:Int)(M E:Nat)(rest:Bool):RN neg mode M E rest<18446744073709551616:=by
 have h1:=qjR neg;unfold RN;cases Nat.beq M 0 with
 | true=>rw[zd];omega
 | false=>
  rw[zh];have:=qzK (twN neg mode) (yd M E+(upN neg mode (jj M E % 2 == 1) (hfN M E) (rest||rsN M E)).toNat)
  omega
theorem qp5(nx ny:Bool)(mode:Int)(X Y D:Nat)(ey:Int):qmi nx ny mode X Y D ey<18446744073709551616:=by
 unfold qmi;split
 · exact qu8 _ _ _ _ _
 · split
   · have:=qjR (decide (mode=2));omega
   · exact qu8 _ _ _ _ _
theorem qp6{a b:Nat}(ha:a<18446744073709551616)(hb:b<18446744073709551616)(mode:Int):Qt a b mode<18446744073709551616:=by
 rw[Z5];unfold YF qoe;have h2:=qjR (decide (mode=2))
 generalize qP (bK a)=c1
 generalize qP (bK b)=c2
 generalize Qs (bK a)=c3
 generalize Qs (bK b)=c4
 generalize Nat.beq (bK a) 0=c5
 generalize Nat.beq (bK b) 0=c6
 generalize decide (bS a=bS b)=c7
 generalize qex a b=c8
 have h3:=qp5 (bS b) (bS a) mode (kM (bK b)) (kM (bK a)) (kE (bK b)-kE (bK a)) ((kE (bK a):Int)-1074)
 have h4:=qp5 (bS a) (bS b) mode (kM (bK a)) (kM (bK b)) (kE (bK a)-kE (bK b)) ((kE (bK b):Int)-1074)
 generalize qmi (bS b) (bS a) mode (kM (bK b)) (kM (bK a)) (kE (bK b)-kE (bK a)) ((kE (bK a):Int)-1074)=z1 at *
 generalize qmi (bS a) (bS b) mode (kM (bK a)) (kM (bK b)) (kE (bK a)-kE (bK b)) ((kE (bK b):Int)-1074)=z2 at *
 generalize sgN (decide (mode=2))=z3 at *
 cases c1
 · cases c2
   · cases c3 <;> cases c4 <;> cases c5 <;> cases c6 <;> cases c7 <;> cases c8 <;> simp only[zd,zh,zN,qHG,zG,KW,Kh,Kl] <;> omega
   · simp only[zd,zh];omega
 · simp only[zd,zh];omega
theorem qzL{a b:Nat}(mode:Int):qrU a b mode<18446744073709551616:=by
 rw[qjN];unfold qrT;have h1:=qu8 (!decide (bS a=bS b)) mode (kM (bK a)*kM (bK b)) (kE (bK a)+kE (bK b)+3852) false
 have h2:=qjR (!decide (bS a=bS b))
 generalize qP (bK a)=c1
 generalize qP (bK b)=c2
 generalize (Qs (bK a)||Qs (bK b))=c3
 generalize (Nat.beq (bK a) 0||Nat.beq (bK b) 0)=c4
 generalize RN (!decide (bS a=bS b)) mode (kM (bK a)*kM (bK b)) (kE (bK a)+kE (bK b)+3852) false=z1 at *
 generalize sgN (!decide (bS a=bS b))=z2 at *
 cases c1 <;> cases c2 <;> cases c3 <;> cases c4 <;> simp only[zd,zh,zN,qHG] <;> omega
def upS(s:Nat):List Int→Nat
 | []=>s
 | x::l=>upS (Qt s x.toNat 1) l
def qp7(l:List Int):Option Int:=some (upS 0 l:Int)
theorem qp8(l0:List Int):∀(l:List Int) (i s:Nat),l0.drop i=l→i≤l0.length→(∀x∈l,inR .u64 x=true)→s<18446744073709551616→l0.length≤9223372036854775807 →
 ∃n,itP n qjO (1,(s:Int),l0,(l0.length:Int),(i:Int),())=some (1,(upS s l:Int),l0,(l0.length:Int),(l0.length:Int),())
 | [],i,s,hl,hi,_,_,_=>by
  have:l0.length≤i:=by
   rcases V5 i l0.length with h | h
   · rw[Kk h]at hl;cases hl
   · exact h
  have:i=l0.length:=by omega
  subst this;refine QL ?_
  simp only[qjO];rw[zk (by omega),zh];rfl
 | x::l,i,s,hl,hi,hx,hs,hlen=>by
  have hlt:i<l0.length:=by
   rcases V5 i l0.length with h | h
   · exact h
   · rw[KM h]at hl;cases hl
  have hc:=Kk hlt;rw[hc]at hl;simp only[V9]at hl;obtain⟨h1,h2⟩:=hl;obtain⟨X,rfl,hX⟩:=q9 (hx x (zu ..))
  obtain⟨fl,hfl⟩:=qmj hs hX 1
  obtain⟨n,hn⟩:=qp8 l0 l (i+1) (Qt s X 1) h2 (by omega) (fun y hy=>hx y (zp _ hy)) (qp6 hs hX 1) hlen
  refine QK ?_ ⟨n,hn⟩
  simp only[qjO];rw[zf (by omega),zd,jB,zD hlt,h1,zi,hfl,zi,w64 (by omega) (by omega),Z5];rfl
theorem qEz(l:List Int)(y:Int)(hg:(d1 (cQ 2 1)).good l)(h:qp7 l=some y):∃n,aUp n l=some y:=by
 have:=soi h;subst this
 have hl:=hg.2;rw[jb]at hl;obtain⟨n,hn⟩:=qp8 l l 0 0 rfl (Va _) (fun x hx=>hg.1 x hx) (by decide) hl
 refine⟨n,?_⟩
 unfold aUp;have e:((0:Nat):Int)=0:=rfl
 rw[e]at hn;rw[hn];rfl
end
end Su
end
section
namespace Su
open Go Fly
noncomputable section
def qe8:(Nat×Int×Int×(List T)×Unit)→Option ((Nat×Int×Int×(List T)×Unit) ⊕ (Nat×Int×Int×(List T)×Unit)):=fun p8=>(bif(decide (p8.2.2.1<(p8.1:Int)))then
 (bif((true&&(decide (0≤p8.2.2.1)))&&(decide (p8.2.2.1<(p8.1:Int))))then
 ((p8.2.2.2.1)[(0+p8.2.2.1.toNat)]?).bind fun x9=>
 ((x9.cells)[0]?).bind fun x10=>
 (asI .i64 (.t x10)).bind fun x11=>
 ((x9.cells)[1]?).bind fun x12=>
 (asI .u64 (.t x12)).bind fun x13=>
 (bif(!(Nat.beq (bK x13.toNat) 0))then
 (bif((true&&(decide (0≤p8.2.1)))&&(decide (p8.2.1<(p8.1:Int))))then
 ((p8.2.2.2.1)[(0+p8.2.1.toNat)]?).bind fun x14=>
 some (.inl (p8.1,(IntKind.wrap .i64 (p8.2.1+1)),(IntKind.wrap .i64 (p8.2.2.1+1)),(List.set p8.2.2.2.1 (0+p8.2.1.toNat) (T.agg [(T.s (.int .i64 x11)),(T.s (.int .u64 x13))])),()))
 else none)
 else
  some (.inl (p8.1,p8.2.1,(IntKind.wrap .i64 (p8.2.2.1+1)),p8.2.2.2.1,())))
 else none)
 else
  some (.inr (p8.1,p8.2.1,p8.2.2.1,p8.2.2.2.1,())))
abbrev qdx:=(Nat×Int×Int×(List T)×Unit)
def qcU(l:(List Tm))(fu:Nat):qdx→Option (qdx ⊕ (Lp qdx (List Tm))):=fun p0=>(bif(decide (p0.2.2.1<p0.2.1))then
 (bif((true&&(decide (0≤p0.2.2.1)))&&(decide (p0.2.2.1<(p0.1:Int))))then
 ((p0.2.2.2.1)[(0+p0.2.2.1.toNat)]?).bind fun x1=>
 ((x1.cells)[0]?).bind fun x2=>
 (asI .i64 (.t x2)).bind fun x3=>
 ((x1.cells)[1]?).bind fun x4=>
 (asI .u64 (.t x4)).bind fun x5=>
 (bif(Nat.beq (bK x5.toNat) 0)then
 (bif(decide (p0.2.2.1=(-1)))then
 (Su.sub p0.2.2.2.1 0 (List.length (List.map (fun z6=>(T.agg [(T.s (.int .i64 (Tm.id z6))),(T.s (.int .u64 (Tm.c z6)))])) l))).bind fun x7=>
 (qu x7)
 else
  (itP fu (qe8) ((List.length (List.map (fun z15=>(T.agg [(T.s (.int .i64 (Tm.id z15))),(T.s (.int .u64 (Tm.c z15)))])) l)),(p0.2.2.1,(IntKind.wrap .i64 (p0.2.2.1+1)),p0.2.2.2.1,()))).bind fun x16=>
  (bif(((true&&(decide (0≤x16.2.1)))&&(decide (x16.2.1≤(x16.1:Int))))&&(decide ((x16.1:Int)≤(x16.1:Int))))then
  (bif((true&&(Nat.beq (List.length (T.cells (T.agg (List.cons (T.s (.int .i64 0)) (List.cons (T.s (.int .u64 0)) []))))) 2))&&(Nat.ble ((0+x16.2.1.toNat)+(Int.toNat ((x16.1:Int)-x16.2.1))) x16.2.2.2.1.length))then
  (bif((true&&(decide (0≤x16.2.1)))&&(decide (x16.2.1≤(x16.1:Int))))then
  (Su.sub ((List.take (0+x16.2.1.toNat) x16.2.2.2.1)++((List.replicate (Int.toNat ((x16.1:Int)-x16.2.1)) (T.agg (List.cons (T.s (.int .i64 0)) (List.cons (T.s (.int .u64 0)) []))))++(List.drop ((0+x16.2.1.toNat)+(Int.toNat ((x16.1:Int)-x16.2.1))) x16.2.2.2.1))) 0 (Int.toNat (x16.2.1-0))).bind fun x17=>
  (qu x17)
 else none)
 else none)
 else none)).bind fun x18=>
  some (.inr (.ret x18))
 else
  some (.inl (p0.1,p0.2.1,(IntKind.wrap .i64 (p0.2.2.1+1)),p0.2.2.2.1,())))
 else none)
 else
  some (.inr (.exit 0 (p0.1,p0.2.1,p0.2.2.1,p0.2.2.2.1,()))))
def qEA  (fu:Nat)(l:(List Tm))(u:Unit):Option (List Tm) :=
 (itP fu (qcU l fu) ((List.length (List.map (fun z19=>(T.agg [(T.s (.int .i64 (Tm.id z19))),(T.s (.int .u64 (Tm.c z19)))])) l)),((((List.length (List.map (fun z20=>(T.agg [(T.s (.int .i64 (Tm.id z20))),(T.s (.int .u64 (Tm.c z20)))])) l)):Nat):Int),((0:Int),(List.map (fun z21=>(T.agg [(T.s (.int .i64 (Tm.id z21))),(T.s (.int .u64 (Tm.c z21)))])) l),())))).bind fun x22=>
 (match x22 with
 | .exit i23 p24=>(bif(Nat.beq i23 0)then
  (Su.sub p24.2.2.2.1 0 (List.length (List.map (fun z25=>(T.agg [(T.s (.int .i64 (Tm.id z25))),(T.s (.int .u64 (Tm.c z25)))])) l))).bind fun x26=>
  (qu x26)
 else none)
 | .ret o27=>some o27)
def qu9:((List Tm)×Int×Int×Unit)→Option (((List Tm)×Int×Int×Unit) ⊕ ((List Tm)×Int×Int×Unit)):=fun p2=>(bif(decide (p2.2.2.1<(List.length p2.1:Int)))then
 (idx p2.1 p2.2.2.1).bind fun x3=>
 (bif(!(Nat.beq (bK (Int.toNat (Tm.c x3))) 0))then
 (idx p2.1 p2.2.1).bind fun x4=>
 none
 else
  some (.inl (p2.1,p2.2.1,(IntKind.wrap .i64 (p2.2.2.1+1)),())))
 else
  some (.inr (p2.1,p2.2.1,p2.2.2.1,())))
def qgs(fu:Nat)(l:(List Tm)):((List Tm)×Int×Int×Unit)→Option (((List Tm)×Int×Int×Unit) ⊕ (Lp ((List Tm)×Int×Int×Unit) (List Tm))):=fun p0=>(bif(decide (p0.2.2.1<p0.2.1))then
 (idx p0.1 p0.2.2.1).bind fun x1=>
 (bif(Nat.beq (bK (Int.toNat (Tm.c x1))) 0)then
 (bif(decide (p0.2.2.1=(-1)))then
 some l
 else
  (itP fu (qu9) (l,p0.2.2.1,(IntKind.wrap .i64 (p0.2.2.1+1)),())).bind fun x5=>
  (bif(true&&(((decide (0≤x5.2.1))&&(decide (x5.2.1≤(List.length x5.1:Int))))&&(decide ((List.length x5.1:Int)≤(List.length x5.1:Int)))))then
  none
 else none)).bind fun x6=>
  some (.inr (.ret x6))
 else
  some (.inl (p0.1,p0.2.1,(IntKind.wrap .i64 (p0.2.2.1+1)),())))
 else
  some (.inr (.exit 0 (p0.1,p0.2.1,p0.2.2.1,()))))
def qva  (fu:Nat)(l:(List Tm))(u:Unit):Option (List Tm) :=
 (itP fu (qgs fu l) (l,(List.length l:Int),(0:Int),())).bind fun x7=>
 (match x7 with
 | .exit i8 p9=>(bif(Nat.beq i8 0)then
  some l
 else none)
 | .ret o10=>some o10)
def Zy:((List Tm)×Int×Int×Unit)→Option (((List Tm)×Int×Int×Unit) ⊕ (Lp ((List Tm)×Int×Int×Unit) Bool)):=fun p0=>(bif(decide (p0.2.2.1<p0.2.1))then
 (idx p0.1 p0.2.2.1).bind fun x1=>
 (bif(!(jT (bK (Int.toNat (Tm.c x1)))))then
 some (.inr (.ret (decide (0≤p0.2.2.1))))
 else
  some (.inl (p0.1,p0.2.1,(IntKind.wrap .i64 (p0.2.2.1+1)),())))
 else
  some (.inr (.exit 0 (p0.1,p0.2.1,p0.2.2.1,()))))
def qvb  (fu:Nat)(l:(List Tm))(u:Unit):Option Bool :=
 (itP fu (Zy) (l,(List.length l:Int),(0:Int),())).bind fun x2=>
 (match x2 with
 | .exit i3 p4=>(bif(Nat.beq i3 0)then
  some false
 else none)
 | .ret o5=>some o5)
abbrev vT:Tm→T:=view 10
def zI(f:Int):Bool:=Nat.beq (bK f.toNat) 0
def fI(f:Int):Bool:=jT (bK f.toNat)
def jJ(l:List Tm):List Tm:=l.filter fun t=>!zI t.c
theorem qA(l:List Tm):qu (l.map vT)=some l:=qjx.de l
theorem vT_0(t:Tm):(T.cells (vT t))[0]?=some (.s (.int .i64 t.id)):=rfl
theorem vT_1(t:Tm):(T.cells (vT t))[1]?=some (.s (.int .u64 t.c)):=rfl
theorem qcV(κ:IntKind)(n:Int):asI κ (.t (.s (.int κ n)))=some n:=by simp[asI]
theorem qG1(t:Tm):T.agg [T.s (.int .i64 t.id),T.s (.int .u64 t.c)]=vT t:=rfl
theorem qp9(A B:List T)(n:Nat)(h:n=A.length):sub (A++B) 0 n=some A:=by
 subst h;unfold sub;rw[show Nat.ble (0+A.length) (A++B).length=true by rw[VW];simp];rw[zd,WH,Wm]
theorem qhX(A:List T)(n:Nat)(h:n=A.length):sub A 0 n=some A:=by
 have:=qp9 A [] n h
 rwa [zO]at this
theorem qjS(A B C:List T)(x:T)(n:Nat)(h:n=A.length+B.length):(A++(B++x::C))[n]?=some x:=by
 subst h;rw[zP (by omega),zP (by omega),show A.length+B.length-A.length-B.length=0 by omega];rfl
theorem qzM(A B:List T)(x y:T)(n:Nat)(h:n=A.length):(A++(x::B)).set n y=A++(y::B):=by
 subst h;rw[Xy,zZ (by omega),Vi];rfl
theorem qdy(N:Nat)(hN:N<9223372036854775808):∀(rest A:List Tm) (b:T) (B:List T) (n:Nat),rest.length<n→A.length+(B.length+1)+rest.length=N →
 ∃B',A.length+(jJ rest).length+B'.length=N∧itP n qe8 (N,(A.length:Int),((A.length+(B.length+1):Nat):Int),A.map vT++((b::B)++rest.map vT),())=some (N,((A++jJ rest).length:Int),(N:Int),(A++jJ rest).map vT++B',())
 | [],A,b,B,n+1,hn,h=>by
  refine⟨b::B,by simp only[zq,jJ,List.filter_nil,zB]at *;omega,?_⟩
  rw[qC];simp only[qe8];simp only[zB,Kr]at h;rw[h,zk (by omega),zh,zi];simp[jJ]
 | t::rest,A,b,B,n+1,hn,h=>by
  simp only[zq]at hn h;rw[qC];simp only[qe8];have hj:(0+Int.toNat ((A.length+(B.length+1):Nat):Int))=(A.map vT).length+(b::B).length:=by simp;omega
  have hi:(0+Int.toNat (A.length:Int))=(A.map vT).length:=by simp
  have hw:IntKind.i64.wrap (((A.length+(B.length+1):Nat):Int)+1)=((A.length+(B.length+1+1):Nat):Int):=by rw[w64 (by omega) (by omega)];omega
  rw[zf (show((A.length+(B.length+1):Nat):Int)<(N:Int) by omega),zf (show(0:Int)≤((A.length+(B.length+1):Nat):Int) by omega)];simp only[zd,zN];rw[KY,qjS _ _ _ _ _ hj,zi,vT_0,zi,qcV,zi,vT_1,zi,qcV,zi];have hz:Nat.beq (bK (Int.toNat t.c)) 0=zI t.c:=rfl
  rw[hz];cases hzi:zI t.c with
  | false=>
   have e1:jJ (t::rest)=t::jJ rest:=by unfold jJ;rw[VT];simp[hzi]
   obtain⟨b2,B2,e2⟩:∃b2 B2,B++[vT t]=b2::B2:=by cases B with | nil=>exact⟨_,_,rfl⟩ | cons x B=>exact⟨_,_,rfl⟩
   have e3:B2.length=B.length:=by have:=congrArg List.length e2;simp at this;omega
   obtain⟨B',q1,q2⟩:=qdy N hN rest (A++[t]) b2 B2 n (by omega) (by simp;omega)
   refine⟨B',by rw[e1];simp at q1 ⊢;omega,?_⟩
   rw[Kl,zd,zf (show(0:Int)≤(A.length:Int) by omega),zf (show(A.length:Int)<(N:Int) by omega)];simp only[zd,zN];rw[show(A.map vT++(b::B++vT t::rest.map vT))[0+Int.toNat (A.length:Int)]?=some b from qjS (A.map vT) [] _ b _ (by simp),zi];rw[qG1,Vv,qzM _ _ _ _ _ hi,hw,w64 (by omega) (by omega)];rw[e1];have e4:A.map vT++(vT t::(B++vT t::rest.map vT))=(A++[t]).map vT++(b2::B2++rest.map vT):=by
    rw[← e2];simp
   rw[e4,show((A.length:Int)+1)=(((A++[t]).length:Nat):Int) by simp];rw[show(A.length+(B.length+1+1):Nat)=(A++[t]).length+(B2.length+1) by simp;omega];refine q2.trans ?_
   rw[Ke];rfl
  | true=>
   have e1:jJ (t::rest)=jJ rest:=by unfold jJ;rw[VT];simp[hzi]
   obtain⟨B',q1,q2⟩:=qdy N hN rest A b (B++[vT t]) n (by omega) (by simp;omega)
   refine⟨B',by rw[e1];exact q1,?_⟩
   rw[Kh,zh,hw,e1];rw[show A.map vT++(b::B++vT t::rest.map vT)=A.map vT++(b::(B++[vT t])++rest.map vT) by simp];rw[show(A.length+(B.length+1+1):Nat)=A.length+((B++[vT t]).length+1) by simp];exact q2
theorem qdz{l:List Tm}(h:∀t∈l,zI t.c=false):jJ l=l:=List.filter_eq_self.2 fun t ht=>by rw[h t ht];rfl
theorem qof{A rest:List Tm}{t:Tm}(h:∀t∈A,zI t.c=false)(ht:zI t.c=true):jJ (A++t::rest)=A++jJ rest:=by
 have e:jJ (A++t::rest)=jJ A++jJ (t::rest):=Ws ..
 rw[e,qdz h]
 congr 1
 unfold jJ;rw[VT];simp[ht]
theorem qhY(l:List Tm)(fu N:Nat)(hN:N<9223372036854775808)(hl:l.length=N)(hfu:N<fu):∀(rest A:List Tm) (n:Nat),A++rest=l→(∀t∈A,zI t.c=false)→rest.length<n →
 ∃y,itP n (qcU l fu) (N,(N:Int),(A.length:Int),l.map vT,())=some y∧(y = .exit 0 (N,(N:Int),(N:Int),l.map vT,())∧jJ l=l∨y = .ret (jJ l))
 | [],A,n+1,hA,hz,hn=>by
  rw[zO]at hA;subst hA;refine⟨_,?_,.inl ⟨rfl,qdz hz⟩⟩
  rw[qC];simp only[qcU];rw[hl,zk (by omega),zh,zi]
 | t::rest,A,n+1,hA,hz,hn=>by
  have hNl:A.length+(rest.length+1)=N:=by rw[← hl,← hA];simp
  rw[qC];simp only[qcU,zr,hl];rw[zf (show(A.length:Int)<(N:Int) by omega),zf (show(0:Int)≤(A.length:Int) by omega)];simp only[zd,zN];have hg:(l.map vT)[0+Int.toNat (A.length:Int)]?=some (vT t):=by
   rw[← hA,KN,KY];exact qjS (A.map vT) [] _ (vT t) _ (by simp)
  rw[hg,zi,vT_0,zi,qcV,zi,vT_1,zi,qcV,zi];have hzz:Nat.beq (bK (Int.toNat t.c)) 0=zI t.c:=rfl
  rw[hzz];cases hzi:zI t.c with
  | false=>
   obtain⟨y,q1,q2⟩:=qhY l fu N hN hl hfu rest (A++[t]) n (by rw[← hA];simp) (fun u hu=>by
    rcases zM.1 hu with hu | hu
    · exact hz u hu
    · rw[Kw.1 hu];exact hzi) (by simp at hn;omega)
   refine⟨y,?_,q2⟩
   rw[zh,zi,w64 (by omega) (by omega)];rw[show((A.length:Int)+1)=(((A++[t]).length:Nat):Int) by simp];exact q1
  | true=>
   obtain⟨B',q1,q2⟩:=qdy N hN rest A (vT t) [] fu (by omega) (by simp;omega)
   refine⟨_,?_,.inr rfl⟩
   rw[zd,zk (by omega),zh];have hrow:l.map vT=A.map vT++([vT t]++rest.map vT):=by rw[← hA];simp
   rw[hrow,w64 (by omega) (by omega),show((A.length:Int)+1)=((A.length+(([]:List T).length+1):Nat):Int) by simp,q2];simp only[zi];have hK:(A++jJ rest).length≤N:=by simp at q1 ⊢;omega
   have hlen:((A++jJ rest).map vT++B').length=N:=by simp at q1 ⊢;omega
   have ht1:(0+Int.toNat ((A++jJ rest).length:Int))=((A++jJ rest).map vT).length:=by simp;omega
   rw[zf (show(0:Int)≤((A++jJ rest).length:Int) by omega),zf (show((A++jJ rest).length:Int)≤(N:Int) by omega),zf (show(N:Int)≤(N:Int) by omega)];rw[show Nat.beq (List.length (T.cells (T.agg [T.s (.int .i64 0),T.s (.int .u64 0)]))) 2=true from rfl,hlen];rw[show Nat.ble (0+Int.toNat ((A++jJ rest).length:Int)+Int.toNat ((N:Int)-((A++jJ rest).length:Int))) N=true by rw[VW];omega];simp only[zN,zd];rw[ht1,Wm,qp9 _ _ _ (by simp;omega)];simp only[zi,qA];rw[← hA,qof hz hzi];rfl
def qog(p:List Tm×Unit):Option (List Tm):=some (jJ p.1)
theorem qzN(p:List Tm×Unit)(y:List Tm)(hg:(dc qjx (d1 (cF 176))).good p)(h:qog p=some y):∃n,qEA n p.1 p.2=some y:=by
 obtain⟨l,u⟩:=p;have:=soi h;subst this
 have hl':l.length≤9223372036854775807:=by have:=hg.1.2;rw[jb]at this;exact this
 have hl:l.length<9223372036854775808:=by omega
 obtain⟨z,q1,q2⟩:=qhY l (l.length+1) l.length hl rfl (by omega) l [] (l.length+1) rfl (fun t ht=>by cases ht) (by omega)
 refine⟨l.length+1,?_⟩
 unfold qEA;simp only[zr];have q1':itP (l.length+1) (qcU l (l.length+1)) (l.length,(l.length:Int),(0:Int),l.map vT,())=some z:=q1
 rw[show(l.map fun z21=>T.agg [T.s (.int .i64 (Tm.id z21)),T.s (.int .u64 (Tm.c z21))])=l.map vT from rfl,q1',zi];rcases q2 with⟨rfl,e⟩ | rfl
 · simp only[]
   rw[show Nat.beq 0 0=true from rfl,zd,qhX _ _ (by simp),e];exact qA l
 · rfl
def qqa(p:List Tm×Unit):Option Bool:=some (p.1.any fun t=>!fI t.c)
theorem qhZ(l:List Tm)(hl:l.length<9223372036854775808):∀(rest A:List Tm),A++rest=l→∃n y,itP n Zy (l,(l.length:Int),(A.length:Int),())=some y∧(y = .exit 0 (l,(l.length:Int),(l.length:Int),())∧(rest.any fun t=>!fI t.c)=false∨y = .ret true∧(rest.any fun t=>!fI t.c)=true)
 | [],A,hA=>by
  rw[zO]at hA;subst hA;refine⟨1,_,?_,.inl ⟨rfl,rfl⟩⟩
  rw[qC];simp only[Zy];rw[zk (by omega),zh];rfl
 | t::rest,A,hA=>by
  have hNl:A.length+(rest.length+1)=l.length:=by rw[← hA];simp
  have hg:idx l (A.length:Int)=some t:=by
   rw[jB,← hA,zP (by omega),Vi];rfl
  have hzz:jT (bK (Int.toNat t.c))=fI t.c:=rfl
  cases hzi:fI t.c with
  | true=>
   obtain⟨n,y,q1,q2⟩:=qhZ l hl rest (A++[t]) (by rw[← hA];simp)
   refine⟨n+1,y,?_,?_⟩
   · rw[qC]
     simp only[Zy];rw[zf (show(A.length:Int)<(l.length:Int) by omega),zd,hg,zi,hzz,hzi,Kh,zh,zi,w64 (by omega) (by omega)];rw[show((A.length:Int)+1)=(((A++[t]).length:Nat):Int) by simp];exact q1
   · simpa[hzi]using q2
  | false=>
   refine⟨1,.ret true,?_,.inr ⟨rfl,by simp[hzi]⟩⟩
   rw[qC];simp only[Zy];rw[zf (show(A.length:Int)<(l.length:Int) by omega),zd,hg,zi,hzz,hzi,Kl,zd,zf (show(0:Int)≤(A.length:Int) by omega)];rfl
theorem qvc(p:List Tm×Unit)(y:Bool)(hg:(dc ZV (d1 (cF 178))).good p)(h:qqa p=some y):∃n,qvb n p.1 p.2=some y:=by
 obtain⟨l,u⟩:=p;have:=soi h;subst this
 have hl':l.length≤9223372036854775807:=by have:=hg.1.2;rw[jb]at this;exact this
 have hl:l.length<9223372036854775808:=by omega
 obtain⟨n,z,q1,q2⟩:=qhZ l hl l [] rfl
 refine⟨n,?_⟩
 unfold qvb;have q1':itP n Zy (l,(l.length:Int),(0:Int),())=some z:=q1
 simp only[];rw[q1',zi];rcases q2 with⟨rfl,e⟩ | ⟨rfl,e⟩
 · simp only[e];rfl
 · simp only[e]
def qqb(p:List Tm×Unit):Option (List Tm):=bif p.1.all fun t=>!zI t.c then some p.1 else none
theorem qoh(l:List Tm)(hl:l.length<9223372036854775808)(hz:∀t∈l,zI t.c=false):∀fu n rest A,rest.length<n→A++rest=l→itP n (qgs fu l) (l,(l.length:Int),((A:List Tm).length:Int),())=some (.exit 0 (l,(l.length:Int),(l.length:Int),())):=by
 intro fu n;induction n with
 | zero=>intro rest A h;omega
 | succ n ih=>
  intro rest A h hA;rw[qC];simp only[qgs]
  match rest,h,hA with
  | [],_,hA=>
   rw[zO]at hA;subst hA;rw[zk (by omega),zh];rfl
  | t::rest,h,hA=>
   have hNl:A.length+(rest.length+1)=l.length:=by rw[← hA];simp
   have hg:idx l (A.length:Int)=some t:=by
    rw[jB,← hA,zP (by omega),Vi];rfl
   have hzz:Nat.beq (bK (Int.toNat t.c)) 0=zI t.c:=rfl
   rw[zf (show(A.length:Int)<(l.length:Int) by omega),zd,hg,zi,hzz,hz t (by rw[← hA];simp),zh,zi,w64 (by omega) (by omega)];rw[show((A.length:Int)+1)=(((A++[t]).length:Nat):Int) by simp];exact ih rest (A++[t]) (by simp at h;omega) (by rw[← hA];simp)
theorem qvd(p:List Tm×Unit)(y:List Tm)(hg:(dc ZV (d1 (cF 176))).good p)(h:qqb p=some y):∃n,qva n p.1 p.2=some y:=by
 obtain⟨l,u⟩:=p;obtain⟨h1,h2⟩:=qi h;have:=soi h2;subst this
 have hl':l.length≤9223372036854775807:=by have:=hg.1.2;rw[jb]at this;exact this
 have q:=qoh l (by omega) (fun t ht=>by have:=KH.1 h1 t ht;simpa using this) (l.length+1) (l.length+1) l [] (by omega) rfl
 refine⟨l.length+1,?_⟩
 unfold qva;exact obs q rfl
end
end Su
end
section
namespace Su
open Go Fly
noncomputable section
def qve  (a:(Bool×Int×(List Tm)×Int)):Option (Bool×Int×(List Tm)×Int) :=
 (bif(true&&(Nat.beq (List.length (List.map (fun z0=>(T.agg [(T.s (.int .i64 (Tm.id z0))),(T.s (.int .u64 (Tm.c z0)))])) a.2.2.1)) (List.length (List.map (fun z1=>(T.agg [(T.s (.int .i64 (Tm.id z1))),(T.s (.int .u64 (Tm.c z1)))])) a.2.2.1))))then
 (((qu (List.map (fun z2=>(T.agg [(T.s (.int .i64 (Tm.id z2))),(T.s (.int .u64 (Tm.c z2)))])) a.2.2.1)).bind fun x3=>
 some (x3,())).bind fun x4=>
 some (jJ x4.1)).bind fun x5=>
 (bif(Nat.beq (bK a.2.1.toNat) 0)then
 (bif(Nat.beq (bK a.2.2.2.toNat) 0)then
 (bif(List.any x5 (fun z6=>(!(fI (Tm.c z6)))))then
 some (true,(0:Int),[],(0:Int))
 else
  some (a.1,(0:Int),x5,(0:Int)))
 else
  (bif(!(jT (bK a.2.2.2.toNat)))then
  some (true,(0:Int),[],(0:Int))
 else
  (bif(List.any x5 (fun z7=>(!(fI (Tm.c z7)))))then
  some (true,(0:Int),[],(0:Int))
 else
  some (a.1,(0:Int),x5,a.2.2.2))))
 else
  (bif(Nat.beq (bK a.2.2.2.toNat) 0)then
  (bif(!(jT (bK a.2.1.toNat)))then
  some (true,(0:Int),[],(0:Int))
 else
  (bif(List.any x5 (fun z8=>(!(fI (Tm.c z8)))))then
  some (true,(0:Int),[],(0:Int))
 else
  some (a.1,a.2.1,x5,(0:Int))))
 else
  (bif(!(jT (bK a.2.1.toNat)))then
  some (true,(0:Int),[],(0:Int))
 else
  (bif(!(jT (bK a.2.2.2.toNat)))then
  some (true,(0:Int),[],(0:Int))
 else
  (bif(List.any x5 (fun z9=>(!(fI (Tm.c z9)))))then
  some (true,(0:Int),[],(0:Int))
 else
  some (a.1,a.2.1,x5,a.2.2.2))))))
 else none)
def qoi  (a:(Bool×Int×(List Tm)×Int)):Option (Bool×Int×(List Tm)×Int) :=
 (bif(List.all a.2.2.1 (fun z0=>(!(zI (Tm.c z0)))))then
 some a.2.2.1
 else none).bind fun x1=>
  (bif(Nat.beq (bK a.2.1.toNat) 0)then
  (bif(Nat.beq (bK a.2.2.2.toNat) 0)then
  (bif(List.any x1 (fun z2=>(!(fI (Tm.c z2)))))then
  some (true,(0:Int),[],(0:Int))
 else
  some (a.1,(0:Int),x1,(0:Int)))
 else
  (bif(!(jT (bK a.2.2.2.toNat)))then
  some (true,(0:Int),[],(0:Int))
 else
  (bif(List.any x1 (fun z3=>(!(fI (Tm.c z3)))))then
  some (true,(0:Int),[],(0:Int))
 else
  some (a.1,(0:Int),x1,a.2.2.2))))
 else
  (bif(Nat.beq (bK a.2.2.2.toNat) 0)then
  (bif(!(jT (bK a.2.1.toNat)))then
  some (true,(0:Int),[],(0:Int))
 else
  (bif(List.any x1 (fun z4=>(!(fI (Tm.c z4)))))then
  some (true,(0:Int),[],(0:Int))
 else
  some (a.1,a.2.1,x1,(0:Int))))
 else
  (bif(!(jT (bK a.2.1.toNat)))then
  some (true,(0:Int),[],(0:Int))
 else
  (bif(!(jT (bK a.2.2.2.toNat)))then
  some (true,(0:Int),[],(0:Int))
 else
  (bif(List.any x1 (fun z5=>(!(fI (Tm.c z5)))))then
  some (true,(0:Int),[],(0:Int))
 else
  some (a.1,a.2.1,x1,a.2.2.2))))))
def YO:(Int×(List Tm)×Int×Int×Bool×Int×(List Tm)×Int×Unit)→Option ((Int×(List Tm)×Int×Int×Bool×Int×(List Tm)×Int×Unit) ⊕ (Lp (Int×(List Tm)×Int×Int×Bool×Int×(List Tm)×Int×Unit) Bool)):=fun p0=>(bif(decide (p0.2.2.2.1<p0.2.2.1))then
 (idx p0.2.1 p0.2.2.2.1).bind fun x1=>
 (bif(decide ((Tm.id x1)≤p0.1))then
 some (.inr (.ret false))
 else
  (bif(Nat.beq (bK (Int.toNat (Tm.c x1))) 0)then
  some (.inr (.ret false))
 else
  (bif(!(jT (bK (Int.toNat (Tm.c x1)))))then
  some (.inr (.ret false))
 else
  some (.inl ((Tm.id x1),p0.2.1,p0.2.2.1,(IntKind.wrap .i64 (p0.2.2.2.1+1)),p0.2.2.2.2.1,p0.2.2.2.2.2.1,p0.2.2.2.2.2.2.1,p0.2.2.2.2.2.2.2.1,())))))
 else
  some (.inr (.exit 0 (p0.1,p0.2.1,p0.2.2.1,p0.2.2.2.1,p0.2.2.2.2.1,p0.2.2.2.2.2.1,p0.2.2.2.2.2.2.1,p0.2.2.2.2.2.2.2.1,()))))
def qEB  (fu:Nat)(a:(Bool×Int×(List Tm)×Int)):Option Bool :=
 (bif a.1 then
 (bif(decide (a.2.1=0))then
 (bif(decide (a.2.2.2=0))then
 some (decide ((List.length a.2.2.1:Int)=0))
 else
  some false)
 else
  some false)
 else
  (itP fu (YO) ((-1),a.2.2.1,(List.length a.2.2.1:Int),(0:Int),a.1,a.2.1,a.2.2.1,a.2.2.2,())).bind fun x2=>
  (match x2 with
 | .exit i3 p4=>(bif(Nat.beq i3 0)then
  (bif(jT (bK p4.2.2.2.2.2.1.toNat))then
  (bif(!(decide (p4.2.2.2.2.2.1=9223372036854775808)))then
  (bif(jT (bK p4.2.2.2.2.2.2.2.1.toNat))then
  some (decide ((Int.fdiv p4.2.2.2.2.2.2.2.1 (2^63))=0))
 else
  some false)
 else
  some false)
 else
  some false)
 else none)
 | .ret o5=>some o5))
abbrev Fm:=Bool×(Int×List Tm×Int)
def qgX:Fm:=(true,0,[],0)
def nzI(f:Int):Int:=bif zI f then 0 else f
theorem qoj:fI 0=true:=rfl
def qCy:{f:Fm→Fm // ∀a,f a=bif(fI (nzI a.2.1)&&fI (nzI a.2.2.2))&&!((jJ a.2.2.1).any fun t=>!fI t.c)then(a.1,nzI a.2.1,jJ a.2.2.1,nzI a.2.2.2)else qgX}:=Classical.choice ⟨⟨_,fun _=>rfl⟩⟩
def jR(a:Fm):Fm:=qCy.1 a
theorem qaP(a:Fm):jR a=bif(fI (nzI a.2.1)&&fI (nzI a.2.2.2))&&!((jJ a.2.2.1).any fun t=>!fI t.c)then(a.1,nzI a.2.1,jJ a.2.2.1,nzI a.2.2.2)else qgX:=qCy.2 a
def qjT(a:Fm):Option Fm:=some (jR a)
theorem qx(n:Nat):Nat.beq n n=true:=by simp
theorem qvf(a y:Fm)(hg:(d1 qgb).good a)(h:qjT a=some y):qve a=some y:=by
 obtain⟨b,m,l,e⟩:=a;have:=soi h;subst this
 rw[qaP];unfold qve;simp only[qx,zN,zd];refine obs (t:=jJ l) (obs (obs (qA l) rfl) rfl) ?_
 have hz:∀f:Int,Nat.beq (bK f.toNat) 0=zI f:=fun _=>rfl
 have hf:∀f:Int,jT (bK f.toNat)=fI f:=fun _=>rfl
 simp only[hz,hf];unfold nzI;cases zI m <;> cases zI e <;> simp only[zd,zh,qoj] <;> cases fI m <;> cases fI e <;> cases(jJ l).any (fun t=>!fI t.c) <;> rfl
def ye:Int→List Tm→Bool
 | _,[]=>true
 | last,t::l=>decide (last<t.id)&&(!zI t.c&&(fI t.c&&ye t.id l))
def mayL:{f:Fm→Bool // ∀a,f a=bif a.1 then decide (a.2.1=0)&&(decide (a.2.2.2=0)&&a.2.2.1.isEmpty)else ye (-1) a.2.2.1&&(fI a.2.1&&(!decide (a.2.1=9223372036854775808)&&(fI a.2.2.2&&decide (Int.fdiv a.2.2.2 (2^63)=0))))}:=Classical.choice ⟨⟨_,fun _=>rfl⟩⟩
def yz(a:Fm):Bool:=mayL.1 a
theorem qe9(a:Fm):yz a=bif a.1 then decide (a.2.1=0)&&(decide (a.2.2.2=0)&&a.2.2.1.isEmpty)else ye (-1) a.2.2.1&&(fI a.2.1&&(!decide (a.2.1=9223372036854775808)&&(fI a.2.2.2&&decide (Int.fdiv a.2.2.2 (2^63)=0)))):=mayL.2 a
def qvg(a:Fm):Option Bool:=some (yz a)
theorem qmk(l:List Tm)(hl:l.length<9223372036854775808)(q:Bool×Int×List Tm×Int×Unit):∀(rest A:List Tm) (last:Int),A++rest=l→∃n y,itP n YO (last,l,(l.length:Int),(A.length:Int),q)=some y∧((∃last',y = .exit 0 (last',l,(l.length:Int),(l.length:Int),q))∧ye last rest=true∨y = .ret false∧ye last rest=false)
 | [],A,last,hA=>by
  rw[zO]at hA;subst hA;refine⟨1,_,?_,.inl ⟨⟨last,rfl⟩,rfl⟩⟩
  rw[qC];simp only[YO];rw[zk (by omega),zh];rfl
 | t::rest,A,last,hA=>by
  have hNl:A.length+(rest.length+1)=l.length:=by rw[← hA];simp
  have hg:idx l (A.length:Int)=some t:=by
   rw[jB,← hA,zP (by omega),Vi];rfl
  have hz:Nat.beq (bK (Int.toNat t.c)) 0=zI t.c:=rfl
  have hf:jT (bK (Int.toNat t.c))=fI t.c:=rfl
  obtain⟨n,y,q1,q2⟩:=qmk l hl q rest (A++[t]) t.id (by rw[← hA];simp)
  by_cases h1:t.id≤last
  · refine⟨1,.ret false,?_,.inr ⟨rfl,by unfold ye;rw[zk (by omega)];rfl⟩⟩
    rw[qC];simp only[YO];rw[zf (show(A.length:Int)<(l.length:Int) by omega),zd,hg,zi,zf h1];rfl
  · cases h2:zI t.c with
    | true=>
     refine⟨1,.ret false,?_,.inr ⟨rfl,by unfold ye;rw[h2];simp⟩⟩
     rw[qC];simp only[YO];rw[zf (show(A.length:Int)<(l.length:Int) by omega),zd,hg,zi,zk h1,hz,h2];rfl
    | false=>
     cases h3:fI t.c with
     | false=>
      refine⟨1,.ret false,?_,.inr ⟨rfl,by unfold ye;rw[h3];simp⟩⟩
      rw[qC];simp only[YO];rw[zf (show(A.length:Int)<(l.length:Int) by omega),zd,hg,zi,zk h1,hz,h2,hf,h3];rfl
     | true=>
      have e:ye last (t::rest)=ye t.id rest:=by
       show(decide (last<t.id)&&(!zI t.c&&(fI t.c&&ye t.id rest)))=_
       rw[zf (by omega),h2,h3];rfl
      refine⟨n+1,y,?_,by rw[e];exact q2⟩
      rw[qC];simp only[YO];rw[zf (show(A.length:Int)<(l.length:Int) by omega),zd,hg,zi,zk h1,hz,h2,hf,h3];simp only[Kh,zh,zi];rw[w64 (by omega) (by omega),show((A.length:Int)+1)=(((A++[t]).length:Nat):Int) by simp];exact q1
theorem qzO(a:Fm)(y:Bool)(hg:(d1 qB).good a)(h:qvg a=some y):∃n,qEB n a=some y:=by
 obtain⟨b,m,l,e⟩:=a;have:=soi h;subst this
 have hl':l.length≤9223372036854775807:=by have:=hg.2.2.1.2;rw[jb]at this;exact this
 have hf:∀f:Int,jT (bK f.toNat)=fI f:=fun _=>rfl
 rw[qe9];unfold qEB;simp only[hf];cases b with
 | true=>
  refine⟨0,?_⟩
  simp only[zd];have:decide (((l.length:Nat):Int)=0)=l.isEmpty:=by cases l <;> simp <;> omega
  rw[this];cases decide (m=0) <;> cases decide (e=0) <;> rfl
 | false=>
  obtain⟨n,z,q1,q2⟩:=qmk l (by omega) (false,m,l,e,()) l [] (-1) rfl
  refine⟨n,?_⟩
  simp only[zh];have q1':itP n YO (-1,l,(l.length:Int),(0:Int),false,m,l,e,())=some z:=q1
  rw[q1',zi];rcases q2 with⟨⟨last',rfl⟩,e1⟩ | ⟨rfl,e1⟩
  · simp only[e1]
    rw[show Nat.beq 0 0=true from rfl,zd];cases fI m <;> cases decide (m=9223372036854775808) <;> cases fI e <;> rfl
  · simp only[e1];rfl
def qml(a:Fm):Option Fm:=bif a.2.2.1.all fun t=>!zI t.c then some (jR a)else none
theorem qrV(a y:Fm)(hg:(d1 qB).good a)(h:qml a=some y):qoi a=some y:=by
 obtain⟨b,m,l,e⟩:=a;obtain⟨h1,h2⟩:=qi h;have:=soi h2;subst this
 have hd:jJ l=l:=qdz fun t ht=>by have:=KH.1 h1 t ht;simpa using this
 rw[qaP];unfold qoi;have h1':(List.all l fun z0=>!zI (Tm.c z0))=true:=h1
 have hz:∀f:Int,Nat.beq (bK f.toNat) 0=zI f:=fun _=>rfl
 have hf:∀f:Int,jT (bK f.toNat)=fI f:=fun _=>rfl
 simp only[h1',zd,zi,hz,hf,hd];unfold nzI;cases zI m <;> cases zI e <;> simp only[zd,zh,qoj] <;> cases fI m <;> cases fI e <;> cases l.any (fun t=>!fI t.c) <;> rfl
end
end Su
end
section
namespace Su
open Go Fly
noncomputable section
def qbj:((List Fm)×Int×Int×Unit)→Option (((List Fm)×Int×Int×Unit) ⊕ (Lp ((List Fm)×Int×Int×Unit) Bool)):=fun p0=>(bif(decide (p0.2.2.1<p0.2.1))then
 (idx p0.1 p0.2.2.1).bind fun x1=>
 (bif x1.1 then
 some (.inr (.ret (decide (0≤p0.2.2.1))))
 else
  (bif(!(yz (x1.1,x1.2.1,x1.2.2.1,x1.2.2.2)))then
  some (.inr (.ret (decide (0≤p0.2.2.1))))
 else
  some (.inl (p0.1,p0.2.1,(IntKind.wrap .i64 (p0.2.2.1+1)),()))))
 else
  some (.inr (.exit 0 (p0.1,p0.2.1,p0.2.2.1,()))))
def qok  (fu:Nat)(l:(List Fm)):Option Bool :=
 (itP fu (qbj) (l,(List.length l:Int),(0:Int),())).bind fun x2=>
 (match x2 with
 | .exit i3 p4=>(bif(Nat.beq i3 0)then
  some false
 else none)
 | .ret o5=>some o5)
theorem qvh{α:Type}(l:List α)(F:List α×(Int×Int×Unit)→Option ((List α×Int×Int×Unit) ⊕ (Lp (List α×Int×Int×Unit) Bool)))(p:α→Bool)
 (hF:∀(i:Nat) (x:α),l[i]?=some x→F (l,(l.length:Int),(i:Int),())=bif p x then some (.inr (.ret true))else some (.inl (l,(l.length:Int),((i+1:Nat):Int),())))
 (hE:F (l,(l.length:Int),(l.length:Int),())=some (.inr (.exit 0 (l,(l.length:Int),(l.length:Int),())))) :
 ∃n y,itP n F (l,(l.length:Int),(0:Int),())=some y∧(y = .exit 0 (l,(l.length:Int),(l.length:Int),())∧l.any p=false∨y = .ret true∧l.any p=true):=by
 have main:∀(rest A:List α),A++rest=l→∃n y,itP n F (l,(l.length:Int),(A.length:Int),())=some y∧(y = .exit 0 (l,(l.length:Int),(l.length:Int),())∧rest.any p=false∨y = .ret true∧rest.any p=true):=by
  intro rest;induction rest with
  | nil=>
   intro A hA;rw[zO]at hA;subst hA;exact⟨1,_,by rw[qC,hE];rfl,.inl ⟨rfl,rfl⟩⟩
  | cons x rest ih=>
   intro A hA;have hg:l[A.length]?=some x:=by rw[← hA,zP (by omega),Vi];rfl
   have:=hF A.length x hg
   cases hp:p x with
   | true=>
    rw[hp,zd]at this;exact⟨1,.ret true,by rw[qC,this];rfl,.inr ⟨rfl,by simp[hp]⟩⟩
   | false=>
    rw[hp,zh]at this;obtain⟨n,y,q1,q2⟩:=ih (A++[x]) (by rw[← hA];simp)
    refine⟨n+1,y,?_,by simpa[hp]using q2⟩
    rw[qC,this];simp only[zi];rw[show A.length+1=(A++[x]).length by simp];exact q1
 exact main l [] rfl
def qmm(l:List Fm):Option Bool:=some (l.any fun a=>a.1||!yz a)
theorem qrW(l:List Fm)(y:Bool)(hg:(d1 qDL).good l)(h:qmm l=some y):∃n,qok n l=some y:=by
 have:=soi h;subst this
 have hl':l.length≤9223372036854775807:=by have:=hg.2;rw[jb]at this;exact this
 obtain⟨n,z,q1,q2⟩:=qvh l qbj (fun a=>a.1||!yz a) (fun i x hx=>by
  have hi:i<l.length:=(zA.1 hx).1
  simp only[qbj];rw[zf (show(i:Int)<(l.length:Int) by omega),zd,jB,hx,zf (show(0:Int)≤(i:Int) by omega),w64 (by omega) (by omega)];obtain⟨b,m,t,e⟩:=x;cases b <;> cases h:yz (false,m,t,e) <;> simp[h])
  (by simp only[qbj];rw[zk (by omega),zh])
 refine⟨n,?_⟩
 unfold qok;rw[q1,zi];rcases q2 with⟨rfl,e⟩ | ⟨rfl,e⟩
 · simp only[e];rfl
 · simp only[e]
end
end Su
end
section
namespace Su
open Go Fly
noncomputable section
abbrev qdA:=((List Tm)×Int×Int×(List T)×Bool×Int×Nat×Int×Bool×Int×Nat×Int×(List T)×Unit)
def qcW:qdA→Option (qdA ⊕ qdA):=fun p1=>(bif(decide (p1.2.2.1<p1.2.1))then
 (idx p1.1 p1.2.2.1).bind fun x2=>
 (bif((true&&(Nat.beq p1.2.2.2.2.2.2.2.2.2.2.1 p1.2.2.2.2.2.2.2.2.2.2.2.2.1.length))&&(Nat.ble (p1.2.2.2.2.2.2.2.2.2.2.2.2.1.length+(List.length [(T.agg [(T.s (.int .i64 (Tm.id x2))),(T.s (.int .u64 (((QS (Int.toNat (Tm.c x2))):Nat):Int)))])])) 549755813888))then
 some (.inl (p1.1,p1.2.1,(IntKind.wrap .i64 (p1.2.2.1+1)),p1.2.2.2.1,p1.2.2.2.2.1,p1.2.2.2.2.2.1,p1.2.2.2.2.2.2.1,p1.2.2.2.2.2.2.2.1,p1.2.2.2.2.2.2.2.2.1,p1.2.2.2.2.2.2.2.2.2.1,(List.length (p1.2.2.2.2.2.2.2.2.2.2.2.2.1++[(T.agg [(T.s (.int .i64 (Tm.id x2))),(T.s (.int .u64 (((QS (Int.toNat (Tm.c x2))):Nat):Int)))])])),p1.2.2.2.2.2.2.2.2.2.2.2.1,(p1.2.2.2.2.2.2.2.2.2.2.2.2.1++[(T.agg [(T.s (.int .i64 (Tm.id x2))),(T.s (.int .u64 (((QS (Int.toNat (Tm.c x2))):Nat):Int)))])]),()))
 else none)
 else
  some (.inr (p1.1,p1.2.1,p1.2.2.1,p1.2.2.2.1,p1.2.2.2.2.1,p1.2.2.2.2.2.1,p1.2.2.2.2.2.2.1,p1.2.2.2.2.2.2.2.1,p1.2.2.2.2.2.2.2.2.1,p1.2.2.2.2.2.2.2.2.2.1,p1.2.2.2.2.2.2.2.2.2.2.1,p1.2.2.2.2.2.2.2.2.2.2.2.1,p1.2.2.2.2.2.2.2.2.2.2.2.2.1,())))
def qEC  (fu:Nat)(a:Fm):Option Fm :=
 (bif(List.any [(a.1,a.2.1,a.2.2.1,a.2.2.2)] (fun z0=>(z0.1||(!(yz z0)))))then
 some (true,(0:Int),[],(0:Int))
 else
  (itP fu (qcW) (a.2.2.1,(List.length a.2.2.1:Int),(0:Int),[],false,(0:Int),0,(0:Int),false,(QS a.2.1.toNat:Int),0,a.2.2.2,[],())).bind fun x3=>
  (bif(true&&(Nat.beq x3.2.2.2.2.2.2.2.2.2.2.1 x3.2.2.2.2.2.2.2.2.2.2.2.2.1.length))then
  (((((qu x3.2.2.2.2.2.2.2.2.2.2.2.2.1).bind fun x4=>
  some (x4,x3.2.2.2.2.2.2.2.2.2.2.2.1)).bind fun x5=>
  some (x3.2.2.2.2.2.2.2.2.2.1,x5)).bind fun x6=>
  some (x3.2.2.2.2.2.2.2.2.1,x6)).bind fun x7=>
  some (jR x7)).bind fun x8=>
  some (x8.1,x8.2.1,x8.2.2.1,x8.2.2.2)
 else none))
def qvi  (f:Int):Option Fm :=
 some ((jR (false,f,[],(0:Int))).1,(jR (false,f,[],(0:Int))).2.1,(jR (false,f,[],(0:Int))).2.2.1,(jR (false,f,[],(0:Int))).2.2.2)
def qam(f:Int):Int:=((QS f.toNat:Nat):Int)
def qgY(t:Tm):Tm:=⟨t.id,qam t.c⟩
def okF(a:Fm):Bool:=!(a.1||!yz a)
def JL(l:List Tm):Bool:=Nat.ble l.length 549755813888
def qmn(a:Fm):Fm:=bif okF a then jR (false,qam a.2.1,a.2.2.1.map qgY,a.2.2.2)else qgX
def qmo(f:Int):Option Fm:=some (jR (false,f,[],0))
theorem qrX(f:Int)(y:Fm)(hg:(d1 (cI .u64)).good f)(h:qmo f=some y):qvi f=some y:=h
def qjU(a:Fm):Option Fm:=bif JL a.2.2.1 then some (qmn a)else none
theorem qmp(l:List Tm)(hl:l.length≤549755813888)(r0:List T)(b0 b1:Bool)(m0 e0 m1 e1:Int)(n0:Nat):∀(rest A:List Tm),A++rest=l →
 ∃n,itP n qcW (l,(l.length:Int),(A.length:Int),r0,b0,m0,n0,e0,b1,m1,A.length,e1,(A.map qgY).map vT,()) =
  some (l,(l.length:Int),(l.length:Int),r0,b0,m0,n0,e0,b1,m1,l.length,e1,(l.map qgY).map vT,())
 | [],A,hA=>by
  rw[zO]at hA;subst hA;refine⟨1,?_⟩
  rw[qC];simp only[qcW];rw[zk (by omega),zh];rfl
 | t::rest,A,hA=>by
  have hNl:A.length+(rest.length+1)=l.length:=by rw[← hA];simp
  have hg:idx l (A.length:Int)=some t:=by
   rw[jB,← hA,zP (by omega),Vi];rfl
  obtain⟨n,q⟩:=qmp l hl r0 b0 b1 m0 e0 m1 e1 n0 rest (A++[t]) (by rw[← hA];simp)
  refine⟨n+1,?_⟩
  rw[qC];simp only[qcW];have hR:((A.map qgY).map vT).length=A.length:=by simp
  have e:(A.map qgY).map vT++[T.agg [T.s (.int .i64 (Tm.id t)),T.s (.int .u64 (((QS (Int.toNat (Tm.c t))):Nat):Int))]]=((A++[t]).map qgY).map vT:=by simp[qgY,qam];rfl
  rw[zf (show(A.length:Int)<(l.length:Int) by omega),zd,hg,zi,hR,qx,Xr,zn (by omega),w64 (by omega) (by omega),e];simp only[zN,zd,zi,zr];rw[show((A.length:Int)+1)=(((A++[t]).length:Nat):Int) by simp];exact q
theorem qzP(a y:Fm)(hg:(d1 qB).good a)(h:qjU a=some y):∃n,qEC n a=some y:=by
 obtain⟨b,m,l,e⟩:=a;obtain⟨h1,h2⟩:=qi h;have:=soi h2;subst this
 have hl:l.length≤549755813888:=zo h1
 have ha:List.any [((b,m,l,e):Fm)] (fun z0=>(z0.1||(!(yz z0)))) = !okF (b,m,l,e):=by simp[okF]
 obtain⟨n,q⟩:=qmp l hl [] false false 0 0 (qam m) e 0 l [] rfl
 refine⟨n,?_⟩
 unfold qEC qmn;simp only[];rw[ha];cases okF (b,m,l,e)with
 | false=>rfl
 | true=>
  rw[Kh,zh,zd];have q':itP n qcW (l,(l.length:Int),(0:Int),([]:List T),false,(0:Int),0,(0:Int),false,((QS m.toNat:Nat):Int),0,e,([]:List T),())=some (l,(l.length:Int),(l.length:Int),([]:List T),false,(0:Int),0,(0:Int),false,((QS m.toNat:Nat):Int),l.length,e,(l.map qgY).map vT,()):=q
  rw[q',zi];have hR:((l.map qgY).map vT).length=l.length:=by simp
  simp only[hR,qx,zN,zd];exact obs (obs (obs (obs (obs (qA (l.map qgY)) rfl) rfl) rfl) rfl) rfl
end
end Su
end
section
namespace Su
open Go Fly
noncomputable section
def Jc(a b m:Int):Int:=((Qt a.toNat b.toNat m:Nat):Int)
def yP(a b m:Int):Int:=((qrU a.toNat b.toNat m:Nat):Int)
def upI(l:List Int):Int:=((upS 0 l:Nat):Int)
end
end Su
end
