/-
  What functions of the program compute, in plain Lean, and that the evaluator finds it.
-/
import Derived.Test.YtnegfdebjikfiaaGreatSuXl
import Derived.Test.YtnegfdebjikfiaaGreatNC13
set_option linter.unusedVariables false
set_option linter.unusedSimpArgs false
set_option maxRecDepth 10000
section
namespace Su
open Go Fly
noncomputable section
def qBD  (a:Int)(b:Int)(mode:Int):Option Int :=
 (qr4 a b mode).bind fun x0=>
 some x0.1
def qBE  (a:Int)(b:Int)(mode:Int):Option Int :=
 (qxt a b mode).bind fun x0=>
 some x0.1
def qip:Stp (Int×Int×(List Int)×Int×Int×Unit):=fun p0=>(bif(decide (p0.2.2.2.2.1<p0.2.2.2.1))then
 (idx p0.2.2.1 p0.2.2.2.2.1).bind fun x1=>
 (qr4 p0.2.1 x1 p0.1).bind fun x2=>
 some (.inl (p0.1,x2.1,p0.2.2.1,p0.2.2.2.1,(IntKind.wrap .i64 (p0.2.2.2.2.1+1)),()))
 else
  some (.inr (p0.1,p0.2.1,p0.2.2.1,p0.2.2.2.1,p0.2.2.2.2.1,())))
def aUp  (fu:Nat)(l:(List Int)):Option Int :=
 (itP fu (qip) ((1:Int),(0:Int),l,(List.length l:Int),(0:Int),())).bind fun x3=>
 some x3.2.1
def qiq(p:Int×Int×Int):Option Int:=some (Qe p.1.toNat p.2.1.toNat p.2.2:Int)
def qir(p:Int×Int×Int):Option Int:=some (qpr p.1.toNat p.2.1.toNat p.2.2:Int)
theorem qxv(p:Int×Int×Int)(y:Int)(hg:(dc (cI .u64) (dc (cI .u64) (d1 (cI .u8)))).good p)(h:qiq p=some y):qBD p.1 p.2.1 p.2.2=some y:=by
 obtain⟨a,b,mode⟩:=p;obtain⟨A,rfl,hA⟩:=qG hg.1;obtain⟨B,rfl,hB⟩:=qG hg.2.1;have:=soi h;subst this
 unfold qBD;obtain⟨fl,hfl⟩:=qj7 hA hB mode;simp only[]at *
 rw[hfl,jX];rfl
theorem qxw(p:Int×Int×Int)(y:Int)(hg:(dc (cI .u64) (dc (cI .u64) (d1 (cI .u8)))).good p)(h:qir p=some y):qBE p.1 p.2.1 p.2.2=some y:=by
 obtain⟨a,b,mode⟩:=p;obtain⟨A,rfl,hA⟩:=qG hg.1;obtain⟨B,rfl,hB⟩:=qG hg.2.1;have:=soi h;subst this
 unfold qBE;obtain⟨fl,hfl⟩:=qr5 hA hB mode;simp only[]at *
 rw[hfl,qd2];rfl
theorem qis(b:Bool):sgN b≤9223372036854775808:=by unfold sgN;cases b <;> simp
theorem qit(tw:Bool)(k:Nat):Jn tw k≤9218868437227405312:=by
 unfold Jn qU;cases h:Nat.ble k 9218868437227405311 with
 | true=>have:=zr h;rw[zf];omega
 | false=>cases tw <;> simp only[zf,zi] <;> omega
theorem qr6(neg:Bool)(mode:Int)(M E:Nat)(rest:Bool):RN neg mode M E rest<18446744073709551616:=by
 have h1:=qis neg;unfold RN;cases Nat.beq M 0 with
 | true=>rw[zf];omega
 | false=>
  rw[zi];have:=qit (twN neg mode) (qp M E+(upN neg mode (qO M E % 2 == 1) (hfN M E) (rest||rsN M E)).toNat)
  omega
theorem qnD(nx ny:Bool)(mode:Int)(X Y D:Nat)(ey:Int):qcP nx ny mode X Y D ey<18446744073709551616:=by
 unfold qcP;split
 · exact qr6 _ _ _ _ _
 · split
   · have:=qis (decide (mode=2));omega
   · exact qr6 _ _ _ _ _
theorem qiu{a b:Nat}(ha:a<18446744073709551616)(hb:b<18446744073709551616)(mode:Int):Qe a b mode<18446744073709551616:=by
 rw[jX];unfold yg qfQ;have h2:=qis (decide (mode=2))
 generalize qB (bK a)=c1
 generalize qB (bK b)=c2
 generalize qQ (bK a)=c3
 generalize qQ (bK b)=c4
 generalize Nat.beq (bK a) 0=c5
 generalize Nat.beq (bK b) 0=c6
 generalize decide (bS a=bS b)=c7
 generalize Zy a b=c8
 have h3:=qnD (bS b) (bS a) mode (kM (bK b)) (kM (bK a)) (kE (bK b)-kE (bK a)) ((kE (bK a):Int)-1074)
 have h4:=qnD (bS a) (bS b) mode (kM (bK a)) (kM (bK b)) (kE (bK a)-kE (bK b)) ((kE (bK b):Int)-1074)
 generalize qcP (bS b) (bS a) mode (kM (bK b)) (kM (bK a)) (kE (bK b)-kE (bK a)) ((kE (bK a):Int)-1074)=z1 at *
 generalize qcP (bS a) (bS b) mode (kM (bK a)) (kM (bK b)) (kE (bK a)-kE (bK b)) ((kE (bK b):Int)-1074)=z2 at *
 generalize sgN (decide (mode=2))=z3 at *
 cases c1
 · cases c2
   · cases c3 <;> cases c4 <;> cases c5 <;> cases c6 <;> cases c7 <;> cases c8 <;> simp only[zf,zi,zL,Bool.and_false,zK,Kh,Kf,zX] <;> omega
   · simp only[zf,zi];omega
 · simp only[zf,zi];omega
def upS(s:Nat):List Int→Nat
 | []=>s
 | x::l=>upS (Qe s x.toNat 1) l
def qnE(l:List Int):Option Int:=some (upS 0 l:Int)
theorem qnF(l0:List Int):∀(l:List Int) (i s:Nat),l0.drop i=l→i≤l0.length→(∀x∈l,inR .u64 x=true)→s<18446744073709551616→l0.length≤9223372036854775807 →
 ∃n,itP n qip (1,(s:Int),l0,(l0.length:Int),(i:Int),())=some (1,(upS s l:Int),l0,(l0.length:Int),(l0.length:Int),())
 | [],i,s,hl,hi,_,_,_=>by
  have:l0.length≤i:=by
   rcases VH i l0.length with h | h
   · rw[Kb h]at hl;cases hl
   · exact h
  have:i=l0.length:=by omega
  subst this;refine yP ?_
  simp only[qip];rw[zh (by omega),zi];rfl
 | x::l,i,s,hl,hi,hx,hs,hlen=>by
  have hlt:i<l0.length:=by
   rcases VH i l0.length with h | h
   · exact h
   · rw[KY h]at hl;cases hl
  have hc:=Kb hlt;rw[hc]at hl;simp only[VN]at hl;obtain⟨h1,h2⟩:=hl;obtain⟨X,rfl,hX⟩:=qG (hx x (zq ..))
  obtain⟨fl,hfl⟩:=qj7 hs hX 1
  obtain⟨n,hn⟩:=qnF l0 l (i+1) (Qe s X 1) h2 (by omega) (fun y hy=>hx y (zo _ hy)) (qiu hs hX 1) hlen
  refine QR ?_ ⟨n,hn⟩
  simp only[qip];rw[zd (by omega),zf,jL,zG hlt,h1,zj,hfl,zj,w64 (by omega) (by omega),jX];rfl
theorem qBF(l:List Int)(y:Int)(hg:(d1 (cQ 2 1)).good l)(h:qnE l=some y):∃n,aUp n l=some y:=by
 have:=soi h;subst this
 have hl:=hg.2;rw[jc]at hl;obtain⟨n,hn⟩:=qnF l l 0 0 rfl (Ve _) (fun x hx=>hg.1 x hx) (by decide) hl
 refine⟨n,?_⟩
 unfold aUp;have e:((0:Nat):Int)=0:=rfl
 rw[e]at hn;rw[hn];rfl
end
end Su
end
section
namespace Su
open Go Fly
noncomputable section
def qd3:Stp (Nat×Int×Int×(List T)×Unit):=fun p8=>(bif(decide (p8.2.2.1<(p8.1:Int)))then
 (bif((true&&(decide (0≤p8.2.2.1)))&&(decide (p8.2.2.1<(p8.1:Int))))then
 ((p8.2.2.2.1)[(0+p8.2.2.1.toNat)]?).bind fun x9=>
 ((x9.cells)[0]?).bind fun x10=>
 (asI .i64 (.t x10)).bind fun x11=>
 ((x9.cells)[1]?).bind fun x12=>
 (asI .u64 (.t x12)).bind fun x13=>
 (bif(!(Nat.beq (bK x13.toNat) 0))then
 (bif((true&&(decide (0≤p8.2.1)))&&(decide (p8.2.1<(p8.1:Int))))then
 ((p8.2.2.2.1)[(0+p8.2.1.toNat)]?).bind fun x14=>
 some (.inl (p8.1,(IntKind.wrap .i64 (p8.2.1+1)),(IntKind.wrap .i64 (p8.2.2.1+1)),(List.set p8.2.2.2.1 (0+p8.2.1.toNat) (T.agg [(T.s (.int .i64 x11)),(T.s (.int .u64 x13))])),()))
 else none)
 else
  some (.inl (p8.1,p8.2.1,(IntKind.wrap .i64 (p8.2.2.1+1)),p8.2.2.2.1,())))
 else none)
 else
  some (.inr (p8.1,p8.2.1,p8.2.2.1,p8.2.2.2.1,())))
abbrev qcQ:=(Nat×Int×Int×(List T)×Unit)
def qbH(l:(List Tm))(fu:Nat):qcQ→Option (qcQ ⊕ (Lp qcQ (List Tm))):=fun p0=>(bif(decide (p0.2.2.1<p0.2.1))then
 (bif((true&&(decide (0≤p0.2.2.1)))&&(decide (p0.2.2.1<(p0.1:Int))))then
 ((p0.2.2.2.1)[(0+p0.2.2.1.toNat)]?).bind fun x1=>
 ((x1.cells)[0]?).bind fun x2=>
 (asI .i64 (.t x2)).bind fun x3=>
 ((x1.cells)[1]?).bind fun x4=>
 (asI .u64 (.t x4)).bind fun x5=>
 (bif(Nat.beq (bK x5.toNat) 0)then
 (bif(decide (p0.2.2.1=(-1)))then
 (Su.sub p0.2.2.2.1 0 (List.length (List.map (fun z6=>(T.agg [(T.s (.int .i64 (Tm.id z6))),(T.s (.int .u64 (Tm.c z6)))])) l))).bind fun x7=>
 (qD x7)
 else
  (itP fu (qd3) ((List.length (List.map (fun z15=>(T.agg [(T.s (.int .i64 (Tm.id z15))),(T.s (.int .u64 (Tm.c z15)))])) l)),(p0.2.2.1,(IntKind.wrap .i64 (p0.2.2.1+1)),p0.2.2.2.1,()))).bind fun x16=>
  (bif(((true&&(decide (0≤x16.2.1)))&&(decide (x16.2.1≤(x16.1:Int))))&&(decide ((x16.1:Int)≤(x16.1:Int))))then
  (bif((true&&(Nat.beq (List.length (T.cells (T.agg (List.cons (T.s (.int .i64 0)) (List.cons (T.s (.int .u64 0)) []))))) 2))&&(Nat.ble ((0+x16.2.1.toNat)+(Int.toNat ((x16.1:Int)-x16.2.1))) x16.2.2.2.1.length))then
  (bif((true&&(decide (0≤x16.2.1)))&&(decide (x16.2.1≤(x16.1:Int))))then
  (Su.sub ((List.take (0+x16.2.1.toNat) x16.2.2.2.1)++((List.replicate (Int.toNat ((x16.1:Int)-x16.2.1)) (T.agg (List.cons (T.s (.int .i64 0)) (List.cons (T.s (.int .u64 0)) []))))++(List.drop ((0+x16.2.1.toNat)+(Int.toNat ((x16.1:Int)-x16.2.1))) x16.2.2.2.1))) 0 (Int.toNat (x16.2.1-0))).bind fun x17=>
  (qD x17)
 else none)
 else none)
 else none)).bind fun x18=>
  some (.inr (.ret x18))
 else
  some (.inl (p0.1,p0.2.1,(IntKind.wrap .i64 (p0.2.2.1+1)),p0.2.2.2.1,())))
 else none)
 else
  some (.inr (.exit 0 (p0.1,p0.2.1,p0.2.2.1,p0.2.2.2.1,()))))
def qBG  (fu:Nat)(l:(List Tm))(u:Unit):Option (List Tm) :=
 (itP fu (qbH l fu) ((List.length (List.map (fun z19=>(T.agg [(T.s (.int .i64 (Tm.id z19))),(T.s (.int .u64 (Tm.c z19)))])) l)),((((List.length (List.map (fun z20=>(T.agg [(T.s (.int .i64 (Tm.id z20))),(T.s (.int .u64 (Tm.c z20)))])) l)):Nat):Int),((0:Int),(List.map (fun z21=>(T.agg [(T.s (.int .i64 (Tm.id z21))),(T.s (.int .u64 (Tm.c z21)))])) l),())))).bind fun x22=>
 (match x22 with
 | .exit i23 p24=>(bif(Nat.beq i23 0)then
  (Su.sub p24.2.2.2.1 0 (List.length (List.map (fun z25=>(T.agg [(T.s (.int .i64 (Tm.id z25))),(T.s (.int .u64 (Tm.c z25)))])) l))).bind fun x26=>
  (qD x26)
 else none)
 | .ret o27=>some o27)
def qr7:Stp ((List Tm)×Int×Int×Unit):=fun p2=>(bif(decide (p2.2.2.1<(List.length p2.1:Int)))then
 (idx p2.1 p2.2.2.1).bind fun x3=>
 (bif(!(Nat.beq (bK (Int.toNat (Tm.c x3))) 0))then
 (idx p2.1 p2.2.1).bind fun x4=>
 none
 else
  some (.inl (p2.1,p2.2.1,(IntKind.wrap .i64 (p2.2.2.1+1)),())))
 else
  some (.inr (p2.1,p2.2.1,p2.2.2.1,())))
def qe6(fu:Nat)(l:(List Tm)):((List Tm)×Int×Int×Unit)→Option (((List Tm)×Int×Int×Unit) ⊕ (Lp ((List Tm)×Int×Int×Unit) (List Tm))):=fun p0=>(bif(decide (p0.2.2.1<p0.2.1))then
 (idx p0.1 p0.2.2.1).bind fun x1=>
 (bif(Nat.beq (bK (Int.toNat (Tm.c x1))) 0)then
 (bif(decide (p0.2.2.1=(-1)))then
 some l
 else
  (itP fu (qr7) (l,p0.2.2.1,(IntKind.wrap .i64 (p0.2.2.1+1)),())).bind fun x5=>
  (bif(true&&(((decide (0≤x5.2.1))&&(decide (x5.2.1≤(List.length x5.1:Int))))&&(decide ((List.length x5.1:Int)≤(List.length x5.1:Int)))))then
  none
 else none)).bind fun x6=>
  some (.inr (.ret x6))
 else
  some (.inl (p0.1,p0.2.1,(IntKind.wrap .i64 (p0.2.2.1+1)),())))
 else
  some (.inr (.exit 0 (p0.1,p0.2.1,p0.2.2.1,()))))
def qr8  (fu:Nat)(l:(List Tm))(u:Unit):Option (List Tm) :=
 (itP fu (qe6 fu l) (l,(List.length l:Int),(0:Int),())).bind fun x7=>
 (match x7 with
 | .exit i8 p9=>(bif(Nat.beq i8 0)then
  some l
 else none)
 | .ret o10=>some o10)
def Yc:((List Tm)×Int×Int×Unit)→Option (((List Tm)×Int×Int×Unit) ⊕ (Lp ((List Tm)×Int×Int×Unit) Bool)):=fun p0=>(bif(decide (p0.2.2.1<p0.2.1))then
 (idx p0.1 p0.2.2.1).bind fun x1=>
 (bif(!(jo (bK (Int.toNat (Tm.c x1)))))then
 some (.inr (.ret (decide (0≤p0.2.2.1))))
 else
  some (.inl (p0.1,p0.2.1,(IntKind.wrap .i64 (p0.2.2.1+1)),())))
 else
  some (.inr (.exit 0 (p0.1,p0.2.1,p0.2.2.1,()))))
def qr9  (fu:Nat)(l:(List Tm))(u:Unit):Option Bool :=
 (itP fu (Yc) (l,(List.length l:Int),(0:Int),())).bind fun x2=>
 (match x2 with
 | .exit i3 p4=>(bif(Nat.beq i3 0)then
  some false
 else none)
 | .ret o5=>some o5)
abbrev vT:Tm→T:=view 10
def zI(f:Int):Bool:=Nat.beq (bK f.toNat) 0
def fI(f:Int):Bool:=jo (bK f.toNat)
def qt(l:List Tm):List Tm:=l.filter fun t=>!zI t.c
theorem qL(l:List Tm):qD (l.map vT)=some l:=qii.de l
theorem vT_0(t:Tm):(T.cells (vT t))[0]?=some (.s (.int .i64 t.id)):=rfl
theorem vT_1(t:Tm):(T.cells (vT t))[1]?=some (.s (.int .u64 t.c)):=rfl
theorem qbI(κ:IntKind)(n:Int):asI κ (.t (.s (.int κ n)))=some n:=by simp[asI]
theorem qEk(t:Tm):T.agg [T.s (.int .i64 t.id),T.s (.int .u64 t.c)]=vT t:=rfl
theorem qiv(A B:List T)(n:Nat)(h:n=A.length):sub (A++B) 0 n=some A:=by
 subst h;unfold sub;rw[show Nat.ble (0+A.length) (A++B).length=true by rw[KX];simp];rw[zf,VT,VU]
theorem qgF(A:List T)(n:Nat)(h:n=A.length):sub A 0 n=some A:=by
 have:=qiv A [] n h
 rwa [zD]at this
theorem qiw(A B C:List T)(x:T)(n:Nat)(h:n=A.length+B.length):(A++(B++x::C))[n]?=some x:=by
 subst h;rw[zO (by omega),zO (by omega),show A.length+B.length-A.length-B.length=0 by omega];rfl
theorem qxx(A B:List T)(x y:T)(n:Nat)(h:n=A.length):(A++(x::B)).set n y=A++(y::B):=by
 subst h;rw[List.set_append,zP (by omega),Vv];rfl
theorem qcR(N:Nat)(hN:N<9223372036854775808):∀(rest A:List Tm) (b:T) (B:List T) (n:Nat),rest.length<n→A.length+(B.length+1)+rest.length=N →
 ∃B',A.length+(qt rest).length+B'.length=N∧itP n qd3 (N,(A.length:Int),((A.length+(B.length+1):Nat):Int),A.map vT++((b::B)++rest.map vT),())=some (N,((A++qt rest).length:Int),(N:Int),(A++qt rest).map vT++B',())
 | [],A,b,B,n+1,hn,h=>by
  refine⟨b::B,by simp only[zw,qt,List.filter_nil,zN]at *;omega,?_⟩
  rw[qu];simp only[qd3];simp only[zN,Kr]at h;rw[h,zh (by omega),zi,zj];simp[qt]
 | t::rest,A,b,B,n+1,hn,h=>by
  simp only[zw]at hn h;rw[qu];simp only[qd3];have hj:(0+Int.toNat ((A.length+(B.length+1):Nat):Int))=(A.map vT).length+(b::B).length:=by simp;omega
  have hi:(0+Int.toNat (A.length:Int))=(A.map vT).length:=by simp
  have hw:IntKind.i64.wrap (((A.length+(B.length+1):Nat):Int)+1)=((A.length+(B.length+1+1):Nat):Int):=by rw[w64 (by omega) (by omega)];omega
  rw[zd (show((A.length+(B.length+1):Nat):Int)<(N:Int) by omega),zd (show(0:Int)≤((A.length+(B.length+1):Nat):Int) by omega)];simp only[zf,zL];rw[KB,qiw _ _ _ _ _ hj,zj,vT_0,zj,qbI,zj,vT_1,zj,qbI,zj];have hz:Nat.beq (bK (Int.toNat t.c)) 0=zI t.c:=rfl
  rw[hz];cases hzi:zI t.c with
  | false=>
   have e1:qt (t::rest)=t::qt rest:=by unfold qt;rw[KG];simp[hzi]
   obtain⟨b2,B2,e2⟩:∃b2 B2,B++[vT t]=b2::B2:=by cases B with | nil=>exact⟨_,_,rfl⟩ | cons x B=>exact⟨_,_,rfl⟩
   have e3:B2.length=B.length:=by have:=congrArg List.length e2;simp at this;omega
   obtain⟨B',q1,q2⟩:=qcR N hN rest (A++[t]) b2 B2 n (by omega) (by simp;omega)
   refine⟨B',by rw[e1];simp at q1 ⊢;omega,?_⟩
   rw[zX,zf,zd (show(0:Int)≤(A.length:Int) by omega),zd (show(A.length:Int)<(N:Int) by omega)];simp only[zf,zL];rw[show(A.map vT++(b::B++vT t::rest.map vT))[0+Int.toNat (A.length:Int)]?=some b from qiw (A.map vT) [] _ b _ (by simp),zj];rw[qEk,Wj,qxx _ _ _ _ _ hi,hw,w64 (by omega) (by omega)];rw[e1];have e4:A.map vT++(vT t::(B++vT t::rest.map vT))=(A++[t]).map vT++(b2::B2++rest.map vT):=by
    rw[← e2];simp
   rw[e4,show((A.length:Int)+1)=(((A++[t]).length:Nat):Int) by simp];rw[show(A.length+(B.length+1+1):Nat)=(A++[t]).length+(B2.length+1) by simp;omega];refine q2.trans ?_
   rw[zM];rfl
  | true=>
   have e1:qt (t::rest)=qt rest:=by unfold qt;rw[KG];simp[hzi]
   obtain⟨B',q1,q2⟩:=qcR N hN rest A b (B++[vT t]) n (by omega) (by simp;omega)
   refine⟨B',by rw[e1];exact q1,?_⟩
   rw[Kf,zi,hw,e1];rw[show A.map vT++(b::B++vT t::rest.map vT)=A.map vT++(b::(B++[vT t])++rest.map vT) by simp];rw[show(A.length+(B.length+1+1):Nat)=A.length+((B++[vT t]).length+1) by simp];exact q2
theorem qcS{l:List Tm}(h:∀t∈l,zI t.c=false):qt l=l:=List.filter_eq_self.2 fun t ht=>by rw[h t ht];rfl
theorem ql3{A rest:List Tm}{t:Tm}(h:∀t∈A,zI t.c=false)(ht:zI t.c=true):qt (A++t::rest)=A++qt rest:=by
 have e:qt (A++t::rest)=qt A++qt (t::rest):=Vk ..
 rw[e,qcS h]
 congr 1
 unfold qt;rw[KG];simp[ht]
theorem qgG(l:List Tm)(fu N:Nat)(hN:N<9223372036854775808)(hl:l.length=N)(hfu:N<fu):∀(rest A:List Tm) (n:Nat),A++rest=l→(∀t∈A,zI t.c=false)→rest.length<n →
 ∃y,itP n (qbH l fu) (N,(N:Int),(A.length:Int),l.map vT,())=some y∧(y = .exit 0 (N,(N:Int),(N:Int),l.map vT,())∧qt l=l∨y = .ret (qt l))
 | [],A,n+1,hA,hz,hn=>by
  rw[zD]at hA;subst hA;refine⟨_,?_,.inl ⟨rfl,qcS hz⟩⟩
  rw[qu];simp only[qbH];rw[hl,zh (by omega),zi,zj]
 | t::rest,A,n+1,hA,hz,hn=>by
  have hNl:A.length+(rest.length+1)=N:=by rw[← hl,← hA];simp
  rw[qu];simp only[qbH,zn,hl];rw[zd (show(A.length:Int)<(N:Int) by omega),zd (show(0:Int)≤(A.length:Int) by omega)];simp only[zf,zL];have hg:(l.map vT)[0+Int.toNat (A.length:Int)]?=some (vT t):=by
   rw[← hA,zU,KB];exact qiw (A.map vT) [] _ (vT t) _ (by simp)
  rw[hg,zj,vT_0,zj,qbI,zj,vT_1,zj,qbI,zj];have hzz:Nat.beq (bK (Int.toNat t.c)) 0=zI t.c:=rfl
  rw[hzz];cases hzi:zI t.c with
  | false=>
   obtain⟨y,q1,q2⟩:=qgG l fu N hN hl hfu rest (A++[t]) n (by rw[← hA];simp) (fun u hu=>by
    rcases zF.1 hu with hu | hu
    · exact hz u hu
    · rw[Ke.1 hu];exact hzi) (by simp at hn;omega)
   refine⟨y,?_,q2⟩
   rw[zi,zj,w64 (by omega) (by omega)];rw[show((A.length:Int)+1)=(((A++[t]).length:Nat):Int) by simp];exact q1
  | true=>
   obtain⟨B',q1,q2⟩:=qcR N hN rest A (vT t) [] fu (by omega) (by simp;omega)
   refine⟨_,?_,.inr rfl⟩
   rw[zf,zh (by omega),zi];have hrow:l.map vT=A.map vT++([vT t]++rest.map vT):=by rw[← hA];simp
   rw[hrow,w64 (by omega) (by omega),show((A.length:Int)+1)=((A.length+(([]:List T).length+1):Nat):Int) by simp,q2];simp only[zj];have hK:(A++qt rest).length≤N:=by simp at q1 ⊢;omega
   have hlen:((A++qt rest).map vT++B').length=N:=by simp at q1 ⊢;omega
   have ht1:(0+Int.toNat ((A++qt rest).length:Int))=((A++qt rest).map vT).length:=by simp;omega
   rw[zd (show(0:Int)≤((A++qt rest).length:Int) by omega),zd (show((A++qt rest).length:Int)≤(N:Int) by omega),zd (show(N:Int)≤(N:Int) by omega)];rw[show Nat.beq (List.length (T.cells (T.agg [T.s (.int .i64 0),T.s (.int .u64 0)]))) 2=true from rfl,hlen];rw[show Nat.ble (0+Int.toNat ((A++qt rest).length:Int)+Int.toNat ((N:Int)-((A++qt rest).length:Int))) N=true by rw[KX];omega];simp only[zL,zf];rw[ht1,VU,qiv _ _ _ (by simp;omega)];simp only[zj,qL];rw[← hA,ql3 hz hzi];rfl
def ql4(p:List Tm×Unit):Option (List Tm):=some (qt p.1)
theorem qxy(p:List Tm×Unit)(y:List Tm)(hg:(dc qii (d1 (cF 89))).good p)(h:ql4 p=some y):∃n,qBG n p.1 p.2=some y:=by
 obtain⟨l,u⟩:=p;have:=soi h;subst this
 have hl':l.length≤9223372036854775807:=by have:=hg.1.2;rw[jc]at this;exact this
 have hl:l.length<9223372036854775808:=by omega
 obtain⟨z,q1,q2⟩:=qgG l (l.length+1) l.length hl rfl (by omega) l [] (l.length+1) rfl (fun t ht=>by cases ht) (by omega)
 refine⟨l.length+1,?_⟩
 unfold qBG;simp only[zn];have q1':itP (l.length+1) (qbH l (l.length+1)) (l.length,(l.length:Int),(0:Int),l.map vT,())=some z:=q1
 rw[show(l.map fun z21=>T.agg [T.s (.int .i64 (Tm.id z21)),T.s (.int .u64 (Tm.c z21))])=l.map vT from rfl,q1',zj];rcases q2 with⟨rfl,e⟩ | rfl
 · simp only[]
   rw[show Nat.beq 0 0=true from rfl,zf,qgF _ _ (by simp),e];exact qL l
 · rfl
def qnG(p:List Tm×Unit):Option Bool:=some (p.1.any fun t=>!fI t.c)
theorem qgH(l:List Tm)(hl:l.length<9223372036854775808):∀(rest A:List Tm),A++rest=l→∃n y,itP n Yc (l,(l.length:Int),(A.length:Int),())=some y∧(y = .exit 0 (l,(l.length:Int),(l.length:Int),())∧(rest.any fun t=>!fI t.c)=false∨y = .ret true∧(rest.any fun t=>!fI t.c)=true)
 | [],A,hA=>by
  rw[zD]at hA;subst hA;refine⟨1,_,?_,.inl ⟨rfl,rfl⟩⟩
  rw[qu];simp only[Yc];rw[zh (by omega),zi];rfl
 | t::rest,A,hA=>by
  have hNl:A.length+(rest.length+1)=l.length:=by rw[← hA];simp
  have hg:idx l (A.length:Int)=some t:=by
   rw[jL,← hA,zO (by omega),Vv];rfl
  have hzz:jo (bK (Int.toNat t.c))=fI t.c:=rfl
  cases hzi:fI t.c with
  | true=>
   obtain⟨n,y,q1,q2⟩:=qgH l hl rest (A++[t]) (by rw[← hA];simp)
   refine⟨n+1,y,?_,?_⟩
   · rw[qu]
     simp only[Yc];rw[zd (show(A.length:Int)<(l.length:Int) by omega),zf,hg,zj,hzz,hzi,Kf,zi,zj,w64 (by omega) (by omega)];rw[show((A.length:Int)+1)=(((A++[t]).length:Nat):Int) by simp];exact q1
   · simpa[hzi]using q2
  | false=>
   refine⟨1,.ret true,?_,.inr ⟨rfl,by simp[hzi]⟩⟩
   rw[qu];simp only[Yc];rw[zd (show(A.length:Int)<(l.length:Int) by omega),zf,hg,zj,hzz,hzi,zX,zf,zd (show(0:Int)≤(A.length:Int) by omega)];rfl
theorem qsa(p:List Tm×Unit)(y:Bool)(hg:(dc Y9 (d1 (cF 91))).good p)(h:qnG p=some y):∃n,qr9 n p.1 p.2=some y:=by
 obtain⟨l,u⟩:=p;have:=soi h;subst this
 have hl':l.length≤9223372036854775807:=by have:=hg.1.2;rw[jc]at this;exact this
 have hl:l.length<9223372036854775808:=by omega
 obtain⟨n,z,q1,q2⟩:=qgH l hl l [] rfl
 refine⟨n,?_⟩
 unfold qr9;have q1':itP n Yc (l,(l.length:Int),(0:Int),())=some z:=q1
 simp only[];rw[q1',zj];rcases q2 with⟨rfl,e⟩ | ⟨rfl,e⟩
 · simp only[e];rfl
 · simp only[e]
def qnH(p:List Tm×Unit):Option (List Tm):=bif p.1.all fun t=>!zI t.c then some p.1 else none
theorem ql5(l:List Tm)(hl:l.length<9223372036854775808)(hz:∀t∈l,zI t.c=false):∀fu n rest A,rest.length<n→A++rest=l→itP n (qe6 fu l) (l,(l.length:Int),((A:List Tm).length:Int),())=some (.exit 0 (l,(l.length:Int),(l.length:Int),())):=by
 intro fu n;induction n with
 | zero=>intro rest A h;omega
 | succ n ih=>
  intro rest A h hA;rw[qu];simp only[qe6]
  match rest,h,hA with
  | [],_,hA=>
   rw[zD]at hA;subst hA;rw[zh (by omega),zi];rfl
  | t::rest,h,hA=>
   have hNl:A.length+(rest.length+1)=l.length:=by rw[← hA];simp
   have hg:idx l (A.length:Int)=some t:=by
    rw[jL,← hA,zO (by omega),Vv];rfl
   have hzz:Nat.beq (bK (Int.toNat t.c)) 0=zI t.c:=rfl
   rw[zd (show(A.length:Int)<(l.length:Int) by omega),zf,hg,zj,hzz,hz t (by rw[← hA];simp),zi,zj,w64 (by omega) (by omega)];rw[show((A.length:Int)+1)=(((A++[t]).length:Nat):Int) by simp];exact ih rest (A++[t]) (by simp at h;omega) (by rw[← hA];simp)
theorem qsb(p:List Tm×Unit)(y:List Tm)(hg:(dc Y9 (d1 (cF 89))).good p)(h:qnH p=some y):∃n,qr8 n p.1 p.2=some y:=by
 obtain⟨l,u⟩:=p;obtain⟨h1,h2⟩:=qj h;have:=soi h2;subst this
 have hl':l.length≤9223372036854775807:=by have:=hg.1.2;rw[jc]at this;exact this
 have q:=ql5 l (by omega) (fun t ht=>by have:=KA.1 h1 t ht;simpa using this) (l.length+1) (l.length+1) l [] (by omega) rfl
 refine⟨l.length+1,?_⟩
 unfold qr8;exact obs q rfl
end
end Su
end
section
namespace Su
open Go Fly
noncomputable section
def qsc  (a:(Bool×Int×(List Tm)×Int)):Option (Bool×Int×(List Tm)×Int) :=
 (bif(true&&(Nat.beq (List.length (List.map (fun z0=>(T.agg [(T.s (.int .i64 (Tm.id z0))),(T.s (.int .u64 (Tm.c z0)))])) a.2.2.1)) (List.length (List.map (fun z1=>(T.agg [(T.s (.int .i64 (Tm.id z1))),(T.s (.int .u64 (Tm.c z1)))])) a.2.2.1))))then
 (((qD (List.map (fun z2=>(T.agg [(T.s (.int .i64 (Tm.id z2))),(T.s (.int .u64 (Tm.c z2)))])) a.2.2.1)).bind fun x3=>
 some (x3,())).bind fun x4=>
 some (qt x4.1)).bind fun x5=>
 (bif(Nat.beq (bK a.2.1.toNat) 0)then
 (bif(Nat.beq (bK a.2.2.2.toNat) 0)then
 (bif(List.any x5 (fun z6=>(!(fI (Tm.c z6)))))then
 some (true,(0:Int),[],(0:Int))
 else
  some (a.1,(0:Int),x5,(0:Int)))
 else
  (bif(!(jo (bK a.2.2.2.toNat)))then
  some (true,(0:Int),[],(0:Int))
 else
  (bif(List.any x5 (fun z7=>(!(fI (Tm.c z7)))))then
  some (true,(0:Int),[],(0:Int))
 else
  some (a.1,(0:Int),x5,a.2.2.2))))
 else
  (bif(Nat.beq (bK a.2.2.2.toNat) 0)then
  (bif(!(jo (bK a.2.1.toNat)))then
  some (true,(0:Int),[],(0:Int))
 else
  (bif(List.any x5 (fun z8=>(!(fI (Tm.c z8)))))then
  some (true,(0:Int),[],(0:Int))
 else
  some (a.1,a.2.1,x5,(0:Int))))
 else
  (bif(!(jo (bK a.2.1.toNat)))then
  some (true,(0:Int),[],(0:Int))
 else
  (bif(!(jo (bK a.2.2.2.toNat)))then
  some (true,(0:Int),[],(0:Int))
 else
  (bif(List.any x5 (fun z9=>(!(fI (Tm.c z9)))))then
  some (true,(0:Int),[],(0:Int))
 else
  some (a.1,a.2.1,x5,a.2.2.2))))))
 else none)
def ql6  (a:(Bool×Int×(List Tm)×Int)):Option (Bool×Int×(List Tm)×Int) :=
 (bif(List.all a.2.2.1 (fun z0=>(!(zI (Tm.c z0)))))then
 some a.2.2.1
 else none).bind fun x1=>
  (bif(Nat.beq (bK a.2.1.toNat) 0)then
  (bif(Nat.beq (bK a.2.2.2.toNat) 0)then
  (bif(List.any x1 (fun z2=>(!(fI (Tm.c z2)))))then
  some (true,(0:Int),[],(0:Int))
 else
  some (a.1,(0:Int),x1,(0:Int)))
 else
  (bif(!(jo (bK a.2.2.2.toNat)))then
  some (true,(0:Int),[],(0:Int))
 else
  (bif(List.any x1 (fun z3=>(!(fI (Tm.c z3)))))then
  some (true,(0:Int),[],(0:Int))
 else
  some (a.1,(0:Int),x1,a.2.2.2))))
 else
  (bif(Nat.beq (bK a.2.2.2.toNat) 0)then
  (bif(!(jo (bK a.2.1.toNat)))then
  some (true,(0:Int),[],(0:Int))
 else
  (bif(List.any x1 (fun z4=>(!(fI (Tm.c z4)))))then
  some (true,(0:Int),[],(0:Int))
 else
  some (a.1,a.2.1,x1,(0:Int))))
 else
  (bif(!(jo (bK a.2.1.toNat)))then
  some (true,(0:Int),[],(0:Int))
 else
  (bif(!(jo (bK a.2.2.2.toNat)))then
  some (true,(0:Int),[],(0:Int))
 else
  (bif(List.any x1 (fun z5=>(!(fI (Tm.c z5)))))then
  some (true,(0:Int),[],(0:Int))
 else
  some (a.1,a.2.1,x1,a.2.2.2))))))
def JC:(Int×(List Tm)×Int×Int×Bool×Int×(List Tm)×Int×Unit)→Option ((Int×(List Tm)×Int×Int×Bool×Int×(List Tm)×Int×Unit) ⊕ (Lp (Int×(List Tm)×Int×Int×Bool×Int×(List Tm)×Int×Unit) Bool)):=fun p0=>(bif(decide (p0.2.2.2.1<p0.2.2.1))then
 (idx p0.2.1 p0.2.2.2.1).bind fun x1=>
 (bif(decide ((Tm.id x1)≤p0.1))then
 some (.inr (.ret false))
 else
  (bif(Nat.beq (bK (Int.toNat (Tm.c x1))) 0)then
  some (.inr (.ret false))
 else
  (bif(!(jo (bK (Int.toNat (Tm.c x1)))))then
  some (.inr (.ret false))
 else
  some (.inl ((Tm.id x1),p0.2.1,p0.2.2.1,(IntKind.wrap .i64 (p0.2.2.2.1+1)),p0.2.2.2.2.1,p0.2.2.2.2.2.1,p0.2.2.2.2.2.2.1,p0.2.2.2.2.2.2.2.1,())))))
 else
  some (.inr (.exit 0 (p0.1,p0.2.1,p0.2.2.1,p0.2.2.2.1,p0.2.2.2.2.1,p0.2.2.2.2.2.1,p0.2.2.2.2.2.2.1,p0.2.2.2.2.2.2.2.1,()))))
def qBH  (fu:Nat)(a:(Bool×Int×(List Tm)×Int)):Option Bool :=
 (bif a.1 then
 (bif(decide (a.2.1=0))then
 (bif(decide (a.2.2.2=0))then
 some (decide ((List.length a.2.2.1:Int)=0))
 else
  some false)
 else
  some false)
 else
  (itP fu (JC) ((-1),a.2.2.1,(List.length a.2.2.1:Int),(0:Int),a.1,a.2.1,a.2.2.1,a.2.2.2,())).bind fun x2=>
  (match x2 with
 | .exit i3 p4=>(bif(Nat.beq i3 0)then
  (bif(jo (bK p4.2.2.2.2.2.1.toNat))then
  (bif(!(decide (p4.2.2.2.2.2.1=9223372036854775808)))then
  (bif(jo (bK p4.2.2.2.2.2.2.2.1.toNat))then
  some (decide ((Int.fdiv p4.2.2.2.2.2.2.2.1 (2^63))=0))
 else
  some false)
 else
  some false)
 else
  some false)
 else none)
 | .ret o5=>some o5))
abbrev Fm:=Bool×(Int×List Tm×Int)
def qaS:Fm:=(true,0,[],0)
def nzI(f:Int):Int:=bif zI f then 0 else f
theorem qBI:fI 0=true:=rfl
theorem qps:zI 0=true:=rfl
def qzW:{f:Fm→Fm // ∀a,f a=bif(fI (nzI a.2.1)&&fI (nzI a.2.2.2))&&!((qt a.2.2.1).any fun t=>!fI t.c)then(a.1,nzI a.2.1,qt a.2.2.1,nzI a.2.2.2)else qaS}:=Classical.choice ⟨⟨_,fun _=>rfl⟩⟩
def yY(a:Fm):Fm:=qzW.1 a
theorem Qz(a:Fm):yY a=bif(fI (nzI a.2.1)&&fI (nzI a.2.2.2))&&!((qt a.2.2.1).any fun t=>!fI t.c)then(a.1,nzI a.2.1,qt a.2.2.1,nzI a.2.2.2)else qaS:=qzW.2 a
def qix(a:Fm):Option Fm:=some (yY a)
theorem qH(n:Nat):Nat.beq n n=true:=by simp
theorem qsd(a y:Fm)(hg:(d1 qe2).good a)(h:qix a=some y):qsc a=some y:=by
 obtain⟨b,m,l,e⟩:=a;have:=soi h;subst this
 rw[Qz];unfold qsc;simp only[qH,zL,zf];refine obs (t:=qt l) (obs (obs (qL l) rfl) rfl) ?_
 have hz:∀f:Int,Nat.beq (bK f.toNat) 0=zI f:=fun _=>rfl
 have hf:∀f:Int,jo (bK f.toNat)=fI f:=fun _=>rfl
 simp only[hz,hf];unfold nzI;cases zI m <;> cases zI e <;> simp only[zf,zi,qBI] <;> cases fI m <;> cases fI e <;> cases(qt l).any (fun t=>!fI t.c) <;> rfl
def ja:Int→List Tm→Bool
 | _,[]=>true
 | last,t::l=>decide (last<t.id)&&(!zI t.c&&(fI t.c&&ja t.id l))
def mayL:{f:Fm→Bool // ∀a,f a=bif a.1 then decide (a.2.1=0)&&(decide (a.2.2.2=0)&&a.2.2.1.isEmpty)else ja (-1) a.2.2.1&&(fI a.2.1&&(!decide (a.2.1=9223372036854775808)&&(fI a.2.2.2&&decide (Int.fdiv a.2.2.2 (2^63)=0))))}:=Classical.choice ⟨⟨_,fun _=>rfl⟩⟩
def yn(a:Fm):Bool:=mayL.1 a
theorem qbJ(a:Fm):yn a=bif a.1 then decide (a.2.1=0)&&(decide (a.2.2.2=0)&&a.2.2.1.isEmpty)else ja (-1) a.2.2.1&&(fI a.2.1&&(!decide (a.2.1=9223372036854775808)&&(fI a.2.2.2&&decide (Int.fdiv a.2.2.2 (2^63)=0)))):=mayL.2 a
def qse(a:Fm):Option Bool:=some (yn a)
theorem qj9(l:List Tm)(hl:l.length<9223372036854775808)(q:Bool×Int×List Tm×Int×Unit):∀(rest A:List Tm) (last:Int),A++rest=l→∃n y,itP n JC (last,l,(l.length:Int),(A.length:Int),q)=some y∧((∃last',y = .exit 0 (last',l,(l.length:Int),(l.length:Int),q))∧ja last rest=true∨y = .ret false∧ja last rest=false)
 | [],A,last,hA=>by
  rw[zD]at hA;subst hA;refine⟨1,_,?_,.inl ⟨⟨last,rfl⟩,rfl⟩⟩
  rw[qu];simp only[JC];rw[zh (by omega),zi];rfl
 | t::rest,A,last,hA=>by
  have hNl:A.length+(rest.length+1)=l.length:=by rw[← hA];simp
  have hg:idx l (A.length:Int)=some t:=by
   rw[jL,← hA,zO (by omega),Vv];rfl
  have hz:Nat.beq (bK (Int.toNat t.c)) 0=zI t.c:=rfl
  have hf:jo (bK (Int.toNat t.c))=fI t.c:=rfl
  obtain⟨n,y,q1,q2⟩:=qj9 l hl q rest (A++[t]) t.id (by rw[← hA];simp)
  by_cases h1:t.id≤last
  · refine⟨1,.ret false,?_,.inr ⟨rfl,by unfold ja;rw[zh (by omega)];rfl⟩⟩
    rw[qu];simp only[JC];rw[zd (show(A.length:Int)<(l.length:Int) by omega),zf,hg,zj,zd h1];rfl
  · cases h2:zI t.c with
    | true=>
     refine⟨1,.ret false,?_,.inr ⟨rfl,by unfold ja;rw[h2];simp⟩⟩
     rw[qu];simp only[JC];rw[zd (show(A.length:Int)<(l.length:Int) by omega),zf,hg,zj,zh h1,hz,h2];rfl
    | false=>
     cases h3:fI t.c with
     | false=>
      refine⟨1,.ret false,?_,.inr ⟨rfl,by unfold ja;rw[h3];simp⟩⟩
      rw[qu];simp only[JC];rw[zd (show(A.length:Int)<(l.length:Int) by omega),zf,hg,zj,zh h1,hz,h2,hf,h3];rfl
     | true=>
      have e:ja last (t::rest)=ja t.id rest:=by
       show(decide (last<t.id)&&(!zI t.c&&(fI t.c&&ja t.id rest)))=_
       rw[zd (by omega),h2,h3];rfl
      refine⟨n+1,y,?_,by rw[e];exact q2⟩
      rw[qu];simp only[JC];rw[zd (show(A.length:Int)<(l.length:Int) by omega),zf,hg,zj,zh h1,hz,h2,hf,h3];simp only[Kf,zi,zj];rw[w64 (by omega) (by omega),show((A.length:Int)+1)=(((A++[t]).length:Nat):Int) by simp];exact q1
theorem qxz(a:Fm)(y:Bool)(hg:(d1 jC).good a)(h:qse a=some y):∃n,qBH n a=some y:=by
 obtain⟨b,m,l,e⟩:=a;have:=soi h;subst this
 have hl':l.length≤9223372036854775807:=by have:=hg.2.2.1.2;rw[jc]at this;exact this
 have hf:∀f:Int,jo (bK f.toNat)=fI f:=fun _=>rfl
 rw[qbJ];unfold qBH;simp only[hf];cases b with
 | true=>
  refine⟨0,?_⟩
  simp only[zf];have:decide (((l.length:Nat):Int)=0)=l.isEmpty:=by cases l <;> simp <;> omega
  rw[this];cases decide (m=0) <;> cases decide (e=0) <;> rfl
 | false=>
  obtain⟨n,z,q1,q2⟩:=qj9 l (by omega) (false,m,l,e,()) l [] (-1) rfl
  refine⟨n,?_⟩
  simp only[zi];have q1':itP n JC (-1,l,(l.length:Int),(0:Int),false,m,l,e,())=some z:=q1
  rw[q1',zj];rcases q2 with⟨⟨last',rfl⟩,e1⟩ | ⟨rfl,e1⟩
  · simp only[e1]
    rw[show Nat.beq 0 0=true from rfl,zf];cases fI m <;> cases decide (m=9223372036854775808) <;> cases fI e <;> rfl
  · simp only[e1];rfl
def qka(a:Fm):Option Fm:=bif a.2.2.1.all fun t=>!zI t.c then some (yY a)else none
theorem qpt(a y:Fm)(hg:(d1 jC).good a)(h:qka a=some y):ql6 a=some y:=by
 obtain⟨b,m,l,e⟩:=a;obtain⟨h1,h2⟩:=qj h;have:=soi h2;subst this
 have hd:qt l=l:=qcS fun t ht=>by have:=KA.1 h1 t ht;simpa using this
 rw[Qz];unfold ql6;have h1':(List.all l fun z0=>!zI (Tm.c z0))=true:=h1
 have hz:∀f:Int,Nat.beq (bK f.toNat) 0=zI f:=fun _=>rfl
 have hf:∀f:Int,jo (bK f.toNat)=fI f:=fun _=>rfl
 simp only[h1',zf,zj,hz,hf,hd];unfold nzI;cases zI m <;> cases zI e <;> simp only[zf,zi,qBI] <;> cases fI m <;> cases fI e <;> cases l.any (fun t=>!fI t.c) <;> rfl
end
end Su
end
section
namespace Su
open Go Fly
noncomputable section
def Z6:((List Fm)×Int×Int×Unit)→Option (((List Fm)×Int×Int×Unit) ⊕ (Lp ((List Fm)×Int×Int×Unit) Bool)):=fun p0=>(bif(decide (p0.2.2.1<p0.2.1))then
 (idx p0.1 p0.2.2.1).bind fun x1=>
 (bif x1.1 then
 some (.inr (.ret (decide (0≤p0.2.2.1))))
 else
  (bif(!(yn (x1.1,x1.2.1,x1.2.2.1,x1.2.2.2)))then
  some (.inr (.ret (decide (0≤p0.2.2.1))))
 else
  some (.inl (p0.1,p0.2.1,(IntKind.wrap .i64 (p0.2.2.1+1)),()))))
 else
  some (.inr (.exit 0 (p0.1,p0.2.1,p0.2.2.1,()))))
def ql7  (fu:Nat)(l:(List Fm)):Option Bool :=
 (itP fu (Z6) (l,(List.length l:Int),(0:Int),())).bind fun x2=>
 (match x2 with
 | .exit i3 p4=>(bif(Nat.beq i3 0)then
  some false
 else none)
 | .ret o5=>some o5)
theorem qsf{α:Type}(l:List α)(F:List α×(Int×Int×Unit)→Option ((List α×Int×Int×Unit) ⊕ (Lp (List α×Int×Int×Unit) Bool)))(p:α→Bool)
 (hF:∀(i:Nat) (x:α),l[i]?=some x→F (l,(l.length:Int),(i:Int),())=bif p x then some (.inr (.ret true))else some (.inl (l,(l.length:Int),((i+1:Nat):Int),())))
 (hE:F (l,(l.length:Int),(l.length:Int),())=some (.inr (.exit 0 (l,(l.length:Int),(l.length:Int),())))) :
 ∃n y,itP n F (l,(l.length:Int),(0:Int),())=some y∧(y = .exit 0 (l,(l.length:Int),(l.length:Int),())∧l.any p=false∨y = .ret true∧l.any p=true):=by
 have main:∀(rest A:List α),A++rest=l→∃n y,itP n F (l,(l.length:Int),(A.length:Int),())=some y∧(y = .exit 0 (l,(l.length:Int),(l.length:Int),())∧rest.any p=false∨y = .ret true∧rest.any p=true):=by
  intro rest;induction rest with
  | nil=>
   intro A hA;rw[zD]at hA;subst hA;exact⟨1,_,by rw[qu,hE];rfl,.inl ⟨rfl,rfl⟩⟩
  | cons x rest ih=>
   intro A hA;have hg:l[A.length]?=some x:=by rw[← hA,zO (by omega),Vv];rfl
   have:=hF A.length x hg
   cases hp:p x with
   | true=>
    rw[hp,zf]at this;exact⟨1,.ret true,by rw[qu,this];rfl,.inr ⟨rfl,by simp[hp]⟩⟩
   | false=>
    rw[hp,zi]at this;obtain⟨n,y,q1,q2⟩:=ih (A++[x]) (by rw[← hA];simp)
    refine⟨n+1,y,?_,by simpa[hp]using q2⟩
    rw[qu,this];simp only[zj];rw[show A.length+1=(A++[x]).length by simp];exact q1
 exact main l [] rfl
def qkb(l:List Fm):Option Bool:=some (l.any fun a=>a.1||!yn a)
theorem qpu(l:List Fm)(y:Bool)(hg:(d1 cFms).good l)(h:qkb l=some y):∃n,ql7 n l=some y:=by
 have:=soi h;subst this
 have hl':l.length≤9223372036854775807:=by have:=hg.2;rw[jc]at this;exact this
 obtain⟨n,z,q1,q2⟩:=qsf l Z6 (fun a=>a.1||!yn a) (fun i x hx=>by
  have hi:i<l.length:=(zu.1 hx).1
  simp only[Z6];rw[zd (show(i:Int)<(l.length:Int) by omega),zf,jL,hx,zd (show(0:Int)≤(i:Int) by omega),w64 (by omega) (by omega)];obtain⟨b,m,t,e⟩:=x;cases b <;> cases h:yn (false,m,t,e) <;> simp[h])
  (by simp only[Z6];rw[zh (by omega),zi])
 refine⟨n,?_⟩
 unfold ql7;rw[q1,zj];rcases q2 with⟨rfl,e⟩ | ⟨rfl,e⟩
 · simp only[e];rfl
 · simp only[e]
end
end Su
end
section
namespace Su
open Go Fly
noncomputable section
def Jr(f:Int):Int:=((yG f.toNat:Nat):Int)
def okF(a:Fm):Bool:=!(a.1||!yn a)
def qgI(l:List Tm):Bool:=Nat.ble l.length 549755813888
end
end Su
end
section
namespace Su
open Go Fly
noncomputable section
def qJ(a b m:Int):Int:=((Qe a.toNat b.toNat m:Nat):Int)
def qcT(a b m:Int):Int:=((qpr a.toNat b.toNat m:Nat):Int)
def upI(l:List Int):Int:=((upS 0 l:Nat):Int)
end
end Su
end
section
namespace Su
open Go Fly
noncomputable section
def qBJ  (a:Int)(b:Int):Option Bool :=
 (bif(qcO a.toNat b.toNat)then
 some (decide ((jZ a.toNat b.toNat)≤0))
 else
  some false)
def leF(a b:Int):Bool:=qcO a.toNat b.toNat&&decide (jZ a.toNat b.toNat≤0)
def qsg(p:Int×Int):Option Bool:=some (leF p.1 p.2)
theorem qxA(p:Int×Int)(y:Bool)(hg:(dc (cI .u64) (d1 (cI .u64))).good p)(h:qsg p=some y):qBJ p.1 p.2=some y:=by
 have:=soi h;subst this
 unfold qBJ leF;cases qcO p.1.toNat p.2.toNat <;> rfl
end
end Su
end
section
namespace Su
open Go Fly
noncomputable section
def qgJ:Stp (Nat×Int×Int×Bool×Int×Int×Bool×Int×Int×Unit):=fun p0=>(bif(decide (p0.2.2.1<p0.2.1))then
 (bif(true&&(true&&((decide (0≤p0.2.2.1))&&(decide (p0.2.2.1<(p0.1:Int))))))then
 (bif(Nat.beq p0.2.2.1.toNat 0)then
 (bif(decide ((((qA (bK p0.2.2.2.2.1.toNat)):Nat):Int)=0))then
 some (.inl (p0.1,p0.2.1,(IntKind.wrap .i64 (p0.2.2.1+1)),p0.2.2.2.1,(0:Int),p0.2.2.2.2.2.1,p0.2.2.2.2.2.2.1,p0.2.2.2.2.2.2.2.1,p0.2.2.2.2.2.2.2.2.1,()))
 else
  some (.inl (p0.1,p0.2.1,(IntKind.wrap .i64 (p0.2.2.1+1)),p0.2.2.2.1,p0.2.2.2.2.1,p0.2.2.2.2.2.1,p0.2.2.2.2.2.2.1,p0.2.2.2.2.2.2.2.1,p0.2.2.2.2.2.2.2.2.1,())))
 else
  (bif(Nat.beq (p0.2.2.1.toNat-1) 0)then
  (bif(decide ((((qA (bK p0.2.2.2.2.2.1.toNat)):Nat):Int)=0))then
  some (.inl (p0.1,p0.2.1,(IntKind.wrap .i64 (p0.2.2.1+1)),p0.2.2.2.1,p0.2.2.2.2.1,(0:Int),p0.2.2.2.2.2.2.1,p0.2.2.2.2.2.2.2.1,p0.2.2.2.2.2.2.2.2.1,()))
 else
  some (.inl (p0.1,p0.2.1,(IntKind.wrap .i64 (p0.2.2.1+1)),p0.2.2.2.1,p0.2.2.2.2.1,p0.2.2.2.2.2.1,p0.2.2.2.2.2.2.1,p0.2.2.2.2.2.2.2.1,p0.2.2.2.2.2.2.2.2.1,())))
 else none))
 else none)
 else
  some (.inr (p0.1,p0.2.1,p0.2.2.1,p0.2.2.2.1,p0.2.2.2.2.1,p0.2.2.2.2.2.1,p0.2.2.2.2.2.2.1,p0.2.2.2.2.2.2.2.1,p0.2.2.2.2.2.2.2.2.1,())))
def ql8  (fu:Nat)(s:(Bool×Int×Int)):Option (Bool×Int×Int) :=
 (bif s.1 then
 some (true,(0:Int),(0:Int))
 else
  (bif(!(leF s.2.1 s.2.2))then
  some (true,(0:Int),(0:Int))
 else
  (bif(decide (s.2.1=((9218868437227405312:Nat):Int)))then
  some (true,(0:Int),(0:Int))
 else
  (bif(decide (s.2.2=((18442240474082181120:Nat):Int)))then
  some (true,(0:Int),(0:Int))
 else
  (itP fu (qgJ) (2,(2:Int),(0:Int),s.1,s.2.1,s.2.2,false,(0:Int),(0:Int),())).bind fun x1=>
  some (x1.2.2.2.1,x1.2.2.2.2.1,x1.2.2.2.2.2.1)))))
abbrev Spn:=Bool×(Int×Int)
def qzX:Spn:=(true,0,0)
def qzY(s:Spn):Spn:=bif s.1||(!leF s.2.1 s.2.2||(decide (s.2.1=9218868437227405312)||decide (s.2.2=18442240474082181120)))then qzX else(s.1,nzI s.2.1,nzI s.2.2)
def qkc(s:Spn):Option Spn:=some (qzY s)
theorem qpv(s y:Spn)(hg:(d1 qBf).good s)(h:qkc s=some y):∃n,ql8 n s=some y:=by
 obtain⟨e,lo,hi⟩:=s;have:=soi h;subst this
 refine⟨3,?_⟩
 unfold ql8 qzY nzI zI;have hz:∀f:Int,decide (((qA (bK f.toNat):Nat):Int)=0)=Nat.beq (bK f.toNat) 0:=fun f=>Ya _
 have w1:IntKind.i64.wrap 1=1:=by decide
 have w2:IntKind.i64.wrap 2=2:=by decide
 simp only[qu,qgJ,hz];cases e with
 | true=>rfl
 | false=>
  cases leF lo hi with
  | false=>rfl
  | true=>
   cases h1:decide (lo=9218868437227405312)with
   | true=>simp[h1];rfl
   | false=>
    cases h2:decide (hi=18442240474082181120)with
    | true=>simp[h1,h2];rfl
    | false=>
     cases h3:Nat.beq (bK lo.toNat) 0 <;> cases h4:Nat.beq (bK hi.toNat) 0 <;> (simp[h1,h2,h3,h4,w1,w2];try rfl)
end
end Su
end
section
namespace Su
open Go Fly
noncomputable section
def qd4:Stp (Int×(List Tm)×Int×Int×Bool×Int×(List Tm)×Int×Unit):=fun p1=>(bif(decide (p1.2.2.2.1<p1.2.2.1))then
 (idx p1.2.1 p1.2.2.2.1).bind fun x2=>
 some (.inl ((((upS 0 [p1.1,(((jT (Int.toNat (Tm.c x2))):Nat):Int)]):Nat):Int),p1.2.1,p1.2.2.1,(IntKind.wrap .i64 (p1.2.2.2.1+1)),p1.2.2.2.2.1,p1.2.2.2.2.2.1,p1.2.2.2.2.2.2.1,p1.2.2.2.2.2.2.2.1,()))
 else
  some (.inr (p1.1,p1.2.1,p1.2.2.1,p1.2.2.2.1,p1.2.2.2.2.1,p1.2.2.2.2.2.1,p1.2.2.2.2.2.2.1,p1.2.2.2.2.2.2.2.1,())))
def qBK  (fu:Nat)(a:Fm):Option Int :=
 (bif(List.any [(a.1,a.2.1,a.2.2.1,a.2.2.2)] (fun z0=>(z0.1||(!(yn z0)))))then
 some ((9218868437227405312:Nat):Int)
 else
  (itP fu (qd4) ((0:Int),a.2.2.1,(List.length a.2.2.1:Int),(0:Int),a.1,a.2.1,a.2.2.1,a.2.2.2,())).bind fun x3=>
  some (upS 0 [x3.1,x3.2.2.2.2.2.2.2.1]:Int))
def qcU(c:Int):Int:=((jT c.toNat:Nat):Int)
def qxB:List Tm→Int→Int
 | [],s=>s
 | t::l,s=>qxB l (upI [s,qcU t.c])
def radL:{f:Fm→Int // ∀a,f a=bif okF a then upI [qxB a.2.2.1 0,a.2.2.2]else 9218868437227405312}:=Classical.choice ⟨⟨_,fun _=>rfl⟩⟩
def qBL(a:Fm):Int:=radL.1 a
theorem qxC(a:Fm):qBL a=bif okF a then upI [qxB a.2.2.1 0,a.2.2.2]else 9218868437227405312:=radL.2 a
def qiy(a:Fm):Option Int:=bif qgI a.2.2.1 then some (qBL a)else none
theorem qkd(l:List Tm)(hl:l.length≤549755813888)(q:Bool×Int×List Tm×Int×Unit):∀(rest A:List Tm) (s:Int),A++rest=l →
 ∃n,itP n qd4 (s,l,(l.length:Int),(A.length:Int),q)=some (qxB rest s,l,(l.length:Int),(l.length:Int),q)
 | [],A,s,hA=>by
  rw[zD]at hA;subst hA;refine⟨1,?_⟩
  rw[qu];simp only[qd4];rw[zh (by omega),zi];rfl
 | t::rest,A,s,hA=>by
  have hNl:A.length+(rest.length+1)=l.length:=by rw[← hA];simp
  have hg:idx l (A.length:Int)=some t:=by
   rw[jL,← hA,zO (by omega),Vv];rfl
  obtain⟨n,h⟩:=qkd l hl q rest (A++[t]) (upI [s,qcU t.c]) (by rw[← hA];simp)
  refine⟨n+1,?_⟩
  rw[qu];simp only[qd4];rw[zd (show(A.length:Int)<(l.length:Int) by omega),zf,hg,zj,w64 (by omega) (by omega),show((A.length:Int)+1)=(((A++[t]).length:Nat):Int) by simp];exact h
theorem qxD(a:Fm)(y:Int)(hg:(d1 jC).good a)(h:qiy a=some y):∃n,qBK n a=some y:=by
 obtain⟨b,m,l,e⟩:=a;obtain⟨h1,h2⟩:=qj h;have:=soi h2;subst this
 have hl:l.length≤549755813888:=zr h1
 have ha:List.any [((b,m,l,e):Fm)] (fun z0=>(z0.1||(!(yn z0)))) = !okF (b,m,l,e):=by simp[okF]
 obtain⟨n,q⟩:=qkd l hl (b,m,l,e,()) l [] 0 rfl
 refine⟨n,?_⟩
 rw[qxC];unfold qBK;simp only[];rw[ha];cases okF (b,m,l,e)with
 | false=>rfl
 | true=>
  rw[Kf,zi,zf];exact obs q rfl
end
end Su
end
