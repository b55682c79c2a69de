/-
  What functions of the program compute, in plain Lean, and that the evaluator finds it.
-/
import Derived.Test.YtldhknmacepeiaaGreatDoorSuXl
import Derived.Test.YtldhknmacepeiaaGreatDoorRfc
set_option linter.unusedVariables false
set_option linter.unusedSimpArgs false
set_option maxRecDepth 10000
section
namespace Su
open Go Fly
noncomputable section
def qkQ:Stp (Int×(List Int)×(List Int)×Unit):=fun p3=>(jQ (IntKind.wrap .i64 (p3.1+1))).bind fun x4=>
 (ye (x4,p3.2.2.1)).bind fun x5=>
 (jQ (IntKind.wrap .i64 ((IntKind.wrap .i64 (0-p3.1))-1))).bind fun x6=>
 (ye (p3.2.1,x6)).bind fun x7=>
 (bif(decide ((ZD (qc x5) (qc x7))≤0))then
 some (.inl ((IntKind.wrap .i64 (p3.1+1)),p3.2.1,p3.2.2.1,()))
 else
  some (.inr (p3.1,p3.2.1,p3.2.2.1,())))
abbrev qbA:=(Int×(List Int)×(List Int)×Int×Int×(List Int)×(List Int)×Unit)
def qsU:qbA→Option (qbA ⊕ (Lp qbA ((Int×Int×(List Int)×(List Int)×Unit) ⊕ (Lp (Int×Int×(List Int)×(List Int)×Unit) (ByteArray×Int))))):=fun p11=>(bif(decide (p11.2.2.2.1<2))then
 (bif((decide (0≤p11.2.2.2.1))&&(decide (p11.2.2.2.1<2)))then
 (bif(decide (p11.2.2.2.1=0))then
 (jQ p11.1).bind fun x12=>
 (ye (p11.2.1,x12)).bind fun x13=>
 (jQ (IntKind.wrap .i64 (0-p11.1))).bind fun x14=>
 (yN (false,x13,x14,(0:Int))).bind fun x15=>
 (bif(decide (x15.1=p11.2.2.2.2.1))then
 (qcF p11.2.1).bind fun x16=>
 (qhU (x16,p11.1)).bind fun x17=>
 some (.inr (.ret (.inr (.ret x17))))
 else
  some (.inl (p11.1,p11.2.1,p11.2.2.1,(IntKind.wrap .i64 (p11.2.2.2.1+1)),p11.2.2.2.2.1,p11.2.2.2.2.2.1,p11.2.2.2.2.2.2.1,())))
 else
  (bif(decide (p11.2.2.2.1=((1:Nat):Int)))then
  (jQ p11.1).bind fun x18=>
  (ye (p11.2.2.1,x18)).bind fun x19=>
  (jQ (IntKind.wrap .i64 (0-p11.1))).bind fun x20=>
  (yN (false,x19,x20,(0:Int))).bind fun x21=>
  (bif(decide (x21.1=p11.2.2.2.2.1))then
  (qcF p11.2.2.1).bind fun x22=>
  (qhU (x22,p11.1)).bind fun x23=>
  some (.inr (.ret (.inr (.ret x23))))
 else
  some (.inl (p11.1,p11.2.1,p11.2.2.1,(IntKind.wrap .i64 (p11.2.2.2.1+1)),p11.2.2.2.2.1,p11.2.2.2.2.2.1,p11.2.2.2.2.2.2.1,())))
 else none))
 else none)
 else
  some (.inr (.exit 2 (p11.1,p11.2.1,p11.2.2.1,p11.2.2.2.1,p11.2.2.2.2.1,p11.2.2.2.2.2.1,p11.2.2.2.2.2.2.1,()))))
def qkR(fu:Nat):(Int×Int×(List Int)×(List Int)×Unit)→Option ((Int×Int×(List Int)×(List Int)×Unit) ⊕ (Lp (Int×Int×(List Int)×(List Int)×Unit) (ByteArray×Int))):=fun p9=>(quj (p9.2.2.1,p9.2.2.2.1) p9.1).bind fun x10=>
 (itP fu (qsU) (p9.1,x10.1,x10.2,(0:Int),p9.2.1,p9.2.2.1,p9.2.2.2.1,())).bind fun x24=>
 (match x24 with
 | .exit i25 p26=>(bif(Nat.beq i25 2)then
  some (.inl ((IntKind.wrap .i64 (p26.1-1)),p26.2.2.2.2.1,p26.2.2.2.2.2.1,p26.2.2.2.2.2.2.1,()))
 else
  (bif(Nat.beq i25 1)then
  some (.inl ((IntKind.wrap .i64 (p26.1-1)),p26.2.2.2.2.1,p26.2.2.2.2.2.1,p26.2.2.2.2.2.2.1,()))
 else
  some (.inr (.exit i25 (p26.1,p26.2.2.2.2.1,p26.2.2.2.2.2.1,p26.2.2.2.2.2.2.1,())))))
 | .ret o27=>some o27)
def qwb  (fu:Nat)(f:Int):Option (ByteArray×Int) :=
 (bif(!(decide ((((y8 (bK (Int.toNat (qhy f.toNat:Int)))):Nat):Int)=2)))then
 (bif(!(decide ((((y8 (bK (Int.toNat (qhy f.toNat:Int)))):Nat):Int)=1)))then
 some ((ByteArray.mk (List.toArray [])),(0:Int))
 else
  (dOf (qhy f.toNat:Int)).bind fun x0=>
  (Len x0.1).bind fun x1=>
  (Len x0.2).bind fun x2=>
  (itP fu (qkQ) ((IntKind.wrap .i64 ((IntKind.wrap .i64 (Int.tdiv (IntKind.wrap .i64 ((IntKind.wrap .i64 (x1-x2))*30103)) 100000))-2)),x0.1,x0.2,())).bind fun x8=>
  (itP fu (qkR fu) (x8.1,(qhy f.toNat:Int),x0.1,x0.2,())).bind fun x28=>
  (match x28 with
 | .exit i29 p30=>(bif(Nat.beq i29 0)then
  none
 else none)
 | .ret o31=>some o31))
 else
  (dOf (qhy f.toNat:Int)).bind fun x32=>
  (Len x32.1).bind fun x33=>
  (Len x32.2).bind fun x34=>
  (itP fu (qkQ) ((IntKind.wrap .i64 ((IntKind.wrap .i64 (Int.tdiv (IntKind.wrap .i64 ((IntKind.wrap .i64 (x33-x34))*30103)) 100000))-2)),x32.1,x32.2,())).bind fun x40=>
  (itP fu (qkR fu) (x40.1,(qhy f.toNat:Int),x32.1,x32.2,())).bind fun x60=>
  (match x60 with
 | .exit i61 p62=>(bif(Nat.beq i61 0)then
  none
 else none)
 | .ret o63=>some o63))
theorem qx7{q:Int}(h:q≤2000):jQ q=some (ofN (pT q)):=by unfold jQ;rw[za (by omega)];rfl
theorem qx8{q:Int}(h : -2000≤q):jQ (-q)=some (ofN (pU q)):=by unfold jQ;rw[za (by omega)];rfl
set_option exponentiation.threshold 1200 in
abbrev InS:=Int×((List Int)×(List Int)×Int×Int×(List Int)×(List Int)×Unit)
abbrev inS(N D k n0 n1:Nat)(q j:Int):InS:=(q,ofN n0,ofN n1,j,(k:Int),ofN N,ofN D,())
theorem qkS(v:Nat)(h:qm v≤40000):Nat.ble (ofN v).length 100000=true:=zr (by have:=ZK v;omega)
theorem bl_t{q:Int}(h:q≤420):qm (pT q)≤1681:=by have:=YY q.toNat;unfold pT;omega
def DgP(f:Int)(y:ByteArray×Int):Prop :=
 (y8 (bK f.toNat)≠2∧y8 (bK f.toNat)≠1∧y=(bs [],0)) ∨
 ((y8 (bK f.toNat)=2∨y8 (bK f.toNat)=1)∧∃n q,IsD (bK f.toNat) n q∧y=ansD n q)
open Classical in
noncomputable def Yh(f:Int):Option (ByteArray×Int):=if h:∃y,(∃m,qwb m f=some y)∧DgP f y then some (choose h)else none
theorem qsV(f:Int)(y:ByteArray×Int)(hg:(d1 (cI .u64)).good f)(h:Yh f=some y):∃n,qwb n f=some y:=by
 unfold Yh at h;split at h
 · rename_i hx
   have:=soi h;subst this
   exact(Classical.choose_spec hx).1
 · cases h
end
end Su
end
section
namespace Su
open Go Fly
noncomputable section
def qji  (f:Int):Option (Bool×Int×Int) :=
 some ((decide ((IntKind.wrap .u64 (Int.tdiv f 9223372036854775808))=1)),(IntKind.wrap .i64 (Int.tmod (IntKind.wrap .u64 (Int.tdiv f 4503599627370496)) 2048)),(Int.tmod f 4503599627370496))
def qjj  (f:Int):Option Int :=
 (bif(decide ((IntKind.wrap .i64 (Int.tmod (IntKind.wrap .u64 (Int.tdiv f 4503599627370496)) 2048))=2047))then
 (bif(decide ((Int.tmod f 4503599627370496)=0))then
 some 3
 else
  (bif(decide ((IntKind.wrap .i64 (Int.tmod (IntKind.wrap .u64 (Int.tdiv f 4503599627370496)) 2048))=2047))then
  some 4
 else
  (bif(decide ((IntKind.wrap .i64 (Int.tmod (IntKind.wrap .u64 (Int.tdiv f 4503599627370496)) 2048))=0))then
  (bif(decide ((Int.tmod f 4503599627370496)=0))then
  some 0
 else
  (bif(decide ((IntKind.wrap .i64 (Int.tmod (IntKind.wrap .u64 (Int.tdiv f 4503599627370496)) 2048))=0))then
  some 1
 else
  some 2))
 else
  (bif(decide ((IntKind.wrap .i64 (Int.tmod (IntKind.wrap .u64 (Int.tdiv f 4503599627370496)) 2048))=0))then
  some 1
 else
  some 2))))
 else
  (bif(decide ((IntKind.wrap .i64 (Int.tmod (IntKind.wrap .u64 (Int.tdiv f 4503599627370496)) 2048))=2047))then
  some 4
 else
  (bif(decide ((IntKind.wrap .i64 (Int.tmod (IntKind.wrap .u64 (Int.tdiv f 4503599627370496)) 2048))=0))then
  (bif(decide ((Int.tmod f 4503599627370496)=0))then
  some 0
 else
  (bif(decide ((IntKind.wrap .i64 (Int.tmod (IntKind.wrap .u64 (Int.tdiv f 4503599627370496)) 2048))=0))then
  some 1
 else
  some 2))
 else
  (bif(decide ((IntKind.wrap .i64 (Int.tmod (IntKind.wrap .u64 (Int.tdiv f 4503599627370496)) 2048))=0))then
  some 1
 else
  some 2))))
theorem qo6(m n:Nat):Int.tdiv (m:Int) (n:Int)=((m / n:Nat):Int):=rfl
theorem qo7(m n:Nat):Int.tmod (m:Int) (n:Int)=((m % n:Nat):Int):=rfl
theorem td63{f:Nat}(h:f<18446744073709551616):decide (IntKind.u64.wrap (Int.tdiv (f:Int) 9223372036854775808)=1)=bS f:=by
 rw[show(9223372036854775808:Int)=((9223372036854775808:Nat):Int) from rfl,qo6,jR (by omega) (by omega)];refine bB ?_
 rw[qoe];constructor
 · intro h;have:f / 9223372036854775808=1:=by omega
   rw[this];rfl
 · intro h;omega
theorem tdE{f:Nat}(h:f<18446744073709551616):IntKind.i64.wrap (Int.tmod (IntKind.u64.wrap (Int.tdiv (f:Int) 4503599627370496)) 2048)=((bK f / 4503599627370496:Nat):Int):=by
 rw[show(4503599627370496:Int)=((4503599627370496:Nat):Int) from rfl,qo6,jR (by omega) (by omega),show(2048:Int)=((2048:Nat):Int) from rfl,qo7,w64 (by omega) (by omega)]
 congr 1
 unfold bK;omega
theorem tmF(f:Nat):Int.tmod (f:Int) 4503599627370496=((bK f % 4503599627370496:Nat):Int):=by
 rw[show(4503599627370496:Int)=((4503599627370496:Nat):Int) from rfl,qo7]
 congr 1
 unfold bK;omega
def qhV(f:Int):Option (Bool×Int×Int):=some (bS f.toNat,((bK f.toNat / 4503599627370496:Nat):Int),((bK f.toNat % 4503599627370496:Nat):Int))
theorem qmf(f:Int)(y:Bool×Int×Int)(hg:(d1 (cI .u64)).good f)(h:qhV f=some y):qji f=some y:=by
 obtain⟨n,rfl,hn⟩:=QY hg;have:=soi h;subst this
 unfold qji;rw[td63 hn,tdE hn,tmF,zd]
def qhW(f:Int):Option Int:=some ((y8 (bK f.toNat):Nat):Int)
theorem qmg(f:Int)(y:Int)(hg:(d1 (cI .u64)).good f)(h:qhW f=some y):qjj f=some y:=by
 obtain⟨n,rfl,hn⟩:=QY hg;have:=soi h;subst this
 unfold qjj;rw[tdE hn,tmF,zd];have hk:=qoh n;generalize bK n=k at *
 have e:k=k / 4503599627370496*4503599627370496+k % 4503599627370496:=by omega
 have he:k / 4503599627370496≤2047:=by omega
 have hf:k % 4503599627370496<4503599627370496:=by omega
 have hc:=qkl he hf;rw[← e]at hc;rw[hc];generalize k / 4503599627370496=E at *
 generalize k % 4503599627370496=F at *
 rw[show(2047:Int)=((2047:Nat):Int) from rfl,show(0:Int)=((0:Nat):Int) from rfl,yq,yq,yq];by_cases h1:E=2047
 · subst h1
   by_cases h2:F=0
   · subst h2;rfl
   · simp[h2]
 · by_cases h2:E=0
   · subst h2
     by_cases h3:F=0
     · subst h3;rfl
     · simp[h3]
   · simp[h1,h2]
end
end Su
end
section
namespace Su
open Go Fly
noncomputable section
def qdS(d:ByteArray)(q:Int) :=
 bif(true&&(decide (1≤(ByteArray.size d:Int))))then
 (bif(decide (1<(ByteArray.size d:Int)))then
 (bif((true&&(decide (1≤(ByteArray.size d:Int))))&&(decide ((ByteArray.size d:Int)≤(ByteArray.size d:Int))))then
 (bif(Nat.ble (1+(ByteArray.size (ByteArray.extract d 1 (Int.toNat (ByteArray.size d:Int))))) 549755813888)then
 (bif(Nat.ble ((ByteArray.size (ByteArray.extract d 0 1))+(ByteArray.size ((ByteArray.mk (List.toArray [46]))++(ByteArray.extract d 1 (Int.toNat (ByteArray.size d:Int)))))) 549755813888)then
 (bif(Nat.ble ((ByteArray.size ((ByteArray.extract d 0 1)++((ByteArray.mk (List.toArray [46]))++(ByteArray.extract d 1 (Int.toNat (ByteArray.size d:Int))))))+1) 549755813888)then
 (qe3 (IntKind.wrap .i64 ((IntKind.wrap .i64 ((ByteArray.size d:Int)+q))-1))).bind fun x2=>
 (bif(Nat.ble ((ByteArray.size (((ByteArray.extract d 0 1)++((ByteArray.mk (List.toArray [46]))++(ByteArray.extract d 1 (Int.toNat (ByteArray.size d:Int)))))++(ByteArray.mk (List.toArray [101]))))+(ByteArray.size x2)) 549755813888)then
 some ((((ByteArray.extract d 0 1)++((ByteArray.mk (List.toArray [46]))++(ByteArray.extract d 1 (Int.toNat (ByteArray.size d:Int)))))++(ByteArray.mk (List.toArray [101])))++x2)
 else none)
 else none)
 else none)
 else none)
 else none)
 else
  (bif(Nat.ble ((ByteArray.size (ByteArray.extract d 0 1))+1) 549755813888)then
  (qe3 (IntKind.wrap .i64 ((IntKind.wrap .i64 ((ByteArray.size d:Int)+q))-1))).bind fun x3=>
  (bif(Nat.ble ((ByteArray.size ((ByteArray.extract d 0 1)++(ByteArray.mk (List.toArray [101]))))+(ByteArray.size x3)) 549755813888)then
  some (((ByteArray.extract d 0 1)++(ByteArray.mk (List.toArray [101])))++x3)
 else none)
 else none))
 else
  none
def qdT(d:ByteArray)(q:Int) :=
 bif(decide ((-5)≤(IntKind.wrap .i64 ((ByteArray.size d:Int)+q))))then
 (bif(decide ((IntKind.wrap .i64 ((ByteArray.size d:Int)+q))≤0))then
 (qdR ((),(IntKind.wrap .i64 (0-(IntKind.wrap .i64 ((ByteArray.size d:Int)+q)))))).bind fun x1=>
 (bif(Nat.ble (2+(ByteArray.size x1)) 549755813888)then
 (bif(Nat.ble ((ByteArray.size ((ByteArray.mk (List.toArray [48,46]))++x1))+(ByteArray.size d)) 549755813888)then
 some (((ByteArray.mk (List.toArray [48,46]))++x1)++d)
 else none)
 else none)
 else
  (qdS d q))
 else
  (qdS d q)
def qdU(d:ByteArray)(q:Int) :=
 bif(decide (q<0))then
 (bif(decide (0<(IntKind.wrap .i64 ((ByteArray.size d:Int)+q))))then
 (bif((true&&(decide (0≤(IntKind.wrap .i64 ((ByteArray.size d:Int)+q)))))&&(decide ((IntKind.wrap .i64 ((ByteArray.size d:Int)+q))≤(ByteArray.size d:Int))))then
 (bif(Nat.ble ((ByteArray.size (ByteArray.extract d 0 (Int.toNat (IntKind.wrap .i64 ((ByteArray.size d:Int)+q)))))+1) 549755813888)then
 (bif(((decide (0≤(IntKind.wrap .i64 ((ByteArray.size d:Int)+q))))&&(decide ((IntKind.wrap .i64 ((ByteArray.size d:Int)+q))≤(ByteArray.size d:Int))))&&(decide ((ByteArray.size d:Int)≤(ByteArray.size d:Int))))then
 (bif(Nat.ble ((ByteArray.size ((ByteArray.extract d 0 (Int.toNat (IntKind.wrap .i64 ((ByteArray.size d:Int)+q))))++(ByteArray.mk (List.toArray [46]))))+(ByteArray.size (ByteArray.extract d (Int.toNat (IntKind.wrap .i64 ((ByteArray.size d:Int)+q))) (Int.toNat (ByteArray.size d:Int))))) 549755813888)then
 some (((ByteArray.extract d 0 (Int.toNat (IntKind.wrap .i64 ((ByteArray.size d:Int)+q))))++(ByteArray.mk (List.toArray [46])))++(ByteArray.extract d (Int.toNat (IntKind.wrap .i64 ((ByteArray.size d:Int)+q))) (Int.toNat (ByteArray.size d:Int))))
 else none)
 else none)
 else none)
 else none)
 else
  (qdT d q))
 else
  (qdT d q)
def qkT  (d:ByteArray)(q:Int):Option ByteArray :=
 (bif(decide (0≤q))then
 (bif(decide ((IntKind.wrap .i64 ((ByteArray.size d:Int)+q))≤21))then
 (qdR ((),q)).bind fun x0=>
 (bif(Nat.ble ((ByteArray.size d)+(ByteArray.size x0)) 549755813888)then
 (bif(Nat.ble ((ByteArray.size (d++x0))+2) 549755813888)then
 some ((d++x0)++(ByteArray.mk (List.toArray [46,48])))
 else none)
 else none)
 else
  (qdU d q))
 else
  (qdU d q))
theorem bdT{α:Type}{p:Prop}[Decidable p](h:p)(a b:α):(bif decide p then a else b)=a:=by rw[za h];rfl
theorem bdF{α:Type}{p:Prop}[Decidable p](h : ¬p)(a b:α):(bif decide p then a else b)=b:=by rw[zk h];rfl
theorem bdA{α:Type}(x y:Bool)(a b:α):(bif x&&y then a else b)=bif x then(bif y then a else b)else b:=by cases x <;> rfl
theorem bdB{α:Type}{n m:Nat}(h:n≤m)(a b:α):(bif Nat.ble n m then a else b)=a:=by rw[zr h];rfl
def qe5(d:List UInt8)(q:Int):List UInt8 :=
 if 0≤q∧(d.length:Int)+q≤21 then d++zs q.toNat++[46,48]else
 if q<0∧0<(d.length:Int)+q then d.take ((d.length:Int)+q).toNat++[46]++d.drop ((d.length:Int)+q).toNat else
 if(d.length:Int)+q≤0∧-5≤(d.length:Int)+q then[48,46]++zs (-((d.length:Int)+q)).toNat++d else
 d.take 1++(if 1<d.length then 46::d.drop 1 else[])++101::itT ((d.length:Int)+q-1)
def okF(d:List UInt8)(q:Int):Bool:=decide (1≤d.length)&&(decide (d.length≤1000)&&(decide (-1000≤q)&&decide (q≤1000)))
theorem qgs{d:List UInt8}{q:Int}:okF d q=true↔1≤d.length∧d.length≤1000∧-1000≤q∧q≤1000:=by
 unfold okF;simp only[zn,zL]
def QG(p:ByteArray×Int):Option ByteArray:=bif okF (lb p.1) p.2 then some (bs (qe5 (lb p.1) p.2))else none
theorem quk{n:Int}(h1:0≤n)(h2:n≤40):qdR ((),n)=some (bs (zs n.toNat)):=by unfold qdR;rw[za h1,za h2];rfl
theorem it_v{n:Int}(h1 : -10000≤n)(h2:n≤10000):qe3 n=some (bs (itT n)):=by unfold qe3;rw[za (by omega),za (by omega)];rfl
theorem qbB(n:Nat):(zs n).length=n:=Wq
theorem qo8(p:ByteArray×Int)(y:ByteArray)(hg:(dc cS (d1 (cI .i64))).good p)(h:QG p=some y):qkT p.1 p.2=some y:=by
 obtain⟨d,q⟩:=p;revert h;refine onB (P:=fun d=>QG (d,q)=some y→qkT d q=some y) (fun l h=>?_) d
 obtain⟨h1,h2⟩:=qh h;have:=soi h2;subst this
 simp only[qD]at h1 ⊢;obtain⟨a1,a2,a3,a4⟩:=qgs.1 h1;clear hg h h1 h2;have w1:IntKind.i64.wrap (((l.length:Nat):Int)+q)=((l.length:Nat):Int)+q:=w64 (by omega) (by omega)
 have w2:IntKind.i64.wrap (0-(((l.length:Nat):Int)+q)) = -(((l.length:Nat):Int)+q):=by rw[w64 (by omega) (by omega)];omega
 have w3:IntKind.i64.wrap (((l.length:Nat):Int)+q-1)=((l.length:Nat):Int)+q-1:=w64 (by omega) (by omega)
 have il:=qcC (n:=((l.length:Nat):Int)+q-1) (by omega) (by omega)
 unfold qkT qdU qdT qdS;simp only[qe,w1,w2,w3,qQ,jY,qC];unfold qe5;by_cases c1:0≤q∧((l.length:Nat):Int)+q≤21
 · rw[zA c1]
   have r:=quk (n:=q) (by omega) (by omega)
   have zl:=qbB q.toNat;simp (disch:=omega) only[↓bdT,↓bdF,r,zh]
   simp (disch:=((try simp only[qe,zy,zl]);omega)) only[bdB,qC]
 · rw[zx c1]
   by_cases c2:q<0∧0<((l.length:Nat):Int)+q
   · rw[zA c2]
     simp (disch:=omega) only[↓bdT,↓bdF,↓bdA,↓zg]
     simp (disch:=(simp only[zy,zB,zP,zt,zU];omega)) only[bdB,qC,zd,Kh,KJ]
     rw[zF (l:=List.drop _ l) (by simp)]
   · rw[zx c2]
     by_cases c3:((l.length:Nat):Int)+q≤0∧-5≤((l.length:Nat):Int)+q
     · rw[zA c3]
       have r:=quk (n:=-(((l.length:Nat):Int)+q)) (by omega) (by omega)
       have zl:=qbB (-(((l.length:Nat):Int)+q)).toNat
       simp (disch:=omega) only[↓bdT,↓bdF,↓bdA,↓zg,r,zh]
       simp (disch:=((try simp only[qe,zy,zt,zU,zl]);omega)) only[bdB,qC]
     · rw[zx c3]
       have r:=it_v (n:=((l.length:Nat):Int)+q-1) (by omega) (by omega)
       generalize itT (((l.length:Nat):Int)+q-1)=T at *
       have hq:0≤q∧21<((l.length:Nat):Int)+q∨q<0∧((l.length:Nat):Int)+q < -5:=by omega
       by_cases c4:1<l.length
       · rw[zA c4]
         have ht:List.take (l.length-1) (l.drop 1)=l.drop 1:=zF (by simp)
         rcases hq with hq | hq
         · simp (disch:=omega) only[↓bdT,↓bdF,↓bdA,↓zg,r,zh]
           simp (disch:=((try simp only[qe,zy,zt,zU,zB,zP]);omega)) only[bdB,qC,zd,Kh,KJ,ht]
           simp
         · simp (disch:=omega) only[↓bdT,↓bdF,↓bdA,↓zg,r,zh]
           simp (disch:=((try simp only[qe,zy,zt,zU,zB,zP]);omega)) only[bdB,qC,zd,Kh,KJ,ht]
           simp
       · rw[zx c4]
         rcases hq with hq | hq
         · simp (disch:=omega) only[↓bdT,↓bdF,↓bdA,↓zg,r,zh]
           simp (disch:=((try simp only[qe,zy,zt,zU,zB,zP]);omega)) only[bdB,qC,zd,Kh,KJ]
           simp
         · simp (disch:=omega) only[↓bdT,↓bdF,↓bdA,↓zg,r,zh]
           simp (disch:=((try simp only[qe,zy,zt,zU,zB,zP]);omega)) only[bdB,qC,zd,Kh,KJ]
           simp
end
end Su
end
