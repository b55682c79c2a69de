/-
  What functions of the program compute, in plain Lean, and that the evaluator finds it.
-/
import Derived.Test.YtldhknmacepeiaaGreatDoorSuXl
import Derived.Test.YtldhknmacepeiaaGreatDoorNT10
set_option linter.unusedVariables false
set_option linter.unusedSimpArgs false
set_option maxRecDepth 10000
section
namespace Su
open Go Fly
noncomputable section
def qdV(d:ByteArray)(q:Int) :=
 bif(true&&(decide (1≤(ByteArray.size d:Int))))then
 (bif(decide (1<(ByteArray.size d:Int)))then
 (bif(Nat.ble ((ByteArray.size (ByteArray.extract d 0 1))+1) 549755813888)then
 (bif((true&&(decide (1≤(ByteArray.size d:Int))))&&(decide ((ByteArray.size d:Int)≤(ByteArray.size d:Int))))then
 (bif(Nat.ble ((ByteArray.size ((ByteArray.extract d 0 1)++(ByteArray.mk (List.toArray [46]))))+(ByteArray.size (ByteArray.extract d 1 (Int.toNat (ByteArray.size d:Int))))) 549755813888)then
 (bif(decide ((IntKind.wrap .i64 ((IntKind.wrap .i64 ((ByteArray.size d:Int)+q))-1))<0))then
 (bif(Nat.ble ((ByteArray.size (((ByteArray.extract d 0 1)++(ByteArray.mk (List.toArray [46])))++(ByteArray.extract d 1 (Int.toNat (ByteArray.size d:Int)))))+2) 549755813888)then
 (ZJ (IntKind.wrap .i64 (0-(IntKind.wrap .i64 ((IntKind.wrap .i64 ((ByteArray.size d:Int)+q))-1))))).bind fun x2=>
 (bif(Nat.ble ((ByteArray.size ((((ByteArray.extract d 0 1)++(ByteArray.mk (List.toArray [46])))++(ByteArray.extract d 1 (Int.toNat (ByteArray.size d:Int))))++(ByteArray.mk (List.toArray [101,45]))))+(ByteArray.size x2)) 549755813888)then
 some (((((ByteArray.extract d 0 1)++(ByteArray.mk (List.toArray [46])))++(ByteArray.extract d 1 (Int.toNat (ByteArray.size d:Int))))++(ByteArray.mk (List.toArray [101,45])))++x2)
 else none)
 else none)
 else
  (bif(Nat.ble ((ByteArray.size (((ByteArray.extract d 0 1)++(ByteArray.mk (List.toArray [46])))++(ByteArray.extract d 1 (Int.toNat (ByteArray.size d:Int)))))+1) 549755813888)then
  (ZJ (IntKind.wrap .i64 ((IntKind.wrap .i64 ((ByteArray.size d:Int)+q))-1))).bind fun x3=>
  (bif(Nat.ble ((ByteArray.size ((((ByteArray.extract d 0 1)++(ByteArray.mk (List.toArray [46])))++(ByteArray.extract d 1 (Int.toNat (ByteArray.size d:Int))))++(ByteArray.mk (List.toArray [101]))))+(ByteArray.size x3)) 549755813888)then
  some (((((ByteArray.extract d 0 1)++(ByteArray.mk (List.toArray [46])))++(ByteArray.extract d 1 (Int.toNat (ByteArray.size d:Int))))++(ByteArray.mk (List.toArray [101])))++x3)
 else none)
 else none))
 else none)
 else none)
 else none)
 else
  (bif(decide ((IntKind.wrap .i64 ((IntKind.wrap .i64 ((ByteArray.size d:Int)+q))-1))<0))then
  (bif(Nat.ble ((ByteArray.size (ByteArray.extract d 0 1))+2) 549755813888)then
  (ZJ (IntKind.wrap .i64 (0-(IntKind.wrap .i64 ((IntKind.wrap .i64 ((ByteArray.size d:Int)+q))-1))))).bind fun x4=>
  (bif(Nat.ble ((ByteArray.size ((ByteArray.extract d 0 1)++(ByteArray.mk (List.toArray [101,45]))))+(ByteArray.size x4)) 549755813888)then
  some (((ByteArray.extract d 0 1)++(ByteArray.mk (List.toArray [101,45])))++x4)
 else none)
 else none)
 else
  (bif(Nat.ble ((ByteArray.size (ByteArray.extract d 0 1))+1) 549755813888)then
  (ZJ (IntKind.wrap .i64 ((IntKind.wrap .i64 ((ByteArray.size d:Int)+q))-1))).bind fun x5=>
  (bif(Nat.ble ((ByteArray.size ((ByteArray.extract d 0 1)++(ByteArray.mk (List.toArray [101]))))+(ByteArray.size x5)) 549755813888)then
  some (((ByteArray.extract d 0 1)++(ByteArray.mk (List.toArray [101])))++x5)
 else none)
 else none)))
 else
  none
def qdW(d:ByteArray)(q:Int) :=
 bif(decide ((IntKind.wrap .i64 ((ByteArray.size d:Int)+q))≤0))then
 (bif(decide ((-5)≤(IntKind.wrap .i64 ((ByteArray.size d:Int)+q))))then
 (qbv (IntKind.wrap .i64 (0-(IntKind.wrap .i64 ((ByteArray.size d:Int)+q))))).bind fun x1=>
 (bif(Nat.ble (2+(ByteArray.size x1)) 549755813888)then
 (bif(Nat.ble ((ByteArray.size ((ByteArray.mk (List.toArray [48,46]))++x1))+(ByteArray.size d)) 549755813888)then
 some (((ByteArray.mk (List.toArray [48,46]))++x1)++d)
 else none)
 else none)
 else
  (qdV d q))
 else
  (qdV d q)
def qdX(d:ByteArray)(q:Int) :=
 bif(decide (q<0))then
 (bif(decide (0<(IntKind.wrap .i64 ((ByteArray.size d:Int)+q))))then
 (bif((true&&(decide (0≤(IntKind.wrap .i64 ((ByteArray.size d:Int)+q)))))&&(decide ((IntKind.wrap .i64 ((ByteArray.size d:Int)+q))≤(ByteArray.size d:Int))))then
 (bif(Nat.ble ((ByteArray.size (ByteArray.extract d 0 (Int.toNat (IntKind.wrap .i64 ((ByteArray.size d:Int)+q)))))+1) 549755813888)then
 (bif(((decide (0≤(IntKind.wrap .i64 ((ByteArray.size d:Int)+q))))&&(decide ((IntKind.wrap .i64 ((ByteArray.size d:Int)+q))≤(ByteArray.size d:Int))))&&(decide ((ByteArray.size d:Int)≤(ByteArray.size d:Int))))then
 (bif(Nat.ble ((ByteArray.size ((ByteArray.extract d 0 (Int.toNat (IntKind.wrap .i64 ((ByteArray.size d:Int)+q))))++(ByteArray.mk (List.toArray [46]))))+(ByteArray.size (ByteArray.extract d (Int.toNat (IntKind.wrap .i64 ((ByteArray.size d:Int)+q))) (Int.toNat (ByteArray.size d:Int))))) 549755813888)then
 some (((ByteArray.extract d 0 (Int.toNat (IntKind.wrap .i64 ((ByteArray.size d:Int)+q))))++(ByteArray.mk (List.toArray [46])))++(ByteArray.extract d (Int.toNat (IntKind.wrap .i64 ((ByteArray.size d:Int)+q))) (Int.toNat (ByteArray.size d:Int))))
 else none)
 else none)
 else none)
 else none)
 else
  (qdW d q))
 else
  (qdW d q)
def qkU  (d:ByteArray)(q:Int):Option ByteArray :=
 (bif(decide (0≤q))then
 (bif(decide ((IntKind.wrap .i64 ((ByteArray.size d:Int)+q))≤21))then
 (qbv q).bind fun x0=>
 (bif(Nat.ble ((ByteArray.size d)+(ByteArray.size x0)) 549755813888)then
 (bif(Nat.ble ((ByteArray.size (d++x0))+2) 549755813888)then
 some ((d++x0)++(ByteArray.mk (List.toArray [46,48])))
 else none)
 else none)
 else
  (qdX d q))
 else
  (qdX d q))
def qjk  (f:Int):Option ByteArray :=
 (bif(decide ((Int.fdiv f (2^63))=1))then
 (bif(decide ((((y8 (bK f.toNat)):Nat):Int)=4))then
 some (ByteArray.mk (List.toArray [110,97,110]))
 else
  (bif(decide ((((y8 (bK f.toNat)):Nat):Int)=3))then
  some ((ByteArray.mk (List.toArray [45]))++(ByteArray.mk (List.toArray [105,110,102])))
 else
  (bif(decide ((((y8 (bK f.toNat)):Nat):Int)=0))then
  some ((ByteArray.mk (List.toArray [45]))++(ByteArray.mk (List.toArray [48,46,48])))
 else
  (Yh f).bind fun x0=>
  (QG x0).bind fun x1=>
  (bif(Nat.ble (1+(ByteArray.size x1)) 549755813888)then
  some ((ByteArray.mk (List.toArray [45]))++x1)
 else none))))
 else
  (bif(decide ((((y8 (bK f.toNat)):Nat):Int)=4))then
  some (ByteArray.mk (List.toArray [110,97,110]))
 else
  (bif(decide ((((y8 (bK f.toNat)):Nat):Int)=3))then
  some ((ByteArray.mk (List.toArray []))++(ByteArray.mk (List.toArray [105,110,102])))
 else
  (bif(decide ((((y8 (bK f.toNat)):Nat):Int)=0))then
  some ((ByteArray.mk (List.toArray []))++(ByteArray.mk (List.toArray [48,46,48])))
 else
  (Yh f).bind fun x2=>
  (QG x2).bind fun x3=>
  (bif(Nat.ble (0+(ByteArray.size x3)) 549755813888)then
  some ((ByteArray.mk (List.toArray []))++x3)
 else none)))))
def qgt(p:ByteArray×Int):Option ByteArray:=bif okF (lb p.1) p.2 then some (bs (qe5 (lb p.1) p.2))else none
theorem qul{n:Int}(h1:0≤n)(h2:n≤10000):qbv n=some (bs (zs n.toNat)):=by unfold qbv;rw[za (by omega),za (by omega)];rfl
theorem rd_v{n:Int}(h1:0≤n)(h2:n≤10000):ZJ n=some (bs (dg n.toNat)):=by unfold ZJ;rw[za (by omega),za (by omega)];rfl
theorem qo9(p:ByteArray×Int)(y:ByteArray)(hg:(dc cS (d1 (cI .i64))).good p)(h:qgt p=some y):qkU p.1 p.2=some y:=by
 obtain⟨d,q⟩:=p;revert h;refine onB (P:=fun d=>qgt (d,q)=some y→qkU d q=some y) (fun l h=>?_) d
 obtain⟨h1,h2⟩:=qh h;have:=soi h2;subst this
 simp only[qD]at h1 ⊢;obtain⟨a1,a2,a3,a4⟩:=qgs.1 h1;clear hg h h1 h2;have w1:IntKind.i64.wrap (((l.length:Nat):Int)+q)=((l.length:Nat):Int)+q:=w64 (by omega) (by omega)
 have w2:IntKind.i64.wrap (0-(((l.length:Nat):Int)+q)) = -(((l.length:Nat):Int)+q):=by rw[w64 (by omega) (by omega)];omega
 have w3:IntKind.i64.wrap (((l.length:Nat):Int)+q-1)=((l.length:Nat):Int)+q-1:=w64 (by omega) (by omega)
 have w4:IntKind.i64.wrap (0-(((l.length:Nat):Int)+q-1)) = -(((l.length:Nat):Int)+q-1):=by rw[w64 (n:=0-(((l.length:Nat):Int)+q-1)) (by omega) (by omega)];omega
 unfold qkU qdX qdW qdV;simp only[qe,w1,w2,w3,w4,qQ,jY,qC];unfold qe5;by_cases c1:0≤q∧((l.length:Nat):Int)+q≤21
 · rw[zA c1]
   have r:=qul (n:=q) (by omega) (by omega)
   have zl:=qbB q.toNat;simp (disch:=omega) only[↓bdT,↓bdF,r,zh]
   simp (disch:=((try simp only[qe,zy,zl]);omega)) only[bdB,qC]
 · rw[zx c1]
   by_cases c2:q<0∧0<((l.length:Nat):Int)+q
   · rw[zA c2]
     simp (disch:=omega) only[↓bdT,↓bdF,↓bdA,↓zg]
     simp (disch:=(simp only[zy,zB,zP,zt,zU];omega)) only[bdB,qC,zd,Kh,KJ]
     rw[zF (l:=List.drop _ l) (by simp)]
   · rw[zx c2]
     by_cases c3:((l.length:Nat):Int)+q≤0∧-5≤((l.length:Nat):Int)+q
     · rw[zA c3]
       have r:=qul (n:=-(((l.length:Nat):Int)+q)) (by omega) (by omega)
       have zl:=qbB (-(((l.length:Nat):Int)+q)).toNat
       simp (disch:=omega) only[↓bdT,↓bdF,↓bdA,↓zg,r,zh]
       simp (disch:=((try simp only[qe,zy,zt,zU,zl]);omega)) only[bdB,qC]
     · rw[zx c3]
       have hT:∃T U:List UInt8,itT (((l.length:Nat):Int)+q-1)=T∧T.length≤1000002∧(((l.length:Nat):Int)+q-1<0→T=45::U∧ZJ (-(((l.length:Nat):Int)+q-1))=some (bs U))∧(0≤((l.length:Nat):Int)+q-1→T=U∧ZJ (((l.length:Nat):Int)+q-1)=some (bs U)):=by
        have il:=qcC (n:=((l.length:Nat):Int)+q-1) (by omega) (by omega)
        have z1 : -10000≤((l.length:Nat):Int)+q-1:=by omega
        have z2:((l.length:Nat):Int)+q-1≤10000:=by omega
        generalize ((l.length:Nat):Int)+q-1=z at *
        by_cases hz:z<0
        · refine⟨_,dg z.natAbs,rfl,il,fun _=>⟨by unfold itT;rw[bdT hz],?_⟩,fun h=>by omega⟩
          rw[rd_v (by omega) (by omega),show(-z).toNat=z.natAbs by omega]
        · refine⟨_,dg z.toNat,rfl,il,fun h=>by omega,fun _=>⟨by unfold itT;rw[bdF hz],?_⟩⟩
          rw[rd_v (by omega) (by omega)]
       obtain⟨T,U,e,hl,hn,hp⟩:=hT;rw[e];clear e;have hq:0≤q∧21<((l.length:Nat):Int)+q∨q<0∧((l.length:Nat):Int)+q < -5:=by omega
       by_cases c4:1<l.length
       · rw[zA c4]
         have ht:List.take (l.length-1) (l.drop 1)=l.drop 1:=zF (by simp)
         rcases hq with hq | hq
         · obtain⟨e,r⟩:=hp (by omega)
           subst e;simp (disch:=omega) only[↓bdT,↓bdF,↓bdA,↓zg]
           simp (disch:=((try simp only[qe,zy,zt,zU,zB,zP]at *);omega)) only[↓bdB,r,zh,qC,zd,Kh,KJ,ht]
           simp
         · obtain⟨e,r⟩:=hn (by omega)
           subst e;simp (disch:=omega) only[↓bdT,↓bdF,↓bdA,↓zg]
           simp (disch:=((try simp only[qe,zy,zt,zU,zB,zP]at *);omega)) only[↓bdB,r,zh,qC,zd,Kh,KJ,ht]
           simp
       · rw[zx c4]
         rcases hq with hq | hq
         · obtain⟨e,r⟩:=hp (by omega)
           subst e;simp (disch:=omega) only[↓bdT,↓bdF,↓bdA,↓zg]
           simp (disch:=((try simp only[qe,zy,zt,zU,zB,zP]at *);omega)) only[↓bdB,r,zh,qC,zd,Kh,KJ]
           simp
         · obtain⟨e,r⟩:=hn (by omega)
           subst e;simp (disch:=omega) only[↓bdT,↓bdF,↓bdA,↓zg]
           simp (disch:=((try simp only[qe,zy,zt,zU,zB,zP]at *);omega)) only[↓bdB,r,zh,qC,zd,Kh,KJ]
           simp
def sgL(f:Int):List UInt8:=bif decide (Int.fdiv f (2^63)=1)then[45]else[]
def qdY(f:Int):Option ByteArray :=
 bif decide (((y8 (bK f.toNat):Nat):Int)=4)then some (bs [110,97,110])else
 bif decide (((y8 (bK f.toNat):Nat):Int)=3)then some (bs (sgL f++[105,110,102]))else
 bif decide (((y8 (bK f.toNat):Nat):Int)=0)then some (bs (sgL f++[48,46,48]))else
 (Yh f).bind fun x=>(QG x).bind fun y=>some (bs (sgL f++lb y))
theorem qmh{d:List UInt8}{q:Int}(h:okF d q=true):(qe5 d q).length≤2000000:=by
 obtain⟨a1,a2,a3,a4⟩:=qgs.1 h;have il:=qcC (n:=((d.length:Nat):Int)+q-1) (by omega) (by omega)
 unfold qe5;split
 · simp only[zy,qbB,zt,zU];omega
 · split
   · simp only[zy,zB,zP,zt,zU];omega
   · split
     · simp only[zy,qbB,zt,zU];omega
     · split
       · simp only[zy,zB,zP,zt,zU];omega
       · simp only[zy,zB,zP,zt,zU];omega
theorem qmi{x:ByteArray×Int}{y:ByteArray}(h:QG x=some y):y.size≤2000000:=by
 obtain⟨h1,h2⟩:=qh h;have:=soi h2;subst this
 rw[qe];exact qmh h1
theorem qmj(f:Int)(y:ByteArray)(hg:(d1 (cI .u64)).good f)(h:qdY f=some y):qjk f=some y:=by
 rw[← h];unfold qjk qdY sgL;have key:∀(s:List UInt8) (n:Nat),n≤1→((Yh f).bind fun x0=>(QG x0).bind fun x1=>(bif(Nat.ble (n+(ByteArray.size x1)) 549755813888)then some ((ByteArray.mk (List.toArray s))++x1)else none))=(Yh f).bind fun x=>(QG x).bind fun y=>some (bs (s++lb y)):=fun s n hn=>by
  cases Yh f with
  | none=>rfl
  | some x=>
   rw[zh,zh];cases hx:QG x with
   | none=>rfl
   | some z=>
    have:=qmi hx
    rw[zh,zh,zr (by omega),zg,qQ,← qC,qb8]
 rw[key [45] 1 (by omega),key [] 0 (by omega)];cases decide (Int.fdiv f (2^63)=1)with
 | true=>simp only[zg,qQ,qC]
 | false=>simp only[zm,qQ,qC]
end
end Su
end
section
namespace Su
open Go Fly
noncomputable section
end
end Su
end
