/-
  What functions of the program compute, in plain Lean, and that the evaluator finds it.
-/
import Derived.Test.YtldhknmacepeiaaGreatDoorSuXl
import Derived.Test.YtldhknmacepeiaaGreatDoorNT10
set_option linter.unusedVariables false
set_option linter.unusedSimpArgs false
set_option maxRecDepth 10000
section
namespace Su
open Go Fly
noncomputable section
def rForm_c1(d:ByteArray)(q:Int) :=
 bif(true&&(decide (1≤(ByteArray.size d:Int))))then
 (bif(decide (1<(ByteArray.size d:Int)))then
 (bif(Nat.ble ((ByteArray.size (ByteArray.extract d 0 1))+1) 549755813888)then
 (bif((true&&(decide (1≤(ByteArray.size d:Int))))&&(decide ((ByteArray.size d:Int)≤(ByteArray.size d:Int))))then
 (bif(Nat.ble ((ByteArray.size ((ByteArray.extract d 0 1)++(ByteArray.mk (List.toArray [46]))))+(ByteArray.size (ByteArray.extract d 1 (Int.toNat (ByteArray.size d:Int))))) 549755813888)then
 (bif(decide ((IntKind.wrap .i64 ((IntKind.wrap .i64 ((ByteArray.size d:Int)+q))-1))<0))then
 (bif(Nat.ble ((ByteArray.size (((ByteArray.extract d 0 1)++(ByteArray.mk (List.toArray [46])))++(ByteArray.extract d 1 (Int.toNat (ByteArray.size d:Int)))))+2) 549755813888)then
 (tRd_s (IntKind.wrap .i64 (0-(IntKind.wrap .i64 ((IntKind.wrap .i64 ((ByteArray.size d:Int)+q))-1))))).bind fun x2=>
 (bif(Nat.ble ((ByteArray.size ((((ByteArray.extract d 0 1)++(ByteArray.mk (List.toArray [46])))++(ByteArray.extract d 1 (Int.toNat (ByteArray.size d:Int))))++(ByteArray.mk (List.toArray [101,45]))))+(ByteArray.size x2)) 549755813888)then
 some (((((ByteArray.extract d 0 1)++(ByteArray.mk (List.toArray [46])))++(ByteArray.extract d 1 (Int.toNat (ByteArray.size d:Int))))++(ByteArray.mk (List.toArray [101,45])))++x2)
 else none)
 else none)
 else
  (bif(Nat.ble ((ByteArray.size (((ByteArray.extract d 0 1)++(ByteArray.mk (List.toArray [46])))++(ByteArray.extract d 1 (Int.toNat (ByteArray.size d:Int)))))+1) 549755813888)then
  (tRd_s (IntKind.wrap .i64 ((IntKind.wrap .i64 ((ByteArray.size d:Int)+q))-1))).bind fun x3=>
  (bif(Nat.ble ((ByteArray.size ((((ByteArray.extract d 0 1)++(ByteArray.mk (List.toArray [46])))++(ByteArray.extract d 1 (Int.toNat (ByteArray.size d:Int))))++(ByteArray.mk (List.toArray [101]))))+(ByteArray.size x3)) 549755813888)then
  some (((((ByteArray.extract d 0 1)++(ByteArray.mk (List.toArray [46])))++(ByteArray.extract d 1 (Int.toNat (ByteArray.size d:Int))))++(ByteArray.mk (List.toArray [101])))++x3)
 else none)
 else none))
 else none)
 else none)
 else none)
 else
  (bif(decide ((IntKind.wrap .i64 ((IntKind.wrap .i64 ((ByteArray.size d:Int)+q))-1))<0))then
  (bif(Nat.ble ((ByteArray.size (ByteArray.extract d 0 1))+2) 549755813888)then
  (tRd_s (IntKind.wrap .i64 (0-(IntKind.wrap .i64 ((IntKind.wrap .i64 ((ByteArray.size d:Int)+q))-1))))).bind fun x4=>
  (bif(Nat.ble ((ByteArray.size ((ByteArray.extract d 0 1)++(ByteArray.mk (List.toArray [101,45]))))+(ByteArray.size x4)) 549755813888)then
  some (((ByteArray.extract d 0 1)++(ByteArray.mk (List.toArray [101,45])))++x4)
 else none)
 else none)
 else
  (bif(Nat.ble ((ByteArray.size (ByteArray.extract d 0 1))+1) 549755813888)then
  (tRd_s (IntKind.wrap .i64 ((IntKind.wrap .i64 ((ByteArray.size d:Int)+q))-1))).bind fun x5=>
  (bif(Nat.ble ((ByteArray.size ((ByteArray.extract d 0 1)++(ByteArray.mk (List.toArray [101]))))+(ByteArray.size x5)) 549755813888)then
  some (((ByteArray.extract d 0 1)++(ByteArray.mk (List.toArray [101])))++x5)
 else none)
 else none)))
 else
  none
def rForm_c3(d:ByteArray)(q:Int) :=
 bif(decide ((IntKind.wrap .i64 ((ByteArray.size d:Int)+q))≤0))then
 (bif(decide ((-5)≤(IntKind.wrap .i64 ((ByteArray.size d:Int)+q))))then
 (tNou_s (IntKind.wrap .i64 (0-(IntKind.wrap .i64 ((ByteArray.size d:Int)+q))))).bind fun x1=>
 (bif(Nat.ble (2+(ByteArray.size x1)) 549755813888)then
 (bif(Nat.ble ((ByteArray.size ((ByteArray.mk (List.toArray [48,46]))++x1))+(ByteArray.size d)) 549755813888)then
 some (((ByteArray.mk (List.toArray [48,46]))++x1)++d)
 else none)
 else none)
 else
  (rForm_c1 d q))
 else
  (rForm_c1 d q)
def rForm_c2(d:ByteArray)(q:Int) :=
 bif(decide (q<0))then
 (bif(decide (0<(IntKind.wrap .i64 ((ByteArray.size d:Int)+q))))then
 (bif((true&&(decide (0≤(IntKind.wrap .i64 ((ByteArray.size d:Int)+q)))))&&(decide ((IntKind.wrap .i64 ((ByteArray.size d:Int)+q))≤(ByteArray.size d:Int))))then
 (bif(Nat.ble ((ByteArray.size (ByteArray.extract d 0 (Int.toNat (IntKind.wrap .i64 ((ByteArray.size d:Int)+q)))))+1) 549755813888)then
 (bif(((decide (0≤(IntKind.wrap .i64 ((ByteArray.size d:Int)+q))))&&(decide ((IntKind.wrap .i64 ((ByteArray.size d:Int)+q))≤(ByteArray.size d:Int))))&&(decide ((ByteArray.size d:Int)≤(ByteArray.size d:Int))))then
 (bif(Nat.ble ((ByteArray.size ((ByteArray.extract d 0 (Int.toNat (IntKind.wrap .i64 ((ByteArray.size d:Int)+q))))++(ByteArray.mk (List.toArray [46]))))+(ByteArray.size (ByteArray.extract d (Int.toNat (IntKind.wrap .i64 ((ByteArray.size d:Int)+q))) (Int.toNat (ByteArray.size d:Int))))) 549755813888)then
 some (((ByteArray.extract d 0 (Int.toNat (IntKind.wrap .i64 ((ByteArray.size d:Int)+q))))++(ByteArray.mk (List.toArray [46])))++(ByteArray.extract d (Int.toNat (IntKind.wrap .i64 ((ByteArray.size d:Int)+q))) (Int.toNat (ByteArray.size d:Int))))
 else none)
 else none)
 else none)
 else none)
 else
  (rForm_c3 d q))
 else
  (rForm_c3 d q)
def rForm  (d:ByteArray)(q:Int):Option ByteArray :=
 (bif(decide (0≤q))then
 (bif(decide ((IntKind.wrap .i64 ((ByteArray.size d:Int)+q))≤21))then
 (tNou_s q).bind fun x0=>
 (bif(Nat.ble ((ByteArray.size d)+(ByteArray.size x0)) 549755813888)then
 (bif(Nat.ble ((ByteArray.size (d++x0))+2) 549755813888)then
 some ((d++x0)++(ByteArray.mk (List.toArray [46,48])))
 else none)
 else none)
 else
  (rForm_c2 d q))
 else
  (rForm_c2 d q))
def dPrint  (f:Int):Option ByteArray :=
 (bif(decide ((Int.fdiv f (2^63))=1))then
 (bif(decide ((((clsK (bK f.toNat)):Nat):Int)=4))then
 some (ByteArray.mk (List.toArray [110,97,110]))
 else
  (bif(decide ((((clsK (bK f.toNat)):Nat):Int)=3))then
  some ((ByteArray.mk (List.toArray [45]))++(ByteArray.mk (List.toArray [105,110,102])))
 else
  (bif(decide ((((clsK (bK f.toNat)):Nat):Int)=0))then
  some ((ByteArray.mk (List.toArray [45]))++(ByteArray.mk (List.toArray [48,46,48])))
 else
  (dDig_s f).bind fun x0=>
  (dForm_s x0).bind fun x1=>
  (bif(Nat.ble (1+(ByteArray.size x1)) 549755813888)then
  some ((ByteArray.mk (List.toArray [45]))++x1)
 else none))))
 else
  (bif(decide ((((clsK (bK f.toNat)):Nat):Int)=4))then
  some (ByteArray.mk (List.toArray [110,97,110]))
 else
  (bif(decide ((((clsK (bK f.toNat)):Nat):Int)=3))then
  some ((ByteArray.mk (List.toArray []))++(ByteArray.mk (List.toArray [105,110,102])))
 else
  (bif(decide ((((clsK (bK f.toNat)):Nat):Int)=0))then
  some ((ByteArray.mk (List.toArray []))++(ByteArray.mk (List.toArray [48,46,48])))
 else
  (dDig_s f).bind fun x2=>
  (dForm_s x2).bind fun x3=>
  (bif(Nat.ble (0+(ByteArray.size x3)) 549755813888)then
  some ((ByteArray.mk (List.toArray []))++x3)
 else none)))))
def rForm_s(p:ByteArray×Int):Option ByteArray:=bif okF (lb p.1) p.2 then some (bs (formL (lb p.1) p.2))else none
theorem nou_v{n:Int}(h1:0≤n)(h2:n≤10000):tNou_s n=some (bs (zs n.toNat)):=by unfold tNou_s;rw[qc (by omega),qc (by omega)];rfl
theorem rd_v{n:Int}(h1:0≤n)(h2:n≤10000):tRd_s n=some (bs (dg n.toNat)):=by unfold tRd_s;rw[qc (by omega),qc (by omega)];rfl
theorem rForm_ok(p:ByteArray×Int)(y:ByteArray)(hg:(dc cS (d1 (cI .i64))).good p)(h:rForm_s p=some y):rForm p.1 p.2=some y:=by
 obtain⟨d,q⟩:=p;revert h;refine onB (P:=fun d=>rForm_s (d,q)=some y→rForm d q=some y) (fun l h=>?_) d
 obtain⟨h1,h2⟩:=bif_some h;have:=soi h2;subst this
 simp only[lb_bs]at h1 ⊢;obtain⟨a1,a2,a3,a4⟩:=okF_iff.1 h1;clear hg h h1 h2;have w1:IntKind.i64.wrap (((l.length:Nat):Int)+q)=((l.length:Nat):Int)+q:=w64 (by omega) (by omega)
 have w2:IntKind.i64.wrap (0-(((l.length:Nat):Int)+q)) = -(((l.length:Nat):Int)+q):=by rw[w64 (by omega) (by omega)];omega
 have w3:IntKind.i64.wrap (((l.length:Nat):Int)+q-1)=((l.length:Nat):Int)+q-1:=w64 (by omega) (by omega)
 have w4:IntKind.i64.wrap (0-(((l.length:Nat):Int)+q-1)) = -(((l.length:Nat):Int)+q-1):=by rw[w64 (n:=0-(((l.length:Nat):Int)+q-1)) (by omega) (by omega)];omega
 unfold rForm rForm_c2 rForm_c3 rForm_c1;simp only[bs_size,w1,w2,w3,w4,mk_bs,bs_ext,bs_app];unfold formL;by_cases c1:0≤q∧((l.length:Nat):Int)+q≤21
 · rw[qU c1]
   have r:=nou_v (n:=q) (by omega) (by omega)
   have zl:=zs_len q.toNat;simp (disch:=omega) only[↓bdT,↓bdF,r,qe]
   simp (disch:=((try simp only[bs_size,qx,zl]);omega)) only[bdB,bs_app]
 · rw[qK c1]
   by_cases c2:q<0∧0<((l.length:Nat):Int)+q
   · rw[qU c2]
     simp (disch:=omega) only[↓bdT,↓bdF,↓bdA,↓qd]
     simp (disch:=(simp only[qx,qI,jc,qy,qY];omega)) only[bdB,bs_app,qf,jA,jT]
     rw[qB (l:=List.drop _ l) (by simp)]
   · rw[qK c2]
     by_cases c3:((l.length:Nat):Int)+q≤0∧-5≤((l.length:Nat):Int)+q
     · rw[qU c3]
       have r:=nou_v (n:=-(((l.length:Nat):Int)+q)) (by omega) (by omega)
       have zl:=zs_len (-(((l.length:Nat):Int)+q)).toNat
       simp (disch:=omega) only[↓bdT,↓bdF,↓bdA,↓qd,r,qe]
       simp (disch:=((try simp only[bs_size,qx,qy,qY,zl]);omega)) only[bdB,bs_app]
     · rw[qK c3]
       have hT:∃T U:List UInt8,itT (((l.length:Nat):Int)+q-1)=T∧T.length≤1000002∧(((l.length:Nat):Int)+q-1<0→T=45::U∧tRd_s (-(((l.length:Nat):Int)+q-1))=some (bs U))∧(0≤((l.length:Nat):Int)+q-1→T=U∧tRd_s (((l.length:Nat):Int)+q-1)=some (bs U)):=by
        have il:=itT_len (n:=((l.length:Nat):Int)+q-1) (by omega) (by omega)
        have z1 : -10000≤((l.length:Nat):Int)+q-1:=by omega
        have z2:((l.length:Nat):Int)+q-1≤10000:=by omega
        generalize ((l.length:Nat):Int)+q-1=z at *
        by_cases hz:z<0
        · refine⟨_,dg z.natAbs,rfl,il,fun _=>⟨by unfold itT;rw[bdT hz],?_⟩,fun h=>by omega⟩
          rw[rd_v (by omega) (by omega),show(-z).toNat=z.natAbs by omega]
        · refine⟨_,dg z.toNat,rfl,il,fun h=>by omega,fun _=>⟨by unfold itT;rw[bdF hz],?_⟩⟩
          rw[rd_v (by omega) (by omega)]
       obtain⟨T,U,e,hl,hn,hp⟩:=hT;rw[e];clear e;have hq:0≤q∧21<((l.length:Nat):Int)+q∨q<0∧((l.length:Nat):Int)+q < -5:=by omega
       by_cases c4:1<l.length
       · rw[qU c4]
         have ht:List.take (l.length-1) (l.drop 1)=l.drop 1:=qB (by simp)
         rcases hq with hq | hq
         · obtain⟨e,r⟩:=hp (by omega)
           subst e;simp (disch:=omega) only[↓bdT,↓bdF,↓bdA,↓qd]
           simp (disch:=((try simp only[bs_size,qx,qy,qY,qI,jc]at *);omega)) only[↓bdB,r,qe,bs_app,qf,jA,jT,ht]
           simp
         · obtain⟨e,r⟩:=hn (by omega)
           subst e;simp (disch:=omega) only[↓bdT,↓bdF,↓bdA,↓qd]
           simp (disch:=((try simp only[bs_size,qx,qy,qY,qI,jc]at *);omega)) only[↓bdB,r,qe,bs_app,qf,jA,jT,ht]
           simp
       · rw[qK c4]
         rcases hq with hq | hq
         · obtain⟨e,r⟩:=hp (by omega)
           subst e;simp (disch:=omega) only[↓bdT,↓bdF,↓bdA,↓qd]
           simp (disch:=((try simp only[bs_size,qx,qy,qY,qI,jc]at *);omega)) only[↓bdB,r,qe,bs_app,qf,jA,jT]
           simp
         · obtain⟨e,r⟩:=hn (by omega)
           subst e;simp (disch:=omega) only[↓bdT,↓bdF,↓bdA,↓qd]
           simp (disch:=((try simp only[bs_size,qx,qy,qY,qI,jc]at *);omega)) only[↓bdB,r,qe,bs_app,qf,jA,jT]
           simp
def sgL(f:Int):List UInt8:=bif decide (Int.fdiv f (2^63)=1)then[45]else[]
def dPrint_s(f:Int):Option ByteArray :=
 bif decide (((clsK (bK f.toNat):Nat):Int)=4)then some (bs [110,97,110])else
 bif decide (((clsK (bK f.toNat):Nat):Int)=3)then some (bs (sgL f++[105,110,102]))else
 bif decide (((clsK (bK f.toNat):Nat):Int)=0)then some (bs (sgL f++[48,46,48]))else
 (dDig_s f).bind fun x=>(dForm_s x).bind fun y=>some (bs (sgL f++lb y))
theorem formL_len{d:List UInt8}{q:Int}(h:okF d q=true):(formL d q).length≤2000000:=by
 obtain⟨a1,a2,a3,a4⟩:=okF_iff.1 h;have il:=itT_len (n:=((d.length:Nat):Int)+q-1) (by omega) (by omega)
 unfold formL;split
 · simp only[qx,zs_len,qy,qY];omega
 · split
   · simp only[qx,qI,jc,qy,qY];omega
   · split
     · simp only[qx,zs_len,qy,qY];omega
     · split
       · simp only[qx,qI,jc,qy,qY];omega
       · simp only[qx,qI,jc,qy,qY];omega
theorem dForm_len{x:ByteArray×Int}{y:ByteArray}(h:dForm_s x=some y):y.size≤2000000:=by
 obtain⟨h1,h2⟩:=bif_some h;have:=soi h2;subst this
 rw[bs_size];exact formL_len h1
theorem dPrint_ok(f:Int)(y:ByteArray)(hg:(d1 (cI .u64)).good f)(h:dPrint_s f=some y):dPrint f=some y:=by
 rw[← h];unfold dPrint dPrint_s sgL;have key:∀(s:List UInt8) (n:Nat),n≤1→((dDig_s f).bind fun x0=>(dForm_s x0).bind fun x1=>(bif(Nat.ble (n+(ByteArray.size x1)) 549755813888)then some ((ByteArray.mk (List.toArray s))++x1)else none))=(dDig_s f).bind fun x=>(dForm_s x).bind fun y=>some (bs (s++lb y)):=fun s n hn=>by
  cases dDig_s f with
  | none=>rfl
  | some x=>
   rw[qe,qe];cases hx:dForm_s x with
   | none=>rfl
   | some z=>
    have:=dForm_len hx
    rw[qe,qe,qq (by omega),qd,mk_bs,← bs_app,bs_lb]
 rw[key [45] 1 (by omega),key [] 0 (by omega)];cases decide (Int.fdiv f (2^63)=1)with
 | true=>simp only[qd,mk_bs,bs_app]
 | false=>simp only[qh,mk_bs,bs_app]
end
end Su
end
section
namespace Su
open Go Fly
noncomputable section
end
end Su
end
section
namespace Su
open Go Fly
noncomputable section
def lPri  (f:Int):Option Bool :=
 (dPrint_s f).bind fun x0=>
 (dDig_s f).bind fun x1=>
 (bif(decide ((Int.fdiv f (2^63))=1))then
 (bif(!(decide ((((clsK (bK f.toNat)):Nat):Int)=2)))then
 (bif(!(decide ((((clsK (bK f.toNat)):Nat):Int)=1)))then
 (bif(!(decide (x1.1=(ByteArray.mk (List.toArray [])))))then
 some false
 else
  (bif(!(decide (x1.2=0)))then
  some false
 else
  (bif(decide ((((clsK (bK f.toNat)):Nat):Int)=4))then
  some (decide (x0=(ByteArray.mk (List.toArray [110,97,110]))))
 else
  (bif(decide ((((clsK (bK f.toNat)):Nat):Int)=3))then
  some (decide (x0=((ByteArray.mk (List.toArray [45]))++(ByteArray.mk (List.toArray [105,110,102])))))
 else
  (bif(decide ((((clsK (bK f.toNat)):Nat):Int)=0))then
  some (decide (x0=((ByteArray.mk (List.toArray [45]))++(ByteArray.mk (List.toArray [48,46,48])))))
 else
  (bif(decide (0<(ByteArray.size x1.1:Int)))then
  (rForm_s x1).bind fun x2=>
  (bif(Nat.ble (1+(ByteArray.size x2)) 549755813888)then
  some (decide (x0=((ByteArray.mk (List.toArray [45]))++x2)))
 else none)
 else
  some false))))))
 else
  (bif(decide ((((clsK (bK f.toNat)):Nat):Int)=4))then
  some (decide (x0=(ByteArray.mk (List.toArray [110,97,110]))))
 else
  (bif(decide ((((clsK (bK f.toNat)):Nat):Int)=3))then
  some (decide (x0=((ByteArray.mk (List.toArray [45]))++(ByteArray.mk (List.toArray [105,110,102])))))
 else
  (bif(decide ((((clsK (bK f.toNat)):Nat):Int)=0))then
  some (decide (x0=((ByteArray.mk (List.toArray [45]))++(ByteArray.mk (List.toArray [48,46,48])))))
 else
  (bif(decide (0<(ByteArray.size x1.1:Int)))then
  (rForm_s x1).bind fun x3=>
  (bif(Nat.ble (1+(ByteArray.size x3)) 549755813888)then
  some (decide (x0=((ByteArray.mk (List.toArray [45]))++x3)))
 else none)
 else
  some false)))))
 else
  (bif(decide ((((clsK (bK f.toNat)):Nat):Int)=4))then
  some (decide (x0=(ByteArray.mk (List.toArray [110,97,110]))))
 else
  (bif(decide ((((clsK (bK f.toNat)):Nat):Int)=3))then
  some (decide (x0=((ByteArray.mk (List.toArray [45]))++(ByteArray.mk (List.toArray [105,110,102])))))
 else
  (bif(decide ((((clsK (bK f.toNat)):Nat):Int)=0))then
  some (decide (x0=((ByteArray.mk (List.toArray [45]))++(ByteArray.mk (List.toArray [48,46,48])))))
 else
  (bif(decide (0<(ByteArray.size x1.1:Int)))then
  (rForm_s x1).bind fun x4=>
  (bif(Nat.ble (1+(ByteArray.size x4)) 549755813888)then
  some (decide (x0=((ByteArray.mk (List.toArray [45]))++x4)))
 else none)
 else
  some false)))))
 else
  (bif(!(decide ((((clsK (bK f.toNat)):Nat):Int)=2)))then
  (bif(!(decide ((((clsK (bK f.toNat)):Nat):Int)=1)))then
  (bif(!(decide (x1.1=(ByteArray.mk (List.toArray [])))))then
  some false
 else
  (bif(!(decide (x1.2=0)))then
  some false
 else
  (bif(decide ((((clsK (bK f.toNat)):Nat):Int)=4))then
  some (decide (x0=(ByteArray.mk (List.toArray [110,97,110]))))
 else
  (bif(decide ((((clsK (bK f.toNat)):Nat):Int)=3))then
  some (decide (x0=((ByteArray.mk (List.toArray []))++(ByteArray.mk (List.toArray [105,110,102])))))
 else
  (bif(decide ((((clsK (bK f.toNat)):Nat):Int)=0))then
  some (decide (x0=((ByteArray.mk (List.toArray []))++(ByteArray.mk (List.toArray [48,46,48])))))
 else
  (bif(decide (0<(ByteArray.size x1.1:Int)))then
  (rForm_s x1).bind fun x5=>
  (bif(Nat.ble (0+(ByteArray.size x5)) 549755813888)then
  some (decide (x0=((ByteArray.mk (List.toArray []))++x5)))
 else none)
 else
  some false))))))
 else
  (bif(decide ((((clsK (bK f.toNat)):Nat):Int)=4))then
  some (decide (x0=(ByteArray.mk (List.toArray [110,97,110]))))
 else
  (bif(decide ((((clsK (bK f.toNat)):Nat):Int)=3))then
  some (decide (x0=((ByteArray.mk (List.toArray []))++(ByteArray.mk (List.toArray [105,110,102])))))
 else
  (bif(decide ((((clsK (bK f.toNat)):Nat):Int)=0))then
  some (decide (x0=((ByteArray.mk (List.toArray []))++(ByteArray.mk (List.toArray [48,46,48])))))
 else
  (bif(decide (0<(ByteArray.size x1.1:Int)))then
  (rForm_s x1).bind fun x6=>
  (bif(Nat.ble (0+(ByteArray.size x6)) 549755813888)then
  some (decide (x0=((ByteArray.mk (List.toArray []))++x6)))
 else none)
 else
  some false)))))
 else
  (bif(decide ((((clsK (bK f.toNat)):Nat):Int)=4))then
  some (decide (x0=(ByteArray.mk (List.toArray [110,97,110]))))
 else
  (bif(decide ((((clsK (bK f.toNat)):Nat):Int)=3))then
  some (decide (x0=((ByteArray.mk (List.toArray []))++(ByteArray.mk (List.toArray [105,110,102])))))
 else
  (bif(decide ((((clsK (bK f.toNat)):Nat):Int)=0))then
  some (decide (x0=((ByteArray.mk (List.toArray []))++(ByteArray.mk (List.toArray [48,46,48])))))
 else
  (bif(decide (0<(ByteArray.size x1.1:Int)))then
  (rForm_s x1).bind fun x7=>
  (bif(Nat.ble (0+(ByteArray.size x7)) 549755813888)then
  some (decide (x0=((ByteArray.mk (List.toArray []))++x7)))
 else none)
 else
  some false))))))
theorem dg_pos{n:Nat}:0<n→∃c r,dg n=c::r∧c≠48:=by
 induction n using Nat.strongRecOn with
 | ind n ih=>
  intro hn;by_cases h:n<10
  · refine⟨UInt8.ofNat (48+n),[],dg_lt h,fun e=>?_⟩
    have:=dig_nat h
    rw[e]at this;have e48:(48:UInt8).toNat=48:=rfl
    omega
  · obtain⟨c,r,e,hc⟩:=ih (n / 10) (by omega) (by omega)
    exact⟨c,r++[UInt8.ofNat (48+n % 10)],by rw[dg_ge (by omega),e];rfl,hc⟩
theorem trimR_hd{c x:UInt8}{l:List UInt8}(h:x≠c):trimR c (x::l)=x::trimR c l:=by
 rw[trimR_cons];have hb:(x == c)=false:=by simpa using h
 rw[hb];by_cases h0:trimR c l=[]
 · rw[qU h0,h0];rfl
 · rw[qK h0]
theorem ans_ok{k n:Nat}{q:Int}(h:IsD k n q):okF (lb (ansD n q).1) (ansD n q).2=true∧0<(ansD n q).1.size:=by
 obtain⟨h0,h1,h2,h3,_⟩:=h;have hl:=dg_len18 h1;have ht:=trimR_len 48 (dg n)
 obtain⟨c,r,e,hc⟩:=dg_pos (n:=n) (by omega)
 have hp:0<(trimR 48 (dg n)).length:=by rw[e,trimR_hd hc];simp
 unfold ansD;refine⟨okF_iff.2 ?_,by rw[bs_size];exact hp⟩
 simp only[lb_bs];omega
def lPri_s(_:Int):Option Bool:=some true
theorem lPri_ok(f:Int)(y:Bool)(hg:(d1 (cI .u64)).good f)(h:lPri_s f=some y):lPri f=some y:=by
 have:=soi h;subst this
 obtain⟨x,hx,hP⟩:=dDig_val (f:=f) hg
 unfold lPri;rw[hx];rcases hP with⟨c2,c1,rfl⟩ | ⟨hc,n,q,hD,rfl⟩
 · have d2:decide (((clsK (bK f.toNat):Nat):Int)=2)=false:=qm (by omega)
   have d1:decide (((clsK (bK f.toNat):Nat):Int)=1)=false:=qm (by omega)
   have e:(!decide (bs []=bs []))=false:=by rw[qc rfl];rfl
   have e2:(!decide ((0:Int)=0))=false:=rfl
   have hc:clsK (bK f.toNat)=4∨clsK (bK f.toNat)=3∨clsK (bK f.toNat)=0:=by
    have:=clsK_val (bK f.toNat)
    revert this c2 c1
    (repeat' split) <;> omega
   have hb:∀b:Bool,decide (Int.fdiv f (2^63)=1)=b→sgL f=bif b then[45]else[]:=fun b hb=>by unfold sgL;rw[hb]
   rcases hc with hc | hc | hc
   · unfold dPrint_s
     simp only[hc,mk_bs,d2,d1,e,e2,qe];cases decide (Int.fdiv f (2^63)=1) <;> rfl
   · unfold dPrint_s sgL
     simp only[hc,mk_bs,d2,d1,e,e2];cases decide (Int.fdiv f (2^63)=1) <;> (simp[bs_app])
   · unfold dPrint_s sgL
     simp only[hc,mk_bs,d2,d1,e,e2];cases decide (Int.fdiv f (2^63)=1) <;> (simp[bs_app])
 · obtain⟨hok,hsz⟩:=ans_ok hD
   generalize ansD n q=x at *
   obtain⟨L,hL⟩:∃L,L=formL (lb x.1) x.2:=⟨_,rfl⟩
   have f1:dForm_s x=some (bs L):=by unfold dForm_s;rw[hok,hL];rfl
   have f2:rForm_s x=some (bs L):=by unfold rForm_s;rw[hok,hL];rfl
   have hl:=dForm_len f1;have n4 : ¬((clsK (bK f.toNat):Nat):Int)=4:=by omega
   have n3 : ¬((clsK (bK f.toNat):Nat):Int)=3:=by omega
   have n0 : ¬((clsK (bK f.toNat):Nat):Int)=0:=by omega
   have pr:dPrint_s f=some (bs (sgL f++L)):=by
    unfold dPrint_s;rw[qm n4,qm n3,qm n0,hx];simp only[qh,qe,f1,lb_bs]
   have b1:Nat.ble (1+(bs L).size) 549755813888=true:=qq (by omega)
   have b0:Nat.ble (0+(bs L).size) 549755813888=true:=qq (by omega)
   have ps:decide ((0:Int)<((x.1.size:Nat):Int))=true:=qc (by omega)
   rw[pr];unfold sgL;simp only[qe,qm n4,qm n3,qm n0,f2,b1,b0,ps,mk_bs];rcases hc with hc | hc
   · simp only[hc]
     cases decide (Int.fdiv f (2^63)=1) <;> (simp[bs_app])
   · simp only[hc]
     cases decide (Int.fdiv f (2^63)=1) <;> (simp[bs_app])
end
end Su
end
