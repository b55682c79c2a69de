/-
  What functions of the program compute, in plain Lean, and that the evaluator finds it.
-/
import Derived.Test.YtfckjjffdfkelaaGreatSuSd
import Derived.Test.YtfckjjffdfkelaaGreatRso
set_option maxRecDepth 10000
namespace Su
open Go Fly
set_option linter.unusedVariables false
noncomputable section
abbrev jC:=((List Tm)×((List Tm)×(Nat×(Int×((List T)×Unit)))))
def Qs :=
 fun (p5018:jC) x5019 =>
 (bif (true&&((true&&(decide ((1≤(((List.length p5018.2.1):Nat):Int)))))&&(decide (((((List.length p5018.2.1):Nat):Int)≤(((List.length p5018.2.1):Nat):Int)))))) then
 (bif ((true&&(Nat.beq p5018.2.2.1 (List.length p5018.2.2.2.2.1)))&&(Nat.ble ((List.length p5018.2.2.2.2.1)+(List.length [(T.agg [(T.s (.int .i64 (Tm.id x5019))),(T.s (.int .u64 0))])])) 549755813888)) then
 some (.inl (p5018.1,((List.take (Int.toNat ((((List.length p5018.2.1):Nat):Int)-1)) (List.drop 1 p5018.2.1)),((List.length (p5018.2.2.2.2.1++[(T.agg [(T.s (.int .i64 (Tm.id x5019))),(T.s (.int .u64 0))])])),(p5018.2.2.2.1,((p5018.2.2.2.2.1++[(T.agg [(T.s (.int .i64 (Tm.id x5019))),(T.s (.int .u64 0))])]),()))))))
 else
  none)
 else
  none:Option (jC ⊕ jC))
def Qt :=
 fun (p5014:jC) =>
 (bif (decide (((((List.length p5014.1):Nat):Int)=0))) then
 ((idx p5014.2.1 0)).bind fun x7 =>
 ((idx p5014.2.1 0)).bind fun x8 =>
 (Qs p5014 x7)
 else
  ((idx p5014.2.1 0)).bind fun x9 =>
  ((idx p5014.1 0)).bind fun x10 =>
  (bif (decide (((Tm.id x9)<(Tm.id x10)))) then
  ((idx p5014.2.1 0)).bind fun x11 =>
  ((idx p5014.2.1 0)).bind fun x12 =>
  (Qs p5014 x11)
 else
  ((idx p5014.1 0)).bind fun x13 =>
  ((idx p5014.1 0)).bind fun x14 =>
  ((idx p5014.2.1 0)).bind fun x15 =>
  (bif (true&&((true&&(decide ((1≤(((List.length p5014.1):Nat):Int)))))&&(decide (((((List.length p5014.1):Nat):Int)≤(((List.length p5014.1):Nat):Int)))))) then
  (bif (true&&((true&&(decide ((1≤(((List.length p5014.2.1):Nat):Int)))))&&(decide (((((List.length p5014.2.1):Nat):Int)≤(((List.length p5014.2.1):Nat):Int)))))) then
  (bif (!(decide (((Tm.c x14)=0)))) then
  (bif ((true&&(Nat.beq p5014.2.2.1 (List.length p5014.2.2.2.2.1)))&&(Nat.ble ((List.length p5014.2.2.2.2.1)+(List.length [(T.agg [(T.s (.int .i64 (Tm.id x13))),(T.s (.int .u64 0))])])) 549755813888)) then
  some (.inl ((List.take (Int.toNat ((((List.length p5014.1):Nat):Int)-1)) (List.drop 1 p5014.1)),((List.take (Int.toNat ((((List.length p5014.2.1):Nat):Int)-1)) (List.drop 1 p5014.2.1)),((List.length (p5014.2.2.2.2.1++[(T.agg [(T.s (.int .i64 (Tm.id x13))),(T.s (.int .u64 0))])])),((((upS 0 [p5014.2.2.2.1,(((Zj (Int.toNat (((jL (Int.toNat (Tm.c x14)) (Int.toNat (((jU (Int.toNat (Tm.c x15))):Nat):Int)) 1):Nat):Int)) (Int.toNat (((jL (Int.toNat (Tm.c x15)) (Int.toNat (((jU (Int.toNat (Tm.c x14))):Nat):Int)) 1):Nat):Int))):Nat):Int)]):Nat):Int),((p5014.2.2.2.2.1++[(T.agg [(T.s (.int .i64 (Tm.id x13))),(T.s (.int .u64 0))])]),()))))))
 else
  none)
 else
  (bif ((true&&(Nat.beq p5014.2.2.1 (List.length p5014.2.2.2.2.1)))&&(Nat.ble ((List.length p5014.2.2.2.2.1)+(List.length [(T.agg [(T.s (.int .i64 (Tm.id x13))),(T.s (.int .u64 0))])])) 549755813888)) then
  some (.inl ((List.take (Int.toNat ((((List.length p5014.1):Nat):Int)-1)) (List.drop 1 p5014.1)),((List.take (Int.toNat ((((List.length p5014.2.1):Nat):Int)-1)) (List.drop 1 p5014.2.1)),((List.length (p5014.2.2.2.2.1++[(T.agg [(T.s (.int .i64 (Tm.id x13))),(T.s (.int .u64 0))])])),(p5014.2.2.2.1,((p5014.2.2.2.2.1++[(T.agg [(T.s (.int .i64 (Tm.id x13))),(T.s (.int .u64 0))])]),()))))))
 else
  none))
 else
  none)
 else
  none)):Option (jC ⊕ jC))
def Qu :=
 fun (p5015:jC) x5016 x5017 =>
 (bif (true&&((true&&(decide ((1≤(((List.length p5015.1):Nat):Int)))))&&(decide (((((List.length p5015.1):Nat):Int)≤(((List.length p5015.1):Nat):Int)))))) then
 (bif (!(decide (((Tm.c x5016)=0)))) then
 (bif ((true&&(Nat.beq p5015.2.2.1 (List.length p5015.2.2.2.2.1)))&&(Nat.ble ((List.length p5015.2.2.2.2.1)+(List.length [(T.agg [(T.s (.int .i64 (Tm.id x5017))),(T.s (.int .u64 0))])])) 549755813888)) then
 some (.inl ((List.take (Int.toNat ((((List.length p5015.1):Nat):Int)-1)) (List.drop 1 p5015.1)),(p5015.2.1,((List.length (p5015.2.2.2.2.1++[(T.agg [(T.s (.int .i64 (Tm.id x5017))),(T.s (.int .u64 0))])])),((((upS 0 [p5015.2.2.2.1,(((Zj (Int.toNat (((jL (Int.toNat (Tm.c x5016)) (Int.toNat ((9223372036854775808:Nat):Int)) 1):Nat):Int)) (Int.toNat (((jL (Int.toNat 0) (Int.toNat (((jU (Int.toNat (Tm.c x5016))):Nat):Int)) 1):Nat):Int))):Nat):Int)]):Nat):Int),((p5015.2.2.2.2.1++[(T.agg [(T.s (.int .i64 (Tm.id x5017))),(T.s (.int .u64 0))])]),()))))))
 else
  none)
 else
  (bif ((true&&(Nat.beq p5015.2.2.1 (List.length p5015.2.2.2.2.1)))&&(Nat.ble ((List.length p5015.2.2.2.2.1)+(List.length [(T.agg [(T.s (.int .i64 (Tm.id x5017))),(T.s (.int .u64 0))])])) 549755813888)) then
  some (.inl ((List.take (Int.toNat ((((List.length p5015.1):Nat):Int)-1)) (List.drop 1 p5015.1)),(p5015.2.1,((List.length (p5015.2.2.2.2.1++[(T.agg [(T.s (.int .i64 (Tm.id x5017))),(T.s (.int .u64 0))])])),(p5015.2.2.2.1,((p5015.2.2.2.2.1++[(T.agg [(T.s (.int .i64 (Tm.id x5017))),(T.s (.int .u64 0))])]),()))))))
 else
  none))
 else
  none:Option (jC ⊕ jC))
def Qv :=
 fun (p5020:jC) =>
 bif (decide (((((List.length p5020.2.1):Nat):Int)=0))) then
 ((idx p5020.1 0)).bind fun x1 =>
 ((idx p5020.1 0)).bind fun x2 =>
 (Qu p5020 x2 x1)
 else
  (bif (decide ((0<(((List.length p5020.1):Nat):Int)))) then
  ((idx p5020.1 0)).bind fun x3 =>
  ((idx p5020.2.1 0)).bind fun x4 =>
  (bif (decide (((Tm.id x3)<(Tm.id x4)))) then
  ((idx p5020.1 0)).bind fun x5 =>
  ((idx p5020.1 0)).bind fun x6 =>
  (Qu p5020 x6 x5)
 else
  (Qt p5020))
 else
  (Qt p5020))
def Qn:jC→Option (jC ⊕ jC):=fun p0=>(bif (decide ((0<(((List.length p0.1):Nat):Int)))) then
 (Qv p0)
 else
  (bif (decide ((0<(((List.length p0.2.1):Nat):Int)))) then
  (Qv p0)
 else
  some (.inr (p0.1,(p0.2.1,(p0.2.2.1,(p0.2.2.2.1,(p0.2.2.2.2.1,()))))))))
def qzj  (fu:Nat) (a:Fm) (j:Fm):Option Int :=
 (itP fu (Qn) (a.2.2.1,(j.2.2.1,(0,((((Zj (Int.toNat (((jL (Int.toNat a.2.1) (Int.toNat (((jU (Int.toNat j.2.1)):Nat):Int)) 1):Nat):Int)) (Int.toNat (((jL (Int.toNat j.2.1) (Int.toNat (((jU (Int.toNat a.2.1)):Nat):Int)) 1):Nat):Int))):Nat):Int),([],())))))).bind fun x49 =>
 some (((upS 0 [x49.2.2.2.1,a.2.2.2]):Nat):Int)
set_option linter.unusedSimpArgs false
abbrev MiS:=(List Tm)×((List Tm)×(Nat×(Int×((List T)×Unit))))
def qlO (l m:List Tm) (e:Int) (A:List Tm):MiS:=(l,(m,(A.length,(e,(A.map vT,())))))
theorem qDO (l m:List Tm) (e:Int) (h:l.length+m.length≤549755813888):∃ fu,itP fu Qn (qlO l m e [])=some (qlO [] [] (qh YM (l.length+m.length) l m e).2 ([]++(qh YM (l.length+m.length) l m e).1)):=by
 have hb:∀ A:List Tm,A.length+1≤549755813888→Nat.ble (A.length+1) 549755813888=true:=fun A h=>Nat.ble_eq_true_of_le h
 refine qBr (mk:=qlO) (B:=549755813888) ?_ ?_ ?_ ?_ ?_ ?_ (l.length+m.length) l m e [] (Nat.le_refl _) (by simpa using h)
 · intro e A
   rfl
 · intro x l e A hA
   show Qn (x::l,([],(A.length,(e,(A.map vT,())))))=_
   have hb:=hb A hA
   cases hx:decide (x.c=0) <;> simp only [Qn,Qv,Qu,Qt,Qs,qlO,YM,List.length_cons,List.length_nil,yG,hz0,hnz,hp0,JQ,hle,QX,yD,hx,hb,List.length_map,qy,Bool.and_true,Bool.true_and,Bool.not_true,Bool.not_false,cond_true,cond_false,Option.bind_some,JR,JS] <;> rfl
 · intro y m e A hA
   show Qn ([],(y::m,(A.length,(e,(A.map vT,())))))=_
   have hb:=hb A hA
   simp only [Qn,Qv,Qu,Qt,Qs,qlO,YM,List.length_cons,List.length_nil,yG,hz0,hnz,hp0,JQ,hle,QX,yD,hb,List.length_map,qy,Bool.and_true,Bool.true_and,cond_true,cond_false,Option.bind_some,JR,JS];rfl
 · intro x l y m e A hA h1
   show Qn (x::l,(y::m,(A.length,(e,(A.map vT,())))))=_
   have hb:=hb A hA
   cases hx:decide (x.c=0) <;> simp only [Qn,Qv,Qu,Qt,Qs,qlO,YM,List.length_cons,List.length_nil,yG,hz0,hnz,hp0,JQ,hle,QX,yD,h1,hx,hb,List.length_map,qy,Bool.and_true,Bool.true_and,Bool.not_true,Bool.not_false,cond_true,cond_false,Option.bind_some,JR,JS] <;> rfl
 · intro x l y m e A hA h1 h2
   show Qn (x::l,(y::m,(A.length,(e,(A.map vT,())))))=_
   have hb:=hb A hA
   simp only [Qn,Qv,Qu,Qt,Qs,qlO,YM,List.length_cons,List.length_nil,yG,hz0,hnz,hp0,JQ,hle,QX,yD,h1,h2,hb,List.length_map,qy,Bool.and_true,Bool.true_and,cond_true,cond_false,Option.bind_some,JR,JS];rfl
 · intro x l y m e A hA h1 h2
   show Qn (x::l,(y::m,(A.length,(e,(A.map vT,())))))=_
   have hb:=hb A hA
   cases hx:decide (x.c=0) <;> simp only [Qn,Qv,Qu,Qt,Qs,qlO,YM,List.length_cons,List.length_nil,yG,hz0,hnz,hp0,JQ,hle,QX,yD,h1,h2,hx,hb,List.length_map,qy,Bool.and_true,Bool.true_and,Bool.not_true,Bool.not_false,cond_true,cond_false,Option.bind_some,JR,JS] <;> rfl
def quT (p:Fm×Fm):Option Int:=bif Nat.ble (p.1.2.2.1.length+p.2.2.2.1.length) 549755813888 then some (qgj p.1 p.2.2.2.1 p.2.2.1) else none
theorem qzk (p:Fm×Fm) (y:Int) (hg:(dc qu (d1 qu)).good p) (h:quT p=some y):∃ n,qzj n p.1 p.2=some y:=by
 obtain ⟨a,j⟩:=p
 obtain ⟨h1,h2⟩:=qj h
 have:=soi h2;subst this
 obtain ⟨n,hn⟩:=qDO a.2.2.1 j.2.2.1 (awI a.2.1 j.2.1) (Nat.le_of_ble_eq_true h1)
 refine ⟨n,?_⟩
 show qzj n a j=_
 unfold qzj
 exact obs hn rfl
end
end Su
