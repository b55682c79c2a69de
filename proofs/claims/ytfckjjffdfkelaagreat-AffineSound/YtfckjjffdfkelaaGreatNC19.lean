/-
  What functions of the program compute, in plain Lean, and that the evaluator finds it.
-/
import Derived.Test.YtfckjjffdfkelaaGreatSuSd
import Derived.Test.YtfckjjffdfkelaaGreatNC14
set_option maxRecDepth 10000
section
namespace Su
open Go Fly
set_option linter.unusedVariables false
noncomputable section
abbrev aSum_l1_S:=((List Su.Tm)×((List Su.Tm)×(Nat×(Int×((List Su.T)×Unit)))))
def aSum_l1_c3 :=
 fun (p5006:aSum_l1_S) x5007 x5008 =>
 (bif (true&&((true&&(decide ((1≤(((List.length p5006.2.1):Nat):Int)))))&&(decide (((((List.length p5006.2.1):Nat):Int)≤(((List.length p5006.2.1):Nat):Int)))))) then
 (bif ((true&&(Nat.beq p5006.2.2.1 (List.length p5006.2.2.2.2.1)))&&(Nat.ble ((List.length p5006.2.2.2.2.1)+(List.length [(T.agg [(T.s (.int .i64 (Su.Tm.id x5007))),(T.s (.int .u64 (Su.Tm.c x5008)))])])) 549755813888)) then
 some (.inl (p5006.1,((List.take (Int.toNat ((((List.length p5006.2.1):Nat):Int)-1)) (List.drop 1 p5006.2.1)),((List.length (p5006.2.2.2.2.1++[(T.agg [(T.s (.int .i64 (Su.Tm.id x5007))),(T.s (.int .u64 (Su.Tm.c x5008)))])])),(p5006.2.2.2.1,((p5006.2.2.2.2.1++[(T.agg [(T.s (.int .i64 (Su.Tm.id x5007))),(T.s (.int .u64 (Su.Tm.c x5008)))])]),()))))))
 else
  none)
 else
  none:Option (aSum_l1_S ⊕ aSum_l1_S))
def aSum_l1_c4 :=
 fun (p5009:aSum_l1_S) x5010 x5011 =>
 (bif ((true&&(Nat.beq p5009.2.2.1 (List.length p5009.2.2.2.2.1)))&&(Nat.ble ((List.length p5009.2.2.2.2.1)+(List.length [(T.agg [(T.s (.int .i64 (Su.Tm.id x5010))),(T.s (.int .u64 (Su.Tm.c x5011)))])])) 549755813888)) then
 some (.inl ((List.take (Int.toNat ((((List.length p5009.1):Nat):Int)-1)) (List.drop 1 p5009.1)),((List.take (Int.toNat ((((List.length p5009.2.1):Nat):Int)-1)) (List.drop 1 p5009.2.1)),((List.length (p5009.2.2.2.2.1++[(T.agg [(T.s (.int .i64 (Su.Tm.id x5010))),(T.s (.int .u64 (Su.Tm.c x5011)))])])),(p5009.2.2.2.1,((p5009.2.2.2.2.1++[(T.agg [(T.s (.int .i64 (Su.Tm.id x5010))),(T.s (.int .u64 (Su.Tm.c x5011)))])]),()))))))
 else
  none:Option (aSum_l1_S ⊕ aSum_l1_S))
def aSum_l1_c1 :=
 fun (p5002:aSum_l1_S) =>
 (bif (decide (((((List.length p5002.1):Nat):Int)=0))) then
 ((Su.idx p5002.2.1 0)).bind fun x8 =>
 ((Su.idx p5002.2.1 0)).bind fun x9 =>
 (aSum_l1_c3 p5002 x8 x9)
 else
  ((Su.idx p5002.2.1 0)).bind fun x10 =>
  ((Su.idx p5002.1 0)).bind fun x11 =>
  (bif (decide (((Su.Tm.id x10)<(Su.Tm.id x11)))) then
  ((Su.idx p5002.2.1 0)).bind fun x12 =>
  ((Su.idx p5002.2.1 0)).bind fun x13 =>
  (aSum_l1_c3 p5002 x12 x13)
 else
  ((Su.idx p5002.1 0)).bind fun x14 =>
  ((Su.idx p5002.1 0)).bind fun x15 =>
  ((Su.idx p5002.2.1 0)).bind fun x16 =>
  (bif (true&&((true&&(decide ((1≤(((List.length p5002.1):Nat):Int)))))&&(decide (((((List.length p5002.1):Nat):Int)≤(((List.length p5002.1):Nat):Int)))))) then
  (bif (true&&((true&&(decide ((1≤(((List.length p5002.2.1):Nat):Int)))))&&(decide (((((List.length p5002.2.1):Nat):Int)≤(((List.length p5002.2.1):Nat):Int)))))) then
  (bif (decide (((Su.Tm.c x15)=0))) then
  (aSum_l1_c4 p5002 x14 x16)
 else
  (bif (decide (((Su.Tm.c x16)=0))) then
  (aSum_l1_c4 p5002 x14 x15)
 else
  (bif ((true&&(Nat.beq p5002.2.2.1 (List.length p5002.2.2.2.2.1)))&&(Nat.ble ((List.length p5002.2.2.2.2.1)+(List.length [(T.agg [(T.s (.int .i64 (Su.Tm.id x14))),(T.s (.int .u64 (((Su.addN (Int.toNat (Su.Tm.c x15)) (Int.toNat (Su.Tm.c x16)) 0):Nat):Int)))])])) 549755813888)) then
  some (.inl ((List.take (Int.toNat ((((List.length p5002.1):Nat):Int)-1)) (List.drop 1 p5002.1)),((List.take (Int.toNat ((((List.length p5002.2.1):Nat):Int)-1)) (List.drop 1 p5002.2.1)),((List.length (p5002.2.2.2.2.1++[(T.agg [(T.s (.int .i64 (Su.Tm.id x14))),(T.s (.int .u64 (((Su.addN (Int.toNat (Su.Tm.c x15)) (Int.toNat (Su.Tm.c x16)) 0):Nat):Int)))])])),((((Su.upS 0 [p5002.2.2.2.1,(((Su.addN (Int.toNat (((Su.addN (Int.toNat (Su.Tm.c x15)) (Int.toNat (Su.Tm.c x16)) 1):Nat):Int)) (Int.toNat (((Su.negF (Int.toNat (((Su.addN (Int.toNat (Su.Tm.c x15)) (Int.toNat (Su.Tm.c x16)) 2):Nat):Int))):Nat):Int)) 1):Nat):Int)]):Nat):Int),((p5002.2.2.2.2.1++[(T.agg [(T.s (.int .i64 (Su.Tm.id x14))),(T.s (.int .u64 (((Su.addN (Int.toNat (Su.Tm.c x15)) (Int.toNat (Su.Tm.c x16)) 0):Nat):Int)))])]),()))))))
 else
  none)))
 else
  none)
 else
  none)):Option (aSum_l1_S ⊕ aSum_l1_S))
def aSum_l1_c2 :=
 fun (p5003:aSum_l1_S) x5004 x5005 =>
 (bif (true&&((true&&(decide ((1≤(((List.length p5003.1):Nat):Int)))))&&(decide (((((List.length p5003.1):Nat):Int)≤(((List.length p5003.1):Nat):Int)))))) then
 (bif (decide (((Su.Tm.c x5004)=0))) then
 (bif ((true&&(Nat.beq p5003.2.2.1 (List.length p5003.2.2.2.2.1)))&&(Nat.ble ((List.length p5003.2.2.2.2.1)+(List.length [(T.agg [(T.s (.int .i64 (Su.Tm.id x5005))),(T.s (.int .u64 0))])])) 549755813888)) then
 some (.inl ((List.take (Int.toNat ((((List.length p5003.1):Nat):Int)-1)) (List.drop 1 p5003.1)),(p5003.2.1,((List.length (p5003.2.2.2.2.1++[(T.agg [(T.s (.int .i64 (Su.Tm.id x5005))),(T.s (.int .u64 0))])])),(p5003.2.2.2.1,((p5003.2.2.2.2.1++[(T.agg [(T.s (.int .i64 (Su.Tm.id x5005))),(T.s (.int .u64 0))])]),()))))))
 else
  none)
 else
  (bif ((true&&(Nat.beq p5003.2.2.1 (List.length p5003.2.2.2.2.1)))&&(Nat.ble ((List.length p5003.2.2.2.2.1)+(List.length [(T.agg [(T.s (.int .i64 (Su.Tm.id x5005))),(T.s (.int .u64 (Su.Tm.c x5004)))])])) 549755813888)) then
  some (.inl ((List.take (Int.toNat ((((List.length p5003.1):Nat):Int)-1)) (List.drop 1 p5003.1)),(p5003.2.1,((List.length (p5003.2.2.2.2.1++[(T.agg [(T.s (.int .i64 (Su.Tm.id x5005))),(T.s (.int .u64 (Su.Tm.c x5004)))])])),(p5003.2.2.2.1,((p5003.2.2.2.2.1++[(T.agg [(T.s (.int .i64 (Su.Tm.id x5005))),(T.s (.int .u64 (Su.Tm.c x5004)))])]),()))))))
 else
  none))
 else
  none:Option (aSum_l1_S ⊕ aSum_l1_S))
def aSum_l1_c5 :=
 fun (p5012:aSum_l1_S) =>
 bif (decide (((((List.length p5012.2.1):Nat):Int)=0))) then
 ((Su.idx p5012.1 0)).bind fun x2 =>
 ((Su.idx p5012.1 0)).bind fun x3 =>
 (aSum_l1_c2 p5012 x3 x2)
 else
  (bif (decide ((0<(((List.length p5012.1):Nat):Int)))) then
  ((Su.idx p5012.1 0)).bind fun x4 =>
  ((Su.idx p5012.2.1 0)).bind fun x5 =>
  (bif (decide (((Su.Tm.id x4)<(Su.Tm.id x5)))) then
  ((Su.idx p5012.1 0)).bind fun x6 =>
  ((Su.idx p5012.1 0)).bind fun x7 =>
  (aSum_l1_c2 p5012 x7 x6)
 else
  (aSum_l1_c1 p5012))
 else
  (aSum_l1_c1 p5012))
def aSum_l1:aSum_l1_S→Option (aSum_l1_S ⊕ aSum_l1_S):=fun p1=>(bif (decide ((0<(((List.length p1.1):Nat):Int)))) then
 (aSum_l1_c5 p1)
 else
  (bif (decide ((0<(((List.length p1.2.1):Nat):Int)))) then
  (aSum_l1_c5 p1)
 else
  some (.inr (p1.1,(p1.2.1,(p1.2.2.1,(p1.2.2.2.1,(p1.2.2.2.2.1,()))))))))
def aSum  (fu:Nat) (a:(Bool×(Int×((List Su.Tm)×Int)))) (b:(Bool×(Int×((List Su.Tm)×Int)))):Option (Bool×(Int×((List Su.Tm)×Int))) :=
 (bif (List.any [(a.1,(a.2.1,(a.2.2.1,a.2.2.2))),(b.1,(b.2.1,(b.2.2.1,b.2.2.2)))] (fun z0=>(z0.1||(!(Su.mayF z0))))) then
 some (true,((0:Int),([],(0:Int))))
 else
  (itP fu (aSum_l1) (a.2.2.1,(b.2.2.1,(0,((((Su.upS 0 [a.2.2.2,b.2.2.2,(((Su.addN (Int.toNat (((Su.addN (Int.toNat a.2.1) (Int.toNat b.2.1) 1):Nat):Int)) (Int.toNat (((Su.negF (Int.toNat (((Su.addN (Int.toNat a.2.1) (Int.toNat b.2.1) 2):Nat):Int))):Nat):Int)) 1):Nat):Int)]):Nat):Int),([],())))))).bind fun x50 =>
  (bif (true&&(Nat.beq x50.2.2.1 (List.length x50.2.2.2.2.1))) then
  ((((((Su.unTms x50.2.2.2.2.1)).bind fun x51 =>
  some (x51,x50.2.2.2.1)).bind fun x52 =>
  some ((((Su.addN (Int.toNat a.2.1) (Int.toNat b.2.1) 0):Nat):Int),x52)).bind fun x53 =>
  some (false,x53)).bind fun x54 =>
  some (Su.doneF x54)).bind fun x55 =>
  some (x55.1,(x55.2.1,(x55.2.2.1,x55.2.2.2)))
 else
  none))
set_option linter.unusedSimpArgs false
def slkA (x y:Int):Int:=addI (addI x y 1) (negI (addI x y 2)) 1
def slkM (x y:Int):Int:=addI (mulI x y 1) (negI (mulI x y 2)) 1
def stepM (id:Int) (r:Int×Int) (g:Int→List Tm×Int):List Tm×Int:=(⟨id,r.1⟩::(g r.2).1,(g r.2).2)
def mergeN (f:Int→Int→Int→Int×Int):Nat→List Tm→List Tm→Int→List Tm×Int
 | 0,_,_,e=>([],e)
 | _+1,[],[],e=>([],e)
 | n+1,a::l,[],e=>stepM a.id (f e a.c 0) (mergeN f n l [])
 | n+1,[],b::m,e=>stepM b.id (f e 0 b.c) (mergeN f n [] m)
 | n+1,a::l,b::m,e=>bif decide (a.id<b.id) then stepM a.id (f e a.c 0) (mergeN f n l (b::m)) else bif decide (b.id<a.id) then stepM b.id (f e 0 b.c) (mergeN f n (a::l) m) else stepM a.id (f e a.c b.c) (mergeN f n l m)
def sumD (e x y:Int):Int×Int:=bif decide (x=0) then (y,e) else bif decide (y=0) then (x,e) else (addI x y 0,upI [e,slkA x y])
def addO' (a b:Fm):Fm:=bif okF a&&okF b then (let r:=mergeN sumD (a.2.2.1.length+b.2.2.1.length) a.2.2.1 b.2.2.1 (upI [a.2.2.2,b.2.2.2,slkA a.2.1 b.2.1]);doneF (false,(addI a.2.1 b.2.1 0,(r.1,r.2)))) else badF
def addFmL:{f:Fm→Fm→Fm // ∀ a b,f a b=addO' a b}:=Classical.choice ⟨⟨_,fun _ _=>rfl⟩⟩
def addFm (a b:Fm):Fm:=addFmL.1 a b
theorem addFm_eq (a b:Fm):addFm a b=addO' a b:=addFmL.2 a b
theorem hpos (n:Nat):decide (0<((n+1:Nat):Int))=true:=decide_eq_true (by omega)
theorem hz0:decide (((0:Nat):Int)=0)=true:=rfl
theorem hnz (n:Nat):decide (((n+1:Nat):Int)=0)=false:=decide_eq_false (by omega)
theorem hp0:decide (0<((0:Nat):Int))=false:=rfl
theorem hge1 (n:Nat):decide (1≤((n+1:Nat):Int))=true:=decide_eq_true (by omega)
theorem hle (n:Int):decide (n≤n)=true:=decide_eq_true (by omega)
theorem idx0 {α:Type} (x:α) (l:List α):idx (x::l) 0=some x:=rfl
theorem takeL {α:Type} (x:α) (l:List α):List.take (Int.toNat (((l.length+1:Nat):Int)-1)) (List.drop 1 (x::l))=l:=by
 rw [show Int.toNat (((l.length+1:Nat):Int)-1)=l.length by omega]
 exact List.take_length
theorem mapS (A:List Tm) (i c:Int):A.map vT++[T.agg [T.s (.int .i64 i),T.s (.int .u64 c)]]=(A++[(⟨i,c⟩:Tm)]).map vT:=by simp;rfl
theorem lenS (A:List Tm) (t:Tm):((A++[t]).map vT).length=(A++[t]).length:=by simp
theorem sum_loop:∀ (n:Nat) (l m:List Tm) (e:Int) (A:List Tm),l.length+m.length≤n→A.length+n≤549755813888 →
 ∃ fu,itP fu aSum_l1 (l,(m,(A.length,(e,(A.map vT,())))))=some ([],([],((A++(mergeN sumD n l m e).1).length,((mergeN sumD n l m e).2,((A++(mergeN sumD n l m e).1).map vT,())))))
 | 0,l,m,e,A,h,hA=>by
  have h1:l=[]:=List.length_eq_zero_iff.1 (by omega)
  have h2:m=[]:=List.length_eq_zero_iff.1 (by omega)
  subst h1 h2
  refine ⟨1,?_⟩
  rw [itP_s]
  simp only [aSum_l1,aSum_l1_c5,aSum_l1_c2,aSum_l1_c1,aSum_l1_c4,aSum_l1_c3,List.length_nil,hp0,cond_false,Option.bind_some,mergeN,List.append_nil]
 | n+1,l,m,e,A,h,hA=>by
  have hb:Nat.ble (A.length+1) 549755813888=true:=Nat.ble_eq_true_of_le (by omega)
  have go:∀ (l' m':List Tm) (e' id c:Int),l'.length+m'.length≤n →
   aSum_l1 (l,(m,(A.length,(e,(A.map vT,())))))=some (.inl (l',(m',((A++[(⟨id,c⟩:Tm)]).length,(e',((A++[(⟨id,c⟩:Tm)]).map vT,())))))) →
   mergeN sumD (n+1) l m e=stepM id (c,e') (mergeN sumD n l' m') →
   ∃ fu,itP fu aSum_l1 (l,(m,(A.length,(e,(A.map vT,())))))=some ([],([],((A++(mergeN sumD (n+1) l m e).1).length,((mergeN sumD (n+1) l m e).2,((A++(mergeN sumD (n+1) l m e).1).map vT,()))))):=by
   intro l' m' e' id c hl' hstep hm
   obtain ⟨fu,q⟩:=sum_loop n l' m' e' (A++[⟨id,c⟩]) hl' (by simp;omega)
   refine ⟨fu+1,?_⟩
   rw [itP_s,hstep,hm]
   simp only [Option.bind_some,stepM]
   rw [q]
   simp only [List.append_assoc,List.singleton_append]
  match l,m,h with
  | [],[],h =>
   refine ⟨1,?_⟩
   rw [itP_s]
   simp only [aSum_l1,aSum_l1_c5,aSum_l1_c2,aSum_l1_c1,aSum_l1_c4,aSum_l1_c3,List.length_nil,hp0,cond_false,Option.bind_some,mergeN,List.append_nil]
  | x::l,[],h =>
   simp only [List.length_cons,List.length_nil] at h
   cases hx:decide (x.c=0) with
   | true =>
    have hx':=of_decide_eq_true hx
    refine go l [] e x.id 0 (by simp;omega) ?_ ?_
    · simp only [aSum_l1,aSum_l1_c5,aSum_l1_c2,aSum_l1_c1,aSum_l1_c4,aSum_l1_c3,List.length_cons,List.length_nil,hpos,hz0,hnz,hp0,hge1,hle,idx0,takeL,hx,hb,List.length_map,beq_self,Bool.and_true,Bool.true_and,cond_true,cond_false,Option.bind_some,mapS,lenS]
    · simp only [mergeN,sumD,hx,cond_true]
   | false =>
    refine go l [] e x.id x.c (by simp;omega) ?_ ?_
    · simp only [aSum_l1,aSum_l1_c5,aSum_l1_c2,aSum_l1_c1,aSum_l1_c4,aSum_l1_c3,List.length_cons,List.length_nil,hpos,hz0,hnz,hp0,hge1,hle,idx0,takeL,hx,hb,List.length_map,beq_self,Bool.and_true,Bool.true_and,cond_true,cond_false,Option.bind_some,mapS,lenS]
    · simp only [mergeN,sumD,hx,cond_false];rfl
  | [],y::m,h =>
   simp only [List.length_cons,List.length_nil] at h
   refine go [] m e y.id y.c (by simp;omega) ?_ ?_
   · simp only [aSum_l1,aSum_l1_c5,aSum_l1_c2,aSum_l1_c1,aSum_l1_c4,aSum_l1_c3,List.length_cons,List.length_nil,hpos,hz0,hnz,hp0,hge1,hle,idx0,takeL,hb,List.length_map,beq_self,Bool.and_true,Bool.true_and,cond_true,cond_false,Option.bind_some,mapS,lenS]
   · simp only [mergeN,sumD];rfl
  | x::l,y::m,h =>
   simp only [List.length_cons] at h
   cases h1:decide (x.id<y.id) with
   | true =>
    cases hx:decide (x.c=0) with
    | true =>
     refine go l (y::m) e x.id 0 (by simp;omega) ?_ ?_
     · simp only [aSum_l1,aSum_l1_c5,aSum_l1_c2,aSum_l1_c1,aSum_l1_c4,aSum_l1_c3,List.length_cons,List.length_nil,hpos,hz0,hnz,hp0,hge1,hle,idx0,takeL,h1,hx,hb,List.length_map,beq_self,Bool.and_true,Bool.true_and,cond_true,cond_false,Option.bind_some,mapS,lenS]
     · simp only [mergeN,h1,sumD,hx,cond_true]
    | false =>
     refine go l (y::m) e x.id x.c (by simp;omega) ?_ ?_
     · simp only [aSum_l1,aSum_l1_c5,aSum_l1_c2,aSum_l1_c1,aSum_l1_c4,aSum_l1_c3,List.length_cons,List.length_nil,hpos,hz0,hnz,hp0,hge1,hle,idx0,takeL,h1,hx,hb,List.length_map,beq_self,Bool.and_true,Bool.true_and,cond_true,cond_false,Option.bind_some,mapS,lenS]
     · simp only [mergeN,h1,sumD,hx,cond_true,cond_false];rfl
   | false =>
    cases h2:decide (y.id<x.id) with
    | true =>
     refine go (x::l) m e y.id y.c (by simp;omega) ?_ ?_
     · simp only [aSum_l1,aSum_l1_c5,aSum_l1_c2,aSum_l1_c1,aSum_l1_c4,aSum_l1_c3,List.length_cons,List.length_nil,hpos,hz0,hnz,hp0,hge1,hle,idx0,takeL,h1,h2,hb,List.length_map,beq_self,Bool.and_true,Bool.true_and,cond_true,cond_false,Option.bind_some,mapS,lenS]
     · simp only [mergeN,h1,h2,sumD,cond_true,cond_false];rfl
    | false =>
     cases hx:decide (x.c=0) with
     | true =>
      refine go l m e x.id y.c (by omega) ?_ ?_
      · simp only [aSum_l1,aSum_l1_c5,aSum_l1_c2,aSum_l1_c1,aSum_l1_c4,aSum_l1_c3,List.length_cons,List.length_nil,hpos,hz0,hnz,hp0,hge1,hle,idx0,takeL,h1,h2,hx,hb,List.length_map,beq_self,Bool.and_true,Bool.true_and,cond_true,cond_false,Option.bind_some,mapS,lenS]
      · simp only [mergeN,h1,h2,sumD,hx,cond_true,cond_false]
     | false =>
      cases hy:decide (y.c=0) with
      | true =>
       refine go l m e x.id x.c (by omega) ?_ ?_
       · simp only [aSum_l1,aSum_l1_c5,aSum_l1_c2,aSum_l1_c1,aSum_l1_c4,aSum_l1_c3,List.length_cons,List.length_nil,hpos,hz0,hnz,hp0,hge1,hle,idx0,takeL,h1,h2,hx,hy,hb,List.length_map,beq_self,Bool.and_true,Bool.true_and,cond_true,cond_false,Option.bind_some,mapS,lenS]
       · simp only [mergeN,h1,h2,sumD,hx,hy,cond_true,cond_false]
      | false =>
       refine go l m (upI [e,slkA x.c y.c]) x.id (addI x.c y.c 0) (by omega) ?_ ?_
       · simp only [aSum_l1,aSum_l1_c5,aSum_l1_c2,aSum_l1_c1,aSum_l1_c4,aSum_l1_c3,List.length_cons,List.length_nil,hpos,hz0,hnz,hp0,hge1,hle,idx0,takeL,h1,h2,hx,hy,hb,List.length_map,beq_self,Bool.and_true,Bool.true_and,cond_true,cond_false,Option.bind_some,mapS,lenS]
         rfl
       · simp only [mergeN,h1,h2,sumD,hx,hy,cond_true,cond_false]
def aSum_s (p:Fm×Fm):Option Fm:=bif Nat.ble (p.1.2.2.1.length+p.2.2.2.1.length) 549755813888 then some (addFm p.1 p.2) else none
theorem aSum_ok (p:Fm×Fm) (y:Fm) (hg:(dc cFrm (d1 cFrm)).good p) (h:aSum_s p=some y):∃ n,aSum n p.1 p.2=some y:=by
 obtain ⟨⟨b1,m1,l1,e1⟩,b2,m2,l2,e2⟩:=p
 obtain ⟨h1,h2⟩:=bif_some h
 have:=soi h2;subst this
 have hl:l1.length+l2.length≤549755813888:=Nat.le_of_ble_eq_true h1
 have ha:List.any [((b1,(m1,(l1,e1))):Fm),(b2,(m2,(l2,e2)))] (fun z0=>(z0.1||(!(Su.mayF z0)))) = !(okF (b1,(m1,(l1,e1)))&&okF (b2,(m2,(l2,e2)))):=by simp [okF]
 obtain ⟨n,q⟩:=sum_loop _ l1 l2 (upI [e1,e2,slkA m1 m2]) [] (Nat.le_refl _) (by simpa using hl)
 refine ⟨n,?_⟩
 rw [addFm_eq]
 unfold aSum addO'
 simp only []
 rw [ha]
 cases (okF (b1,(m1,(l1,e1)))&&okF (b2,(m2,(l2,e2)))) with
 | false=>rfl
 | true =>
  rw [Bool.not_true,cond_false,cond_true]
  refine obs q ?_
  simp only [List.nil_append,List.length_map,beq_self,Bool.and_true,cond_true]
  exact obs (obs (obs (obs (obs (unTms_map _) rfl) rfl) rfl) rfl) rfl
end
end Su
end
section
namespace Su
open Go Fly
set_option linter.unusedVariables false
noncomputable section
def aSub  (a:(Bool×(Int×((List Su.Tm)×Int)))) (b:(Bool×(Int×((List Su.Tm)×Int)))):Option (Bool×(Int×((List Su.Tm)×Int))) :=
 ((Su.aNeg_s (b.1,(b.2.1,(b.2.2.1,b.2.2.2))))).bind fun x0 =>
 ((Su.aSum_s ((a.1,(a.2.1,(a.2.2.1,a.2.2.2))),(x0.1,(x0.2.1,(x0.2.2.1,x0.2.2.2)))))).bind fun x1 =>
 some (x1.1,(x1.2.1,(x1.2.2.1,x1.2.2.2)))
def subFm (a b:Fm):Fm:=addFm a (negFm b)
def aSub_s (p:Fm×Fm):Option Fm:=bif lenOK p.2.2.2.1&&Nat.ble (p.1.2.2.1.length+(negFm p.2).2.2.1.length) 549755813888 then some (subFm p.1 p.2) else none
theorem aSub_ok (p:Fm×Fm) (y:Fm) (hg:(dc cFrm (d1 cFrm)).good p) (h:aSub_s p=some y):aSub p.1 p.2=some y:=by
 obtain ⟨⟨b1,m1,l1,e1⟩,b2,m2,l2,e2⟩:=p
 obtain ⟨h1,h2⟩:=bif_some h
 have:=soi h2;subst this
 simp only [Bool.and_eq_true] at h1
 have h3:lenOK l2=true:=h1.1
 have h4:Nat.ble (l1.length+(negFm (b2,(m2,(l2,e2)))).2.2.1.length) 549755813888=true:=h1.2
 unfold aSub aNeg_s aSum_s
 simp only [h3,cond_true,Option.bind_some,h4]
 rfl
end
end Su
end
section
namespace Su
open Go Fly
set_option linter.unusedVariables false
noncomputable section
def spAt  (a:Int) (b:Int):Option Bool :=
 (bif (Su.cmpO (Int.toNat a) (Int.toNat b)) then
 some (decide (((Su.cmpC (Int.toNat a) (Int.toNat b))≤0)))
 else
  some false)
def leF (a b:Int):Bool:=cmpO a.toNat b.toNat&&decide (cmpC a.toNat b.toNat≤0)
def spAt_s (p:Int×Int):Option Bool:=some (leF p.1 p.2)
theorem spAt_ok (p:Int×Int) (y:Bool) (hg:(dc (cI .u64) (d1 (cI .u64))).good p) (h:spAt_s p=some y):spAt p.1 p.2=some y:=by
 have:=soi h;subst this
 unfold spAt leF
 cases cmpO p.1.toNat p.2.toNat <;> rfl
end
end Su
end
section
namespace Su
open Go Fly
set_option linter.unusedVariables false
noncomputable section
abbrev spNorm_l1_S:=(Nat×(Int×(Int×(Bool×(Int×(Int×(Bool×(Int×(Int×Unit)))))))))
def spNorm_l1:spNorm_l1_S→Option (spNorm_l1_S ⊕ spNorm_l1_S):=fun p0=>(bif (decide ((p0.2.2.1<p0.2.1))) then
 (bif (true&&(true&&((decide ((0≤p0.2.2.1)))&&(decide ((p0.2.2.1<((p0.1:Nat):Int))))))) then
 (bif (Nat.beq (Int.toNat p0.2.2.1) 0) then
 (bif (decide (((((Su.clsK (Su.bK (Int.toNat p0.2.2.2.2.1))):Nat):Int)=0))) then
 some (.inl (p0.1,(p0.2.1,((Go.IntKind.wrap .i64 (p0.2.2.1+1)),(p0.2.2.2.1,((0:Int),(p0.2.2.2.2.2.1,(p0.2.2.2.2.2.2.1,(p0.2.2.2.2.2.2.2.1,(p0.2.2.2.2.2.2.2.2.1,()))))))))))
 else
  some (.inl (p0.1,(p0.2.1,((Go.IntKind.wrap .i64 (p0.2.2.1+1)),(p0.2.2.2.1,(p0.2.2.2.2.1,(p0.2.2.2.2.2.1,(p0.2.2.2.2.2.2.1,(p0.2.2.2.2.2.2.2.1,(p0.2.2.2.2.2.2.2.2.1,())))))))))))
 else
  (bif (Nat.beq ((Int.toNat p0.2.2.1)-1) 0) then
  (bif (decide (((((Su.clsK (Su.bK (Int.toNat p0.2.2.2.2.2.1))):Nat):Int)=0))) then
  some (.inl (p0.1,(p0.2.1,((Go.IntKind.wrap .i64 (p0.2.2.1+1)),(p0.2.2.2.1,(p0.2.2.2.2.1,((0:Int),(p0.2.2.2.2.2.2.1,(p0.2.2.2.2.2.2.2.1,(p0.2.2.2.2.2.2.2.2.1,()))))))))))
 else
  some (.inl (p0.1,(p0.2.1,((Go.IntKind.wrap .i64 (p0.2.2.1+1)),(p0.2.2.2.1,(p0.2.2.2.2.1,(p0.2.2.2.2.2.1,(p0.2.2.2.2.2.2.1,(p0.2.2.2.2.2.2.2.1,(p0.2.2.2.2.2.2.2.2.1,())))))))))))
 else
  none))
 else
  none)
 else
  some (.inr (p0.1,(p0.2.1,(p0.2.2.1,(p0.2.2.2.1,(p0.2.2.2.2.1,(p0.2.2.2.2.2.1,(p0.2.2.2.2.2.2.1,(p0.2.2.2.2.2.2.2.1,(p0.2.2.2.2.2.2.2.2.1,())))))))))))
def spNorm  (fu:Nat) (s:(Bool×(Int×Int))):Option (Bool×(Int×Int)) :=
 (bif s.1 then
 some (true,((0:Int),(0:Int)))
 else
  (bif (!(Su.leF s.2.1 s.2.2)) then
  some (true,((0:Int),(0:Int)))
 else
  (bif (decide ((s.2.1=((9218868437227405312:Nat):Int)))) then
  some (true,((0:Int),(0:Int)))
 else
  (bif (decide ((s.2.2=((18442240474082181120:Nat):Int)))) then
  some (true,((0:Int),(0:Int)))
 else
  (itP fu (spNorm_l1) (2,((2:Int),((0:Int),(s.1,(s.2.1,(s.2.2,(false,((0:Int),((0:Int),())))))))))).bind fun x1 =>
  some (x1.2.2.2.1,(x1.2.2.2.2.1,x1.2.2.2.2.2.1))))))
abbrev Spn:=Bool×(Int×Int)
def noneS:Spn:=(true,(0,0))
def normS (s:Spn):Spn:=bif s.1||(!leF s.2.1 s.2.2||(decide (s.2.1=9218868437227405312)||decide (s.2.2=18442240474082181120))) then noneS else (s.1,(nzI s.2.1,nzI s.2.2))
def spNorm_s (s:Spn):Option Spn:=some (normS s)
theorem spNorm_ok (s y:Spn) (hg:(d1 cSpn).good s) (h:spNorm_s s=some y):∃ n,spNorm n s=some y:=by
 obtain ⟨e,lo,hi⟩:=s
 have:=soi h;subst this
 refine ⟨3,?_⟩
 unfold spNorm normS nzI zI
 have hz:∀ f:Int,decide (((clsK (bK (Int.toNat f)):Nat):Int)=0)=Nat.beq (bK (Int.toNat f)) 0:=fun f=>cls_zero _
 have w1:IntKind.i64.wrap 1=1:=by decide
 have w2:IntKind.i64.wrap 2=2:=by decide
 simp only [itP_s,spNorm_l1,hz]
 cases e with
 | true=>rfl
 | false =>
  cases leF lo hi with
  | false=>rfl
  | true =>
   cases h1:decide (lo=9218868437227405312) with
   | true=>simp [h1];rfl
   | false =>
    cases h2:decide (hi=18442240474082181120) with
    | true=>simp [h1,h2];rfl
    | false =>
     cases h3:Nat.beq (bK (Int.toNat lo)) 0 <;> cases h4:Nat.beq (bK (Int.toNat hi)) 0 <;> (simp [h1,h2,h3,h4,w1,w2];try rfl)
end
end Su
end
section
namespace Su
open Go Fly
set_option linter.unusedVariables false
noncomputable section
def aRad_l1:(Int×((List Su.Tm)×(Int×(Int×(Bool×(Int×((List Su.Tm)×(Int×Unit))))))))→Option ((Int×((List Su.Tm)×(Int×(Int×(Bool×(Int×((List Su.Tm)×(Int×Unit)))))))) ⊕ (Int×((List Su.Tm)×(Int×(Int×(Bool×(Int×((List Su.Tm)×(Int×Unit))))))))):=fun p1=>(bif (decide ((p1.2.2.2.1<p1.2.2.1))) then
 ((Su.idx p1.2.1 p1.2.2.2.1)).bind fun x2 =>
 some (.inl ((((Su.upS 0 [p1.1,(((Su.absF (Int.toNat (Su.Tm.c x2))):Nat):Int)]):Nat):Int),(p1.2.1,(p1.2.2.1,((Go.IntKind.wrap .i64 (p1.2.2.2.1+1)),(p1.2.2.2.2.1,(p1.2.2.2.2.2.1,(p1.2.2.2.2.2.2.1,(p1.2.2.2.2.2.2.2.1,())))))))))
 else
  some (.inr (p1.1,(p1.2.1,(p1.2.2.1,(p1.2.2.2.1,(p1.2.2.2.2.1,(p1.2.2.2.2.2.1,(p1.2.2.2.2.2.2.1,(p1.2.2.2.2.2.2.2.1,()))))))))))
def aRad  (fu:Nat) (a:(Bool×(Int×((List Su.Tm)×Int)))):Option Int :=
 (bif (List.any [(a.1,(a.2.1,(a.2.2.1,a.2.2.2)))] (fun z0=>(z0.1||(!(Su.mayF z0))))) then
 some ((9218868437227405312:Nat):Int)
 else
  (itP fu (aRad_l1) ((0:Int),(a.2.2.1,((((List.length a.2.2.1):Nat):Int),((0:Int),(a.1,(a.2.1,(a.2.2.1,(a.2.2.2,()))))))))).bind fun x3 =>
  some (((Su.upS 0 [x3.1,x3.2.2.2.2.2.2.2.1]):Nat):Int))
def absA (c:Int):Int:=((absF c.toNat:Nat):Int)
def sumA:List Tm→Int→Int
 | [],s=>s
 | t::l,s=>sumA l (upI [s,absA t.c])
def radL:{f:Fm→Int // ∀ a,f a=bif okF a then upI [sumA a.2.2.1 0,a.2.2.2] else 9218868437227405312}:=Classical.choice ⟨⟨_,fun _=>rfl⟩⟩
def radF (a:Fm):Int:=radL.1 a
theorem radF_eq (a:Fm):radF a=bif okF a then upI [sumA a.2.2.1 0,a.2.2.2] else 9218868437227405312:=radL.2 a
def aRad_s (a:Fm):Option Int:=bif lenOK a.2.2.1 then some (radF a) else none
theorem rad_loop (l:List Tm) (hl:l.length≤549755813888) (q:Bool×(Int×(List Tm×(Int×Unit)))):∀ (rest A:List Tm) (s:Int),A++rest=l →
 ∃ n,itP n aRad_l1 (s,(l,((l.length:Int),((A.length:Int),q))))=some (sumA rest s,(l,((l.length:Int),((l.length:Int),q))))
 | [],A,s,hA=>by
  rw [List.append_nil] at hA;subst hA
  refine ⟨1,?_⟩
  rw [itP_s]
  simp only [aRad_l1]
  rw [decide_eq_false (by omega),cond_false];rfl
 | t::rest,A,s,hA=>by
  have hNl:A.length+(rest.length+1)=l.length:=by rw [← hA];simp
  have hg:idx l (A.length:Int)=some t:=by
   rw [idx_nat,← hA,List.getElem?_append_right (by omega),Nat.sub_self];rfl
  obtain ⟨n,h⟩:=rad_loop l hl q rest (A++[t]) (upI [s,absA t.c]) (by rw [← hA];simp)
  refine ⟨n+1,?_⟩
  rw [itP_s]
  simp only [aRad_l1]
  rw [decide_eq_true (show (A.length:Int)<(l.length:Int) by omega),cond_true,hg,Option.bind_some,w64 (by omega) (by omega),show ((A.length:Int)+1)=(((A++[t]).length:Nat):Int) by simp]
  exact h
theorem aRad_ok (a:Fm) (y:Int) (hg:(d1 cFrm).good a) (h:aRad_s a=some y):∃ n,aRad n a=some y:=by
 obtain ⟨b,m,l,e⟩:=a
 obtain ⟨h1,h2⟩:=bif_some h
 have:=soi h2;subst this
 have hl:l.length≤549755813888:=Nat.le_of_ble_eq_true h1
 have ha:List.any [((b,(m,(l,e))):Fm)] (fun z0=>(z0.1||(!(Su.mayF z0)))) = !okF (b,(m,(l,e))):=by simp [okF]
 obtain ⟨n,q⟩:=rad_loop l hl (b,(m,(l,(e,())))) l [] 0 rfl
 refine ⟨n,?_⟩
 rw [radF_eq]
 unfold aRad
 simp only []
 rw [ha]
 cases okF (b,(m,(l,e))) with
 | false=>rfl
 | true =>
  rw [Bool.not_true,cond_false,cond_true]
  exact obs q rfl
end
end Su
end
section
namespace Su
open Go Fly
set_option linter.unusedVariables false
noncomputable section
def aRest  (a:(Bool×(Int×((List Su.Tm)×Int)))):Option Int :=
 ((Su.aRad_s (a.1,((0:Int),(a.2.2.1,a.2.2.2))))).bind fun x0 =>
 some x0
def aMid  (a:Int) (b:Int):Option Int :=
 some (((Su.addN (Int.toNat (((Su.mulN (Int.toNat a) (Int.toNat 4602678819172646912) 0):Nat):Int)) (Int.toNat (((Su.mulN (Int.toNat b) (Int.toNat 4602678819172646912) 0):Nat):Int)) 0):Nat):Int)
def restF (a:Fm):Int:=radF (a.1,(0,(a.2.2.1,a.2.2.2)))
def aRest_s (a:Fm):Option Int:=bif lenOK a.2.2.1 then some (restF a) else none
theorem aRest_ok (a:Fm) (y:Int) (hg:(d1 cFrm).good a) (h:aRest_s a=some y):aRest a=some y:=by
 obtain ⟨h1,h2⟩:=bif_some h
 have:=soi h2;subst this
 unfold aRest aRad_s
 rw [h1];rfl
def midI (a b:Int):Int:=addI (mulI a 4602678819172646912 0) (mulI b 4602678819172646912 0) 0
def aMid_s (p:Int×Int):Option Int:=some (midI p.1 p.2)
theorem aMid_ok (p:Int×Int) (y:Int) (hg:(dc (cI .u64) (d1 (cI .u64))).good p) (h:aMid_s p=some y):aMid p.1 p.2=some y:=h
end
end Su
end
