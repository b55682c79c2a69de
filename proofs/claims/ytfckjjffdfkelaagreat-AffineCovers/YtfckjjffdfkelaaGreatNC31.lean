/-
  What functions of the program compute, in plain Lean, and that the evaluator finds it.
-/
import Derived.Test.YtfckjjffdfkelaaGreatSuSd
import Derived.Test.YtfckjjffdfkelaaGreatNC32
import Derived.Test.YtfckjjffdfkelaaGreatRso
import Derived.Test.YtfckjjffdfkelaaGreatND27
set_option maxRecDepth 10000
section
namespace Su
open Go Fly
set_option linter.unusedVariables false
noncomputable section
abbrev qI:=((List Tm)×((List Tm)×(Nat×((List T)×Unit))))
def jc :=
 fun (p5025:qI) x5026 =>
 (bif ((true&&(Nat.beq p5025.2.2.1 (List.length p5025.2.2.2.1)))&&(Nat.ble ((List.length p5025.2.2.2.1)+(List.length [(T.agg [(T.s (.int .i64 (Tm.id x5026))),(T.s (.int .u64 0))])])) 549755813888)) then
 some (.inl ((List.take (Int.toNat ((((List.length p5025.1):Nat):Int)-1)) (List.drop 1 p5025.1)),((List.take (Int.toNat ((((List.length p5025.2.1):Nat):Int)-1)) (List.drop 1 p5025.2.1)),((List.length (p5025.2.2.2.1++[(T.agg [(T.s (.int .i64 (Tm.id x5026))),(T.s (.int .u64 0))])])),((p5025.2.2.2.1++[(T.agg [(T.s (.int .i64 (Tm.id x5026))),(T.s (.int .u64 0))])]),())))))
 else
  none:Option (qI ⊕ qI))
def jp :=
 fun (p5027:qI) x5028 =>
 (bif (true&&((true&&(decide ((1≤(((List.length p5027.2.1):Nat):Int)))))&&(decide (((((List.length p5027.2.1):Nat):Int)≤(((List.length p5027.2.1):Nat):Int)))))) then
 (bif ((true&&(Nat.beq p5027.2.2.1 (List.length p5027.2.2.2.1)))&&(Nat.ble ((List.length p5027.2.2.2.1)+(List.length [(T.agg [(T.s (.int .i64 (Tm.id x5028))),(T.s (.int .u64 0))])])) 549755813888)) then
 some (.inl (p5027.1,((List.take (Int.toNat ((((List.length p5027.2.1):Nat):Int)-1)) (List.drop 1 p5027.2.1)),((List.length (p5027.2.2.2.1++[(T.agg [(T.s (.int .i64 (Tm.id x5028))),(T.s (.int .u64 0))])])),((p5027.2.2.2.1++[(T.agg [(T.s (.int .i64 (Tm.id x5028))),(T.s (.int .u64 0))])]),())))))
 else
  none)
 else
  none:Option (qI ⊕ qI))
def jr :=
 fun (p5029:qI) x5030 x5031 =>
 (bif ((true&&(Nat.beq p5029.2.2.1 (List.length p5029.2.2.2.1)))&&(Nat.ble ((List.length p5029.2.2.2.1)+(List.length [(T.agg [(T.s (.int .i64 (Tm.id x5030))),(T.s (.int .u64 (Tm.c x5031)))])])) 549755813888)) then
 some (.inl ((List.take (Int.toNat ((((List.length p5029.1):Nat):Int)-1)) (List.drop 1 p5029.1)),((List.take (Int.toNat ((((List.length p5029.2.1):Nat):Int)-1)) (List.drop 1 p5029.2.1)),((List.length (p5029.2.2.2.1++[(T.agg [(T.s (.int .i64 (Tm.id x5030))),(T.s (.int .u64 (Tm.c x5031)))])])),((p5029.2.2.2.1++[(T.agg [(T.s (.int .i64 (Tm.id x5030))),(T.s (.int .u64 (Tm.c x5031)))])]),())))))
 else
  none:Option (qI ⊕ qI))
def js :=
 fun (p5021:qI) =>
 bif (decide (((((List.length p5021.1):Nat):Int)=0))) then
 ((idx p5021.2.1 0)).bind fun x8 =>
 ((idx p5021.2.1 0)).bind fun x9 =>
 (jp p5021 x8)
 else
  ((idx p5021.2.1 0)).bind fun x10 =>
  ((idx p5021.1 0)).bind fun x11 =>
  (bif (decide (((Tm.id x10)<(Tm.id x11)))) then
  ((idx p5021.2.1 0)).bind fun x12 =>
  ((idx p5021.2.1 0)).bind fun x13 =>
  (jp p5021 x12)
 else
  ((idx p5021.1 0)).bind fun x14 =>
  ((idx p5021.1 0)).bind fun x15 =>
  ((idx p5021.2.1 0)).bind fun x16 =>
  (bif (true&&((true&&(decide ((1≤(((List.length p5021.1):Nat):Int)))))&&(decide (((((List.length p5021.1):Nat):Int)≤(((List.length p5021.1):Nat):Int)))))) then
  (bif (true&&((true&&(decide ((1≤(((List.length p5021.2.1):Nat):Int)))))&&(decide (((((List.length p5021.2.1):Nat):Int)≤(((List.length p5021.2.1):Nat):Int)))))) then
  (bif (decide (((Tm.c x15)=0))) then
  (jc p5021 x14)
 else
  (bif (decide (((Tm.c x16)=0))) then
  (jc p5021 x14)
 else
  (bif (!(decide (((Int.fdiv (Tm.c x15) (2^63))=(Int.fdiv (Tm.c x16) (2^63)))))) then
  (jc p5021 x14)
 else
  (bif (Q3 (Int.toNat (((YK (Int.toNat (Tm.c x16))):Nat):Int)) (Int.toNat (((YK (Int.toNat (Tm.c x15))):Nat):Int))) then
  (jr p5021 x14 x16)
 else
  (jr p5021 x14 x15)))))
 else
  none)
 else
  none))
def jt :=
 fun (p5032:qI) x5033 =>
 (bif ((true&&(Nat.beq p5032.2.2.1 (List.length p5032.2.2.2.1)))&&(Nat.ble ((List.length p5032.2.2.2.1)+(List.length [(T.agg [(T.s (.int .i64 (Tm.id x5033))),(T.s (.int .u64 0))])])) 549755813888)) then
 some (.inl ((List.take (Int.toNat ((((List.length p5032.1):Nat):Int)-1)) (List.drop 1 p5032.1)),(p5032.2.1,((List.length (p5032.2.2.2.1++[(T.agg [(T.s (.int .i64 (Tm.id x5033))),(T.s (.int .u64 0))])])),((p5032.2.2.2.1++[(T.agg [(T.s (.int .i64 (Tm.id x5033))),(T.s (.int .u64 0))])]),())))))
 else
  none:Option (qI ⊕ qI))
def ju :=
 fun (p5022:qI) x5023 x5024 =>
 bif (true&&((true&&(decide ((1≤(((List.length p5022.1):Nat):Int)))))&&(decide (((((List.length p5022.1):Nat):Int)≤(((List.length p5022.1):Nat):Int)))))) then
 (bif (decide (((Tm.c x5023)=0))) then
 (jt p5022 x5024)
 else
  (jt p5022 x5024))
 else
  none
def jv :=
 fun (p5034:qI) =>
 bif (decide (((((List.length p5034.2.1):Nat):Int)=0))) then
 ((idx p5034.1 0)).bind fun x2 =>
 ((idx p5034.1 0)).bind fun x3 =>
 (ju p5034 x3 x2)
 else
  (bif (decide ((0<(((List.length p5034.1):Nat):Int)))) then
  ((idx p5034.1 0)).bind fun x4 =>
  ((idx p5034.2.1 0)).bind fun x5 =>
  (bif (decide (((Tm.id x4)<(Tm.id x5)))) then
  ((idx p5034.1 0)).bind fun x6 =>
  ((idx p5034.1 0)).bind fun x7 =>
  (ju p5034 x7 x6)
 else
  (js p5034))
 else
  (js p5034))
def jA:qI→Option (qI ⊕ qI):=fun p1=>(bif (decide ((0<(((List.length p1.1):Nat):Int)))) then
 (jv p1)
 else
  (bif (decide ((0<(((List.length p1.2.1):Nat):Int)))) then
  (jv p1)
 else
  some (.inr (p1.1,(p1.2.1,(p1.2.2.1,(p1.2.2.2.1,())))))))
def qzl  (fu:Nat) (a:Fm) (b:Fm):Option Fm :=
 (bif (List.any [a,b] (fun z0=>(z0.1||(!(yU z0))))) then
 some (true,((0:Int),([],(0:Int))))
 else
  (itP fu (jA) (a.2.2.1,(b.2.2.1,(0,([],()))))).bind fun x50 =>
  ((Su.sub x50.2.2.2.1 0 x50.2.2.1)).bind fun x51 =>
  (((((((yt x51)).bind fun x52 =>
  some (x52,(0:Int))).bind fun x53 =>
  some ((jx a.2.1 b.2.1),x53)).bind fun x54 =>
  some (false,x54)).bind fun x55 =>
  some (a,x55)).bind fun x56 =>
  (bif (Nat.ble ((List.length x56.1.2.2.1)+(List.length x56.2.2.2.1)) 549755813888) then
  some (qgj x56.1 x56.2.2.2.1 x56.2.2.1)
 else
  none)).bind fun x57 =>
  ((Su.sub x50.2.2.2.1 0 x50.2.2.1)).bind fun x58 =>
  (((((((yt x58)).bind fun x59 =>
  some (x59,(0:Int))).bind fun x60 =>
  some ((jx a.2.1 b.2.1),x60)).bind fun x61 =>
  some (false,x61)).bind fun x62 =>
  some (b,x62)).bind fun x63 =>
  (bif (Nat.ble ((List.length x63.1.2.2.1)+(List.length x63.2.2.2.1)) 549755813888) then
  some (qgj x63.1 x63.2.2.2.1 x63.2.2.1)
 else
  none)).bind fun x64 =>
  (bif (true&&(Nat.beq x50.2.2.1 (List.length x50.2.2.2.1))) then
  ((((((yt x50.2.2.2.1)).bind fun x65 =>
  some (x65,(((Zj (Int.toNat x57) (Int.toNat x64)):Nat):Int))).bind fun x66 =>
  some ((jx a.2.1 b.2.1),x66)).bind fun x67 =>
  some (false,x67)).bind fun x68 =>
  some (qH x68)).bind fun x69 =>
  some x69
 else
  none))
set_option linter.unusedSimpArgs false
def joC (x y:Int):Int:=bif decide (x=0) then 0 else bif decide (y=0) then 0 else bif !decide (Int.fdiv x (2^63)=Int.fdiv y (2^63)) then 0 else bif Q3 (Int.toNat ((YK (Int.toNat y):Nat):Int)) (Int.toNat ((YK (Int.toNat x):Nat):Int)) then y else x
theorem quU (x:Int):joC x 0=0:=by unfold joC;cases decide (x=0) <;> rfl
theorem quV:Pick joC:=by
 refine ⟨quU,fun y=>rfl,fun x y=>?_⟩
 unfold joC
 cases decide (x=0) with
 | true=>exact .inl rfl
 | false =>
  cases decide (y=0) with
  | true=>exact .inl rfl
  | false =>
   cases decide (Int.fdiv x (2^63)=Int.fdiv y (2^63)) with
   | false=>exact .inl rfl
   | true =>
    cases Q3 (Int.toNat ((YK (Int.toNat y):Nat):Int)) (Int.toNat ((YK (Int.toNat x):Nat):Int)) with
    | true=>exact .inr (.inr rfl)
    | false=>exact .inr (.inl rfl)
abbrev JoS:=(List Tm)×((List Tm)×(Nat×((List T)×Unit)))
def joMk (l m:List Tm) (_:Int) (A:List Tm):JoS:=(l,(m,(A.length,(A.map vT,()))))
theorem qDP (l m:List Tm) (h:l.length+m.length≤549755813888):∃ fu,itP fu jA (l,(m,(0,([],()))))=some ([],([],((qh (jnD joC) (l.length+m.length) l m 0).1.length,((qh (jnD joC) (l.length+m.length) l m 0).1.map vT,())))):=by
 have hb:∀ A:List Tm,A.length+1≤549755813888→Nat.ble (A.length+1) 549755813888=true:=fun A h=>Nat.ble_eq_true_of_le h
 refine qBr (mk:=joMk) (B:=549755813888) ?_ ?_ ?_ ?_ ?_ ?_ (l.length+m.length) l m 0 [] (Nat.le_refl _) (by simpa using h)
 · intro e A
   show jA ([],([],(A.length,(A.map vT,()))))=_
   simp only [jA,jv,ju,jt,js,jr,jp,jc,List.length_nil,hp0,cond_false]
   rfl
 · intro x l e A hA
   have hb:=hb A hA
   show jA (x::l,([],(A.length,(A.map vT,()))))=some (.inl (l,([],((A++[(⟨x.id,joC x.c 0⟩:Tm)]).length,((A++[(⟨x.id,joC x.c 0⟩:Tm)]).map vT,())))))
   rw [quU]
   cases hx:decide (x.c=0) <;> simp only [jA,jv,ju,jt,js,jr,jp,jc,List.length_cons,List.length_nil,yG,hz0,hnz,hp0,JQ,hle,QX,yD,hx,hb,List.length_map,qy,Bool.and_true,Bool.true_and,cond_true,cond_false,Option.bind_some,JR,JS]
 · intro y m e A hA
   have hb:=hb A hA
   show jA ([],(y::m,(A.length,(A.map vT,()))))=some (.inl ([],(m,((A++[(⟨y.id,0⟩:Tm)]).length,((A++[(⟨y.id,0⟩:Tm)]).map vT,())))))
   simp only [jA,jv,ju,jt,js,jr,jp,jc,List.length_cons,List.length_nil,yG,hz0,hnz,hp0,JQ,hle,QX,yD,hb,List.length_map,qy,Bool.and_true,Bool.true_and,cond_true,cond_false,Option.bind_some,JR,JS]
 · intro x l y m e A hA h1
   have hb:=hb A hA
   show jA (x::l,(y::m,(A.length,(A.map vT,()))))=some (.inl (l,(y::m,((A++[(⟨x.id,joC x.c 0⟩:Tm)]).length,((A++[(⟨x.id,joC x.c 0⟩:Tm)]).map vT,())))))
   rw [quU]
   cases hx:decide (x.c=0) <;> simp only [jA,jv,ju,jt,js,jr,jp,jc,List.length_cons,List.length_nil,yG,hz0,hnz,hp0,JQ,hle,QX,yD,h1,hx,hb,List.length_map,qy,Bool.and_true,Bool.true_and,cond_true,cond_false,Option.bind_some,JR,JS]
 · intro x l y m e A hA h1 h2
   have hb:=hb A hA
   show jA (x::l,(y::m,(A.length,(A.map vT,()))))=some (.inl (x::l,(m,((A++[(⟨y.id,0⟩:Tm)]).length,((A++[(⟨y.id,0⟩:Tm)]).map vT,())))))
   simp only [jA,jv,ju,jt,js,jr,jp,jc,List.length_cons,List.length_nil,yG,hz0,hnz,hp0,JQ,hle,QX,yD,h1,h2,hb,List.length_map,qy,Bool.and_true,Bool.true_and,cond_true,cond_false,Option.bind_some,JR,JS]
 · intro x l y m e A hA h1 h2
   have hb:=hb A hA
   show jA (x::l,(y::m,(A.length,(A.map vT,()))))=some (.inl (l,(m,((A++[(⟨x.id,joC x.c y.c⟩:Tm)]).length,((A++[(⟨x.id,joC x.c y.c⟩:Tm)]).map vT,())))))
   have fin:∀ c:Int,joC x.c y.c=c→jA (x::l,(y::m,(A.length,(A.map vT,()))))=some (.inl (l,(m,((A++[(⟨x.id,c⟩:Tm)]).length,((A++[(⟨x.id,c⟩:Tm)]).map vT,()))))):=by
    intro c hc
    unfold joC at hc
    cases hx:decide (x.c=0) with
    | true =>
     rw [hx] at hc;subst hc
     simp only [jA,jv,ju,jt,js,jr,jp,jc,List.length_cons,List.length_nil,yG,hz0,hnz,hp0,JQ,hle,QX,yD,h1,h2,hx,hb,List.length_map,qy,Bool.and_true,Bool.true_and,cond_true,cond_false,Option.bind_some,JR,JS]
    | false =>
     cases hy:decide (y.c=0) with
     | true =>
      rw [hx,hy] at hc;subst hc
      simp only [jA,jv,ju,jt,js,jr,jp,jc,List.length_cons,List.length_nil,yG,hz0,hnz,hp0,JQ,hle,QX,yD,h1,h2,hx,hy,hb,List.length_map,qy,Bool.and_true,Bool.true_and,cond_true,cond_false,Option.bind_some,JR,JS]
     | false =>
      cases hs:decide (Int.fdiv x.c (2^63)=Int.fdiv y.c (2^63)) with
      | false =>
       rw [hx,hy,hs] at hc;subst hc
       simp only [jA,jv,ju,jt,js,jr,jp,jc,List.length_cons,List.length_nil,yG,hz0,hnz,hp0,JQ,hle,QX,yD,h1,h2,hx,hy,hs,hb,List.length_map,qy,Bool.and_true,Bool.true_and,Bool.not_false,cond_true,cond_false,Option.bind_some,JR,JS]
      | true =>
       rw [hx,hy,hs] at hc
       simp only [Bool.not_true,cond_false] at hc
       cases hl:Q3 (Int.toNat ((YK (Int.toNat y.c):Nat):Int)) (Int.toNat ((YK (Int.toNat x.c):Nat):Int)) with
       | true =>
        rw [hl] at hc;subst hc
        simp only [jA,jv,ju,jt,js,jr,jp,jc,List.length_cons,List.length_nil,yG,hz0,hnz,hp0,JQ,hle,QX,yD,h1,h2,hx,hy,hs,hl,hb,List.length_map,qy,Bool.and_true,Bool.true_and,Bool.not_true,cond_true,cond_false,Option.bind_some,JR,JS]
       | false =>
        rw [hl] at hc;subst hc
        simp only [jA,jv,ju,jt,js,jr,jp,jc,List.length_cons,List.length_nil,yG,hz0,hnz,hp0,JQ,hle,QX,yD,h1,h2,hx,hy,hs,hl,hb,List.length_map,qy,Bool.and_true,Bool.true_and,Bool.not_true,cond_true,cond_false,Option.bind_some,JR,JS]
   exact fin _ rfl
theorem qDQ (f:Int→Int→Int→Int×Int):∀ (n:Nat) (l m:List Tm) (e:Int),(qh f n l m e).1.length≤n:=by
 intro n
 induction n with
 | zero=>intro l m e;exact Nat.zero_le _
 | succ n ih =>
  have one:∀ (id:Int) (r:Int×Int) (l' m':List Tm),(jI id r (qh f n l' m')).1.length≤n+1:=fun id r l' m'=>by
   show (qh f n l' m' r.2).1.length+1≤n+1
   have:=ih l' m' r.2;omega
  intro l m e
  match l,m with
  | [],[]=>exact Nat.zero_le _
  | a::l,[]=>exact one _ _ _ _
  | [],b::m=>exact one _ _ _ _
  | a::l,b::m =>
   simp only [qh]
   cases decide (a.id<b.id) with
   | true=>exact one _ _ _ _
   | false =>
    cases decide (b.id<a.id) with
    | true=>exact one _ _ _ _
    | false=>exact one _ _ _ _
theorem subA (L:List Tm):Su.sub (L.map vT) 0 L.length=some (L.map vT):=by
 rw [qzh _ _ (Nat.le_refl _),List.take_length]
def ZY (p:Fm×Fm):Option Fm:=bif Nat.ble (p.1.2.2.1.length+p.2.2.2.1.length) 1000000 then some (Zt joC p.1 p.2) else none
theorem qzm (p:Fm×Fm) (y:Fm) (hg:(dc qu (d1 qu)).good p) (h:ZY p=some y):∃ n,qzl n p.1 p.2=some y:=by
 obtain ⟨a,b⟩:=p
 obtain ⟨h1,h2⟩:=qj h
 have:=soi h2;subst this
 have hl:a.2.2.1.length+b.2.2.1.length≤1000000:=Nat.le_of_ble_eq_true h1
 obtain ⟨n,hn⟩:=qDP a.2.2.1 b.2.2.1 (by omega)
 refine ⟨n,?_⟩
 show qzl n a b=some (Zt joC a b)
 have ha:(List.any [a,b] fun z0=>(z0.1||(!(yU z0)))) = !(okF a&&okF b):=by
  unfold okF
  show ((a.1||!yU a)||((b.1||!yU b)||false))=_
  cases (a.1||!yU a) <;> cases (b.1||!yU b) <;> rfl
 unfold qzl Zt
 cases ho:okF a&&okF b with
 | false=>exact yh (ha.trans (by rw [ho];rfl))
 | true =>
  refine (QY (ha.trans (by rw [ho];rfl))).trans (obs hn ?_)
  have hR:(Zs joC a b).length≤1000000:=Nat.le_trans (qDQ _ _ _ _ _) hl
  have e:(qh (jnD joC) (a.2.2.1.length+b.2.2.1.length) a.2.2.1 b.2.2.1 0).1=Zs joC a b:=rfl
  rw [e]
  refine obs (subA _) (obs (t:=qgj a (Zs joC a b) (jx a.2.1 b.2.1)) (obs (obs (obs (obs (obs (jR _) rfl) rfl) rfl) rfl) (yh (Nat.ble_eq_true_of_le (by show a.2.2.1.length+(Zs joC a b).length≤_;omega)))) ?_)
  refine obs (subA _) (obs (t:=qgj b (Zs joC a b) (jx a.2.1 b.2.1)) (obs (obs (obs (obs (obs (jR _) rfl) rfl) rfl) rfl) (yh (Nat.ble_eq_true_of_le (by show b.2.2.1.length+(Zs joC a b).length≤_;omega)))) ?_)
  refine (yh (by rw [List.length_map];simp)).trans ?_
  exact obs (obs (obs (obs (obs (jR _) rfl) rfl) rfl) rfl) rfl
end
end Su
end
section
namespace Su
open Go Fly
set_option linter.unusedVariables false
noncomputable section
theorem qgl {s:Spn} {f:Int} (ok:qni s) (wf:Fw f) (h:qej s f=true):qcN (8*fv f.toNat) (8*((1:Nat):Int)) s:=by
 obtain ⟨hf,h0,h1,h2⟩:=(QB wf ok.w).1 h
 rw [qaC ok] at h0 h1 h2
 refine ⟨h0,fun hn=>?_,fun hn=>?_⟩
 · have hl:fI s.2.1=true:=by rw [qbM] at hn;simpa using hn
   have:=(qgg hl hf).2 h1;omega
 · have hl:fI s.2.2=true:=by rw [qbM] at hn;simpa using hn
   have:=(qgg hf hl).2 h2;omega
theorem qqT {a:Fm} (wa:FmW a):qni (Z4 a):=by
 unfold Z4
 cases okF a with
 | true =>
  have wr:=quu wa
  exact Jw ⟨yQ wa.mid (Y5 wr) 2,yQ wa.mid wr 1⟩
 | false =>
  have w:SpW (false,(Y6,qgG)):=⟨⟨by decide,by decide⟩,⟨by decide,by decide⟩⟩
  have e:qo (false,(Y6,qgG))=(false,(Y6,qgG)):=by decide +kernel
  have:=Jw w
  rw [e] at this
  exact this
theorem qpp {s:Spn} (h:(qo s).1=false):leF s.2.1 s.2.2=true∧qo s=(false,(nzI s.2.1,nzI s.2.2)):=by
 unfold qo at h ⊢
 cases hc:s.1||(!leF s.2.1 s.2.2||(decide (s.2.1=9218868437227405312)||decide (s.2.2=18442240474082181120))) with
 | true=>rw [hc] at h;cases h
 | false =>
  simp only [Bool.or_eq_false_iff,Bool.not_eq_false'] at hc
  exact ⟨hc.2.1,by rw [cond_false,hc.1]⟩
theorem qpq {lo hi:Int} (wl:Fw lo) (wh:Fw hi) (fl:fI lo=true) (fh:fI hi=true) (wm:Fw (jx lo hi)) (fm:fI (jx lo hi)=true):Fw (qer lo hi) :=
 qBp (yQ wh (Y5 wm) 1) (yQ wm (Y5 wl) 1) (qdx (Qr (yV fh) (qa6 wm fm))) (qdx (Qr (yV fm) (qa6 wl fl)))
theorem qFN {s:Spn} {id:Int} (ws:SpW s) (h:(Qf s id).1=false):fI s.2.1=true∧fI s.2.2=true∧(qo s).1=false∧FmW (Qf s id):=by
 unfold Qf quM at h ⊢
 have wn:=(Jw ws).w
 cases h0:(qo s).1 with
 | true=>rw [h0] at h;cases h
 | false =>
 rw [h0,cond_false] at h
 cases f1:fI (qo s).2.1 with
 | false=>rw [f1] at h;cases h
 | true =>
 rw [f1,Bool.not_true,cond_false] at h
 cases f2:fI (qo s).2.2 with
 | false=>rw [f2] at h;cases h
 | true =>
 rw [f2,Bool.not_true,cond_false] at h
 obtain ⟨_,hn⟩:=qpp h0
 have g1:fI s.2.1=true:=qcM (by rw [hn] at f1;exact f1)
 have g2:fI s.2.2=true:=qcM (by rw [hn] at f2;exact f2)
 refine ⟨g1,g2,rfl,?_⟩
 simp only [Bool.not_true,cond_false]
 have wmul:∀ {a:Int},Fw a→Fw (yF a 4602678819172646912 0):=fun {a} ha=>qds (qjc 0)
 have wm:Fw (jx (qo s).2.1 (qo s).2.2):=yQ (wmul wn.1) (wmul wn.2) 0
 cases hd:decide (id<0) with
 | true =>
  rw [hd,cond_true] at h
  have fm:=(qaD h).1
  exact qo8 wm (qpq wn.1 wn.2 f1 f2 wm fm) (fun t ht=>by cases ht)
 | false =>
  rw [hd,cond_false] at h
  have fm:=(qaD h).1
  refine qo8 wm qbL fun t ht=>?_
  rw [List.mem_singleton.1 ht]
  exact qpq wn.1 wn.2 f1 f2 wm fm
theorem qzn {s:Spn} {id:Int} (ws:SpW s) (h:(Qf s id).1=false):QA s.2.1.toNat=false∧QA s.2.2.toNat=false∧qnh s (Z4 (Qf s id))=true ∧
 qcN (8*fv s.2.1.toNat) (8*((1:Nat):Int)) (Z4 (Qf s id))∧qcN (8*fv s.2.2.toNat) (8*((1:Nat):Int)) (Z4 (Qf s id)):=by
 obtain ⟨g1,g2,h0,wf⟩:=qFN ws h
 obtain ⟨hle,hn⟩:=qpp h0
 obtain ⟨n1,n2,hk⟩:=JV.1 hle
 have k1:=qek ws.1 n1
 have k2:=qek ws.2 n2
 have e1:(qo s).2.1=nzI s.2.1:=by rw [hn]
 have e2:(qo s).2.2=nzI s.2.2:=by rw [hn]
 have a1:qej s s.2.1=true:=(QB ws.1 ws).2 ⟨g1,h0,by rw [e1,k1.2];omega,by rw [e2,k2.2];exact hk⟩
 have a2:qej s s.2.2=true:=(QB ws.2 ws).2 ⟨g2,h0,by rw [e1,k1.2];exact hk,by rw [e2,k2.2];omega⟩
 have b1:=qlN wf ws.1 g1 (qpe (id:=id) ws ws.1 a1)
 have b2:=qlN wf ws.2 g2 (qpe (id:=id) ws ws.2 a2)
 have ok:=qqT wf
 refine ⟨by rw [qbM,g1];rfl,by rw [qbM,g2];rfl,?_,qgl ok ws.1 b1,qgl ok ws.2 b2⟩
 obtain ⟨_,c0,c1,c2⟩:=(QB ws.1 ok.w).1 b1
 obtain ⟨_,d0,d1,d2⟩:=(QB ws.2 ok.w).1 b2
 rw [qaC ok] at c0 c1 c2 d0 d1 d2
 obtain ⟨z1,z2,_⟩:=qgf ok c0
 unfold qnh
 rw [qaC ok,h0,c0,e1,e2]
 rw [JV.2 ⟨z1.n,k1.1.n,by rw [k1.2];exact c1⟩,JV.2 ⟨k2.1.n,z2.n,by rw [k2.2];exact d2⟩]
 rfl
end
end Su
end
