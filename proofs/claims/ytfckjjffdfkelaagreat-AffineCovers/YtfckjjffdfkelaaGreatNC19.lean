/-
  What functions of the program compute, in plain Lean, and that the evaluator finds it.
-/
import Derived.Test.YtfckjjffdfkelaaGreatSuSd
import Derived.Test.YtfckjjffdfkelaaGreatNC14
set_option maxRecDepth 10000
section
namespace Su
open Go Fly
set_option linter.unusedVariables false
noncomputable section
abbrev qU:=((List Tm)×((List Tm)×(Nat×(Int×((List T)×Unit)))))
def qY :=
 fun (p5006:qU) x5007 x5008 =>
 (bif (true&&((true&&(decide ((1≤(((List.length p5006.2.1):Nat):Int)))))&&(decide (((((List.length p5006.2.1):Nat):Int)≤(((List.length p5006.2.1):Nat):Int)))))) then
 (bif ((true&&(Nat.beq p5006.2.2.1 (List.length p5006.2.2.2.2.1)))&&(Nat.ble ((List.length p5006.2.2.2.2.1)+(List.length [(T.agg [(T.s (.int .i64 (Tm.id x5007))),(T.s (.int .u64 (Tm.c x5008)))])])) 549755813888)) then
 some (.inl (p5006.1,((List.take (Int.toNat ((((List.length p5006.2.1):Nat):Int)-1)) (List.drop 1 p5006.2.1)),((List.length (p5006.2.2.2.2.1++[(T.agg [(T.s (.int .i64 (Tm.id x5007))),(T.s (.int .u64 (Tm.c x5008)))])])),(p5006.2.2.2.1,((p5006.2.2.2.2.1++[(T.agg [(T.s (.int .i64 (Tm.id x5007))),(T.s (.int .u64 (Tm.c x5008)))])]),()))))))
 else
  none)
 else
  none:Option (qU ⊕ qU))
def qZ :=
 fun (p5009:qU) x5010 x5011 =>
 (bif ((true&&(Nat.beq p5009.2.2.1 (List.length p5009.2.2.2.2.1)))&&(Nat.ble ((List.length p5009.2.2.2.2.1)+(List.length [(T.agg [(T.s (.int .i64 (Tm.id x5010))),(T.s (.int .u64 (Tm.c x5011)))])])) 549755813888)) then
 some (.inl ((List.take (Int.toNat ((((List.length p5009.1):Nat):Int)-1)) (List.drop 1 p5009.1)),((List.take (Int.toNat ((((List.length p5009.2.1):Nat):Int)-1)) (List.drop 1 p5009.2.1)),((List.length (p5009.2.2.2.2.1++[(T.agg [(T.s (.int .i64 (Tm.id x5010))),(T.s (.int .u64 (Tm.c x5011)))])])),(p5009.2.2.2.1,((p5009.2.2.2.2.1++[(T.agg [(T.s (.int .i64 (Tm.id x5010))),(T.s (.int .u64 (Tm.c x5011)))])]),()))))))
 else
  none:Option (qU ⊕ qU))
def q9 :=
 fun (p5002:qU) =>
 (bif (decide (((((List.length p5002.1):Nat):Int)=0))) then
 ((idx p5002.2.1 0)).bind fun x8 =>
 ((idx p5002.2.1 0)).bind fun x9 =>
 (qY p5002 x8 x9)
 else
  ((idx p5002.2.1 0)).bind fun x10 =>
  ((idx p5002.1 0)).bind fun x11 =>
  (bif (decide (((Tm.id x10)<(Tm.id x11)))) then
  ((idx p5002.2.1 0)).bind fun x12 =>
  ((idx p5002.2.1 0)).bind fun x13 =>
  (qY p5002 x12 x13)
 else
  ((idx p5002.1 0)).bind fun x14 =>
  ((idx p5002.1 0)).bind fun x15 =>
  ((idx p5002.2.1 0)).bind fun x16 =>
  (bif (true&&((true&&(decide ((1≤(((List.length p5002.1):Nat):Int)))))&&(decide (((((List.length p5002.1):Nat):Int)≤(((List.length p5002.1):Nat):Int)))))) then
  (bif (true&&((true&&(decide ((1≤(((List.length p5002.2.1):Nat):Int)))))&&(decide (((((List.length p5002.2.1):Nat):Int)≤(((List.length p5002.2.1):Nat):Int)))))) then
  (bif (decide (((Tm.c x15)=0))) then
  (qZ p5002 x14 x16)
 else
  (bif (decide (((Tm.c x16)=0))) then
  (qZ p5002 x14 x15)
 else
  (bif ((true&&(Nat.beq p5002.2.2.1 (List.length p5002.2.2.2.2.1)))&&(Nat.ble ((List.length p5002.2.2.2.2.1)+(List.length [(T.agg [(T.s (.int .i64 (Tm.id x14))),(T.s (.int .u64 (((jL (Int.toNat (Tm.c x15)) (Int.toNat (Tm.c x16)) 0):Nat):Int)))])])) 549755813888)) then
  some (.inl ((List.take (Int.toNat ((((List.length p5002.1):Nat):Int)-1)) (List.drop 1 p5002.1)),((List.take (Int.toNat ((((List.length p5002.2.1):Nat):Int)-1)) (List.drop 1 p5002.2.1)),((List.length (p5002.2.2.2.2.1++[(T.agg [(T.s (.int .i64 (Tm.id x14))),(T.s (.int .u64 (((jL (Int.toNat (Tm.c x15)) (Int.toNat (Tm.c x16)) 0):Nat):Int)))])])),((((upS 0 [p5002.2.2.2.1,(((jL (Int.toNat (((jL (Int.toNat (Tm.c x15)) (Int.toNat (Tm.c x16)) 1):Nat):Int)) (Int.toNat (((jU (Int.toNat (((jL (Int.toNat (Tm.c x15)) (Int.toNat (Tm.c x16)) 2):Nat):Int))):Nat):Int)) 1):Nat):Int)]):Nat):Int),((p5002.2.2.2.2.1++[(T.agg [(T.s (.int .i64 (Tm.id x14))),(T.s (.int .u64 (((jL (Int.toNat (Tm.c x15)) (Int.toNat (Tm.c x16)) 0):Nat):Int)))])]),()))))))
 else
  none)))
 else
  none)
 else
  none)):Option (qU ⊕ qU))
def ja :=
 fun (p5003:qU) x5004 x5005 =>
 (bif (true&&((true&&(decide ((1≤(((List.length p5003.1):Nat):Int)))))&&(decide (((((List.length p5003.1):Nat):Int)≤(((List.length p5003.1):Nat):Int)))))) then
 (bif (decide (((Tm.c x5004)=0))) then
 (bif ((true&&(Nat.beq p5003.2.2.1 (List.length p5003.2.2.2.2.1)))&&(Nat.ble ((List.length p5003.2.2.2.2.1)+(List.length [(T.agg [(T.s (.int .i64 (Tm.id x5005))),(T.s (.int .u64 0))])])) 549755813888)) then
 some (.inl ((List.take (Int.toNat ((((List.length p5003.1):Nat):Int)-1)) (List.drop 1 p5003.1)),(p5003.2.1,((List.length (p5003.2.2.2.2.1++[(T.agg [(T.s (.int .i64 (Tm.id x5005))),(T.s (.int .u64 0))])])),(p5003.2.2.2.1,((p5003.2.2.2.2.1++[(T.agg [(T.s (.int .i64 (Tm.id x5005))),(T.s (.int .u64 0))])]),()))))))
 else
  none)
 else
  (bif ((true&&(Nat.beq p5003.2.2.1 (List.length p5003.2.2.2.2.1)))&&(Nat.ble ((List.length p5003.2.2.2.2.1)+(List.length [(T.agg [(T.s (.int .i64 (Tm.id x5005))),(T.s (.int .u64 (Tm.c x5004)))])])) 549755813888)) then
  some (.inl ((List.take (Int.toNat ((((List.length p5003.1):Nat):Int)-1)) (List.drop 1 p5003.1)),(p5003.2.1,((List.length (p5003.2.2.2.2.1++[(T.agg [(T.s (.int .i64 (Tm.id x5005))),(T.s (.int .u64 (Tm.c x5004)))])])),(p5003.2.2.2.1,((p5003.2.2.2.2.1++[(T.agg [(T.s (.int .i64 (Tm.id x5005))),(T.s (.int .u64 (Tm.c x5004)))])]),()))))))
 else
  none))
 else
  none:Option (qU ⊕ qU))
def jb :=
 fun (p5012:qU) =>
 bif (decide (((((List.length p5012.2.1):Nat):Int)=0))) then
 ((idx p5012.1 0)).bind fun x2 =>
 ((idx p5012.1 0)).bind fun x3 =>
 (ja p5012 x3 x2)
 else
  (bif (decide ((0<(((List.length p5012.1):Nat):Int)))) then
  ((idx p5012.1 0)).bind fun x4 =>
  ((idx p5012.2.1 0)).bind fun x5 =>
  (bif (decide (((Tm.id x4)<(Tm.id x5)))) then
  ((idx p5012.1 0)).bind fun x6 =>
  ((idx p5012.1 0)).bind fun x7 =>
  (ja p5012 x7 x6)
 else
  (q9 p5012))
 else
  (q9 p5012))
def yn:qU→Option (qU ⊕ qU):=fun p1=>(bif (decide ((0<(((List.length p1.1):Nat):Int)))) then
 (jb p1)
 else
  (bif (decide ((0<(((List.length p1.2.1):Nat):Int)))) then
  (jb p1)
 else
  some (.inr (p1.1,(p1.2.1,(p1.2.2.1,(p1.2.2.2.1,(p1.2.2.2.2.1,()))))))))
def qDn  (fu:Nat) (a:Fm) (b:Fm):Option Fm :=
 (bif (List.any [(a.1,(a.2.1,(a.2.2.1,a.2.2.2))),(b.1,(b.2.1,(b.2.2.1,b.2.2.2)))] (fun z0=>(z0.1||(!(yU z0))))) then
 some (true,((0:Int),([],(0:Int))))
 else
  (itP fu (yn) (a.2.2.1,(b.2.2.1,(0,((((upS 0 [a.2.2.2,b.2.2.2,(((jL (Int.toNat (((jL (Int.toNat a.2.1) (Int.toNat b.2.1) 1):Nat):Int)) (Int.toNat (((jU (Int.toNat (((jL (Int.toNat a.2.1) (Int.toNat b.2.1) 2):Nat):Int))):Nat):Int)) 1):Nat):Int)]):Nat):Int),([],())))))).bind fun x50 =>
  (bif (true&&(Nat.beq x50.2.2.1 (List.length x50.2.2.2.2.1))) then
  ((((((yt x50.2.2.2.2.1)).bind fun x51 =>
  some (x51,x50.2.2.2.1)).bind fun x52 =>
  some ((((jL (Int.toNat a.2.1) (Int.toNat b.2.1) 0):Nat):Int),x52)).bind fun x53 =>
  some (false,x53)).bind fun x54 =>
  some (qH x54)).bind fun x55 =>
  some (x55.1,(x55.2.1,(x55.2.2.1,x55.2.2.2)))
 else
  none))
set_option linter.unusedSimpArgs false
def qnb (x y:Int):Int:=Qq (Qq x y 1) (QW (Qq x y 2)) 1
def qcI (x y:Int):Int:=Qq (yF x y 1) (QW (yF x y 2)) 1
def jI (id:Int) (r:Int×Int) (g:Int→List Tm×Int):List Tm×Int:=(⟨id,r.1⟩::(g r.2).1,(g r.2).2)
def qh (f:Int→Int→Int→Int×Int):Nat→List Tm→List Tm→Int→List Tm×Int
 | 0,_,_,e=>([],e)
 | _+1,[],[],e=>([],e)
 | n+1,a::l,[],e=>jI a.id (f e a.c 0) (qh f n l [])
 | n+1,[],b::m,e=>jI b.id (f e 0 b.c) (qh f n [] m)
 | n+1,a::l,b::m,e=>bif decide (a.id<b.id) then jI a.id (f e a.c 0) (qh f n l (b::m)) else bif decide (b.id<a.id) then jI b.id (f e 0 b.c) (qh f n (a::l) m) else jI a.id (f e a.c b.c) (qh f n l m)
def Z9 (e x y:Int):Int×Int:=bif decide (x=0) then (y,e) else bif decide (y=0) then (x,e) else (Qq x y 0,upI [e,qnb x y])
def qt1 (a b:Fm):Fm:=bif okF a&&okF b then (let r:=qh Z9 (a.2.2.1.length+b.2.2.1.length) a.2.2.1 b.2.2.1 (upI [a.2.2.2,b.2.2.2,qnb a.2.1 b.2.1]);qH (false,(Qq a.2.1 b.2.1 0,(r.1,r.2)))) else qbK
def qt2:{f:Fm→Fm→Fm // ∀ a b,f a b=qt1 a b}:=Classical.choice ⟨⟨_,fun _ _=>rfl⟩⟩
def qt3 (a b:Fm):Fm:=qt2.1 a b
theorem qt4 (a b:Fm):qt3 a b=qt1 a b:=qt2.2 a b
theorem yG (n:Nat):decide (0<((n+1:Nat):Int))=true:=decide_eq_true (by omega)
theorem hz0:decide (((0:Nat):Int)=0)=true:=rfl
theorem hnz (n:Nat):decide (((n+1:Nat):Int)=0)=false:=decide_eq_false (by omega)
theorem hp0:decide (0<((0:Nat):Int))=false:=rfl
theorem JQ (n:Nat):decide (1≤((n+1:Nat):Int))=true:=decide_eq_true (by omega)
theorem hle (n:Int):decide (n≤n)=true:=decide_eq_true (by omega)
theorem QX {α:Type} (x:α) (l:List α):idx (x::l) 0=some x:=rfl
theorem yD {α:Type} (x:α) (l:List α):List.take (Int.toNat (((l.length+1:Nat):Int)-1)) (List.drop 1 (x::l))=l:=by
 rw [show Int.toNat (((l.length+1:Nat):Int)-1)=l.length by omega]
 exact List.take_length
theorem JR (A:List Tm) (i c:Int):A.map vT++[T.agg [T.s (.int .i64 i),T.s (.int .u64 c)]]=(A++[(⟨i,c⟩:Tm)]).map vT:=by simp;rfl
theorem JS (A:List Tm) (t:Tm):((A++[t]).map vT).length=(A++[t]).length:=by simp
theorem qls:∀ (n:Nat) (l m:List Tm) (e:Int) (A:List Tm),l.length+m.length≤n→A.length+n≤549755813888 →
 ∃ fu,itP fu yn (l,(m,(A.length,(e,(A.map vT,())))))=some ([],([],((A++(qh Z9 n l m e).1).length,((qh Z9 n l m e).2,((A++(qh Z9 n l m e).1).map vT,())))))
 | 0,l,m,e,A,h,hA=>by
  have h1:l=[]:=List.length_eq_zero_iff.1 (by omega)
  have h2:m=[]:=List.length_eq_zero_iff.1 (by omega)
  subst h1 h2
  refine ⟨1,?_⟩
  rw [qA]
  simp only [yn,jb,ja,q9,qZ,qY,List.length_nil,hp0,cond_false,Option.bind_some,qh,List.append_nil]
 | n+1,l,m,e,A,h,hA=>by
  have hb:Nat.ble (A.length+1) 549755813888=true:=Nat.ble_eq_true_of_le (by omega)
  have go:∀ (l' m':List Tm) (e' id c:Int),l'.length+m'.length≤n →
   yn (l,(m,(A.length,(e,(A.map vT,())))))=some (.inl (l',(m',((A++[(⟨id,c⟩:Tm)]).length,(e',((A++[(⟨id,c⟩:Tm)]).map vT,())))))) →
   qh Z9 (n+1) l m e=jI id (c,e') (qh Z9 n l' m') →
   ∃ fu,itP fu yn (l,(m,(A.length,(e,(A.map vT,())))))=some ([],([],((A++(qh Z9 (n+1) l m e).1).length,((qh Z9 (n+1) l m e).2,((A++(qh Z9 (n+1) l m e).1).map vT,()))))):=by
   intro l' m' e' id c hl' hstep hm
   obtain ⟨fu,q⟩:=qls n l' m' e' (A++[⟨id,c⟩]) hl' (by simp;omega)
   refine ⟨fu+1,?_⟩
   rw [qA,hstep,hm]
   simp only [Option.bind_some,jI]
   rw [q]
   simp only [List.append_assoc,List.singleton_append]
  match l,m,h with
  | [],[],h =>
   refine ⟨1,?_⟩
   rw [qA]
   simp only [yn,jb,ja,q9,qZ,qY,List.length_nil,hp0,cond_false,Option.bind_some,qh,List.append_nil]
  | x::l,[],h =>
   simp only [List.length_cons,List.length_nil] at h
   cases hx:decide (x.c=0) with
   | true =>
    have hx':=of_decide_eq_true hx
    refine go l [] e x.id 0 (by simp;omega) ?_ ?_
    · simp only [yn,jb,ja,q9,qZ,qY,List.length_cons,List.length_nil,yG,hz0,hnz,hp0,JQ,hle,QX,yD,hx,hb,List.length_map,qy,Bool.and_true,Bool.true_and,cond_true,cond_false,Option.bind_some,JR,JS]
    · simp only [qh,Z9,hx,cond_true]
   | false =>
    refine go l [] e x.id x.c (by simp;omega) ?_ ?_
    · simp only [yn,jb,ja,q9,qZ,qY,List.length_cons,List.length_nil,yG,hz0,hnz,hp0,JQ,hle,QX,yD,hx,hb,List.length_map,qy,Bool.and_true,Bool.true_and,cond_true,cond_false,Option.bind_some,JR,JS]
    · simp only [qh,Z9,hx,cond_false];rfl
  | [],y::m,h =>
   simp only [List.length_cons,List.length_nil] at h
   refine go [] m e y.id y.c (by simp;omega) ?_ ?_
   · simp only [yn,jb,ja,q9,qZ,qY,List.length_cons,List.length_nil,yG,hz0,hnz,hp0,JQ,hle,QX,yD,hb,List.length_map,qy,Bool.and_true,Bool.true_and,cond_true,cond_false,Option.bind_some,JR,JS]
   · simp only [qh,Z9];rfl
  | x::l,y::m,h =>
   simp only [List.length_cons] at h
   cases h1:decide (x.id<y.id) with
   | true =>
    cases hx:decide (x.c=0) with
    | true =>
     refine go l (y::m) e x.id 0 (by simp;omega) ?_ ?_
     · simp only [yn,jb,ja,q9,qZ,qY,List.length_cons,List.length_nil,yG,hz0,hnz,hp0,JQ,hle,QX,yD,h1,hx,hb,List.length_map,qy,Bool.and_true,Bool.true_and,cond_true,cond_false,Option.bind_some,JR,JS]
     · simp only [qh,h1,Z9,hx,cond_true]
    | false =>
     refine go l (y::m) e x.id x.c (by simp;omega) ?_ ?_
     · simp only [yn,jb,ja,q9,qZ,qY,List.length_cons,List.length_nil,yG,hz0,hnz,hp0,JQ,hle,QX,yD,h1,hx,hb,List.length_map,qy,Bool.and_true,Bool.true_and,cond_true,cond_false,Option.bind_some,JR,JS]
     · simp only [qh,h1,Z9,hx,cond_true,cond_false];rfl
   | false =>
    cases h2:decide (y.id<x.id) with
    | true =>
     refine go (x::l) m e y.id y.c (by simp;omega) ?_ ?_
     · simp only [yn,jb,ja,q9,qZ,qY,List.length_cons,List.length_nil,yG,hz0,hnz,hp0,JQ,hle,QX,yD,h1,h2,hb,List.length_map,qy,Bool.and_true,Bool.true_and,cond_true,cond_false,Option.bind_some,JR,JS]
     · simp only [qh,h1,h2,Z9,cond_true,cond_false];rfl
    | false =>
     cases hx:decide (x.c=0) with
     | true =>
      refine go l m e x.id y.c (by omega) ?_ ?_
      · simp only [yn,jb,ja,q9,qZ,qY,List.length_cons,List.length_nil,yG,hz0,hnz,hp0,JQ,hle,QX,yD,h1,h2,hx,hb,List.length_map,qy,Bool.and_true,Bool.true_and,cond_true,cond_false,Option.bind_some,JR,JS]
      · simp only [qh,h1,h2,Z9,hx,cond_true,cond_false]
     | false =>
      cases hy:decide (y.c=0) with
      | true =>
       refine go l m e x.id x.c (by omega) ?_ ?_
       · simp only [yn,jb,ja,q9,qZ,qY,List.length_cons,List.length_nil,yG,hz0,hnz,hp0,JQ,hle,QX,yD,h1,h2,hx,hy,hb,List.length_map,qy,Bool.and_true,Bool.true_and,cond_true,cond_false,Option.bind_some,JR,JS]
       · simp only [qh,h1,h2,Z9,hx,hy,cond_true,cond_false]
      | false =>
       refine go l m (upI [e,qnb x.c y.c]) x.id (Qq x.c y.c 0) (by omega) ?_ ?_
       · simp only [yn,jb,ja,q9,qZ,qY,List.length_cons,List.length_nil,yG,hz0,hnz,hp0,JQ,hle,QX,yD,h1,h2,hx,hy,hb,List.length_map,qy,Bool.and_true,Bool.true_and,cond_true,cond_false,Option.bind_some,JR,JS]
         rfl
       · simp only [qh,h1,h2,Z9,hx,hy,cond_true,cond_false]
def qjg (p:Fm×Fm):Option Fm:=bif Nat.ble (p.1.2.2.1.length+p.2.2.2.1.length) 549755813888 then some (qt3 p.1 p.2) else none
theorem qyz (p:Fm×Fm) (y:Fm) (hg:(dc qu (d1 qu)).good p) (h:qjg p=some y):∃ n,qDn n p.1 p.2=some y:=by
 obtain ⟨⟨b1,m1,l1,e1⟩,b2,m2,l2,e2⟩:=p
 obtain ⟨h1,h2⟩:=qj h
 have:=soi h2;subst this
 have hl:l1.length+l2.length≤549755813888:=Nat.le_of_ble_eq_true h1
 have ha:List.any [((b1,(m1,(l1,e1))):Fm),(b2,(m2,(l2,e2)))] (fun z0=>(z0.1||(!(yU z0)))) = !(okF (b1,(m1,(l1,e1)))&&okF (b2,(m2,(l2,e2)))):=by simp [okF]
 obtain ⟨n,q⟩:=qls _ l1 l2 (upI [e1,e2,qnb m1 m2]) [] (Nat.le_refl _) (by simpa using hl)
 refine ⟨n,?_⟩
 rw [qt4]
 unfold qDn qt1
 simp only []
 rw [ha]
 cases (okF (b1,(m1,(l1,e1)))&&okF (b2,(m2,(l2,e2)))) with
 | false=>rfl
 | true =>
  rw [Bool.not_true,cond_false,cond_true]
  refine obs q ?_
  simp only [List.nil_append,List.length_map,qy,Bool.and_true,cond_true]
  exact obs (obs (obs (obs (obs (jR _) rfl) rfl) rfl) rfl) rfl
end
end Su
end
section
namespace Su
open Go Fly
set_option linter.unusedVariables false
noncomputable section
def qDo  (a:Fm) (b:Fm):Option Fm :=
 ((qjf (b.1,(b.2.1,(b.2.2.1,b.2.2.2))))).bind fun x0 =>
 ((qjg ((a.1,(a.2.1,(a.2.2.1,a.2.2.2))),(x0.1,(x0.2.1,(x0.2.2.1,x0.2.2.2)))))).bind fun x1 =>
 some (x1.1,(x1.2.1,(x1.2.2.1,x1.2.2.2)))
def qFE (a b:Fm):Fm:=qt3 a (qlp b)
def qt5 (p:Fm×Fm):Option Fm:=bif Jv p.2.2.2.1&&Nat.ble (p.1.2.2.1.length+(qlp p.2).2.2.1.length) 549755813888 then some (qFE p.1 p.2) else none
theorem qyA (p:Fm×Fm) (y:Fm) (hg:(dc qu (d1 qu)).good p) (h:qt5 p=some y):qDo p.1 p.2=some y:=by
 obtain ⟨⟨b1,m1,l1,e1⟩,b2,m2,l2,e2⟩:=p
 obtain ⟨h1,h2⟩:=qj h
 have:=soi h2;subst this
 simp only [Bool.and_eq_true] at h1
 have h3:Jv l2=true:=h1.1
 have h4:Nat.ble (l1.length+(qlp (b2,(m2,(l2,e2)))).2.2.1.length) 549755813888=true:=h1.2
 unfold qDo qjf qjg
 simp only [h3,cond_true,Option.bind_some,h4]
 rfl
end
end Su
end
section
namespace Su
open Go Fly
set_option linter.unusedVariables false
noncomputable section
def qDp  (a:Int) (b:Int):Option Bool :=
 (bif (qgA (Int.toNat a) (Int.toNat b)) then
 some (decide (((qgB (Int.toNat a) (Int.toNat b))≤0)))
 else
  some false)
def leF (a b:Int):Bool:=qgA a.toNat b.toNat&&decide (qgB a.toNat b.toNat≤0)
def qt6 (p:Int×Int):Option Bool:=some (leF p.1 p.2)
theorem qyB (p:Int×Int) (y:Bool) (hg:(dc (cI .u64) (d1 (cI .u64))).good p) (h:qt6 p=some y):qDp p.1 p.2=some y:=by
 have:=soi h;subst this
 unfold qDp leF
 cases qgA p.1.toNat p.2.toNat <;> rfl
end
end Su
end
section
namespace Su
open Go Fly
set_option linter.unusedVariables false
noncomputable section
abbrev qaz:=(Nat×(Int×(Int×(Bool×(Int×(Int×(Bool×(Int×(Int×Unit)))))))))
def qhB:qaz→Option (qaz ⊕ qaz):=fun p0=>(bif (decide ((p0.2.2.1<p0.2.1))) then
 (bif (true&&(true&&((decide ((0≤p0.2.2.1)))&&(decide ((p0.2.2.1<((p0.1:Nat):Int))))))) then
 (bif (Nat.beq (Int.toNat p0.2.2.1) 0) then
 (bif (decide (((((qD (bK (Int.toNat p0.2.2.2.2.1))):Nat):Int)=0))) then
 some (.inl (p0.1,(p0.2.1,((IntKind.wrap .i64 (p0.2.2.1+1)),(p0.2.2.2.1,((0:Int),(p0.2.2.2.2.2.1,(p0.2.2.2.2.2.2.1,(p0.2.2.2.2.2.2.2.1,(p0.2.2.2.2.2.2.2.2.1,()))))))))))
 else
  some (.inl (p0.1,(p0.2.1,((IntKind.wrap .i64 (p0.2.2.1+1)),(p0.2.2.2.1,(p0.2.2.2.2.1,(p0.2.2.2.2.2.1,(p0.2.2.2.2.2.2.1,(p0.2.2.2.2.2.2.2.1,(p0.2.2.2.2.2.2.2.2.1,())))))))))))
 else
  (bif (Nat.beq ((Int.toNat p0.2.2.1)-1) 0) then
  (bif (decide (((((qD (bK (Int.toNat p0.2.2.2.2.2.1))):Nat):Int)=0))) then
  some (.inl (p0.1,(p0.2.1,((IntKind.wrap .i64 (p0.2.2.1+1)),(p0.2.2.2.1,(p0.2.2.2.2.1,((0:Int),(p0.2.2.2.2.2.2.1,(p0.2.2.2.2.2.2.2.1,(p0.2.2.2.2.2.2.2.2.1,()))))))))))
 else
  some (.inl (p0.1,(p0.2.1,((IntKind.wrap .i64 (p0.2.2.1+1)),(p0.2.2.2.1,(p0.2.2.2.2.1,(p0.2.2.2.2.2.1,(p0.2.2.2.2.2.2.1,(p0.2.2.2.2.2.2.2.1,(p0.2.2.2.2.2.2.2.2.1,())))))))))))
 else
  none))
 else
  none)
 else
  some (.inr (p0.1,(p0.2.1,(p0.2.2.1,(p0.2.2.2.1,(p0.2.2.2.2.1,(p0.2.2.2.2.2.1,(p0.2.2.2.2.2.2.1,(p0.2.2.2.2.2.2.2.1,(p0.2.2.2.2.2.2.2.2.1,())))))))))))
def qnc  (fu:Nat) (s:(Bool×(Int×Int))):Option (Bool×(Int×Int)) :=
 (bif s.1 then
 some (true,((0:Int),(0:Int)))
 else
  (bif (!(leF s.2.1 s.2.2)) then
  some (true,((0:Int),(0:Int)))
 else
  (bif (decide ((s.2.1=((9218868437227405312:Nat):Int)))) then
  some (true,((0:Int),(0:Int)))
 else
  (bif (decide ((s.2.2=((18442240474082181120:Nat):Int)))) then
  some (true,((0:Int),(0:Int)))
 else
  (itP fu (qhB) (2,((2:Int),((0:Int),(s.1,(s.2.1,(s.2.2,(false,((0:Int),((0:Int),())))))))))).bind fun x1 =>
  some (x1.2.2.2.1,(x1.2.2.2.2.1,x1.2.2.2.2.2.1))))))
abbrev Spn:=Bool×(Int×Int)
def qlt:Spn:=(true,(0,0))
def qo (s:Spn):Spn:=bif s.1||(!leF s.2.1 s.2.2||(decide (s.2.1=9218868437227405312)||decide (s.2.2=18442240474082181120))) then qlt else (s.1,(nzI s.2.1,nzI s.2.2))
def qlu (s:Spn):Option Spn:=some (qo s)
theorem qqH (s y:Spn) (hg:(d1 Yv).good s) (h:qlu s=some y):∃ n,qnc n s=some y:=by
 obtain ⟨e,lo,hi⟩:=s
 have:=soi h;subst this
 refine ⟨3,?_⟩
 unfold qnc qo nzI zI
 have hz:∀ f:Int,decide (((qD (bK (Int.toNat f)):Nat):Int)=0)=Nat.beq (bK (Int.toNat f)) 0:=fun f=>qfY _
 have w1:IntKind.i64.wrap 1=1:=by decide
 have w2:IntKind.i64.wrap 2=2:=by decide
 simp only [qA,qhB,hz]
 cases e with
 | true=>rfl
 | false =>
  cases leF lo hi with
  | false=>rfl
  | true =>
   cases h1:decide (lo=9218868437227405312) with
   | true=>simp [h1];rfl
   | false =>
    cases h2:decide (hi=18442240474082181120) with
    | true=>simp [h1,h2];rfl
    | false =>
     cases h3:Nat.beq (bK (Int.toNat lo)) 0 <;> cases h4:Nat.beq (bK (Int.toNat hi)) 0 <;> (simp [h1,h2,h3,h4,w1,w2];try rfl)
end
end Su
end
section
namespace Su
open Go Fly
set_option linter.unusedVariables false
noncomputable section
def qeY:(Int×((List Tm)×(Int×(Int×(Bool×(Int×((List Tm)×(Int×Unit))))))))→Option ((Int×((List Tm)×(Int×(Int×(Bool×(Int×((List Tm)×(Int×Unit)))))))) ⊕ (Int×((List Tm)×(Int×(Int×(Bool×(Int×((List Tm)×(Int×Unit))))))))):=fun p1=>(bif (decide ((p1.2.2.2.1<p1.2.2.1))) then
 ((idx p1.2.1 p1.2.2.2.1)).bind fun x2 =>
 some (.inl ((((upS 0 [p1.1,(((YK (Int.toNat (Tm.c x2))):Nat):Int)]):Nat):Int),(p1.2.1,(p1.2.2.1,((IntKind.wrap .i64 (p1.2.2.2.1+1)),(p1.2.2.2.2.1,(p1.2.2.2.2.2.1,(p1.2.2.2.2.2.2.1,(p1.2.2.2.2.2.2.2.1,())))))))))
 else
  some (.inr (p1.1,(p1.2.1,(p1.2.2.1,(p1.2.2.2.1,(p1.2.2.2.2.1,(p1.2.2.2.2.2.1,(p1.2.2.2.2.2.2.1,(p1.2.2.2.2.2.2.2.1,()))))))))))
def qDq  (fu:Nat) (a:Fm):Option Int :=
 (bif (List.any [(a.1,(a.2.1,(a.2.2.1,a.2.2.2)))] (fun z0=>(z0.1||(!(yU z0))))) then
 some ((9218868437227405312:Nat):Int)
 else
  (itP fu (qeY) ((0:Int),(a.2.2.1,((((List.length a.2.2.1):Nat):Int),((0:Int),(a.1,(a.2.1,(a.2.2.1,(a.2.2.2,()))))))))).bind fun x3 =>
  some (((upS 0 [x3.1,x3.2.2.2.2.2.2.2.1]):Nat):Int))
def qcJ (c:Int):Int:=((YK c.toNat:Nat):Int)
def qlv:List Tm→Int→Int
 | [],s=>s
 | t::l,s=>qlv l (upI [s,qcJ t.c])
def radL:{f:Fm→Int // ∀ a,f a=bif okF a then upI [qlv a.2.2.1 0,a.2.2.2] else 9218868437227405312}:=Classical.choice ⟨⟨_,fun _=>rfl⟩⟩
def qjh (a:Fm):Int:=radL.1 a
theorem qji (a:Fm):qjh a=bif okF a then upI [qlv a.2.2.1 0,a.2.2.2] else 9218868437227405312:=radL.2 a
def qdo (a:Fm):Option Int:=bif Jv a.2.2.1 then some (qjh a) else none
theorem qlw (l:List Tm) (hl:l.length≤549755813888) (q:Bool×(Int×(List Tm×(Int×Unit)))):∀ (rest A:List Tm) (s:Int),A++rest=l →
 ∃ n,itP n qeY (s,(l,((l.length:Int),((A.length:Int),q))))=some (qlv rest s,(l,((l.length:Int),((l.length:Int),q))))
 | [],A,s,hA=>by
  rw [List.append_nil] at hA;subst hA
  refine ⟨1,?_⟩
  rw [qA]
  simp only [qeY]
  rw [decide_eq_false (by omega),cond_false];rfl
 | t::rest,A,s,hA=>by
  have hNl:A.length+(rest.length+1)=l.length:=by rw [← hA];simp
  have hg:idx l (A.length:Int)=some t:=by
   rw [jJ,← hA,List.getElem?_append_right (by omega),Nat.sub_self];rfl
  obtain ⟨n,h⟩:=qlw l hl q rest (A++[t]) (upI [s,qcJ t.c]) (by rw [← hA];simp)
  refine ⟨n+1,?_⟩
  rw [qA]
  simp only [qeY]
  rw [decide_eq_true (show (A.length:Int)<(l.length:Int) by omega),cond_true,hg,Option.bind_some,w64 (by omega) (by omega),show ((A.length:Int)+1)=(((A++[t]).length:Nat):Int) by simp]
  exact h
theorem qyC (a:Fm) (y:Int) (hg:(d1 qu).good a) (h:qdo a=some y):∃ n,qDq n a=some y:=by
 obtain ⟨b,m,l,e⟩:=a
 obtain ⟨h1,h2⟩:=qj h
 have:=soi h2;subst this
 have hl:l.length≤549755813888:=Nat.le_of_ble_eq_true h1
 have ha:List.any [((b,(m,(l,e))):Fm)] (fun z0=>(z0.1||(!(yU z0)))) = !okF (b,(m,(l,e))):=by simp [okF]
 obtain ⟨n,q⟩:=qlw l hl (b,(m,(l,(e,())))) l [] 0 rfl
 refine ⟨n,?_⟩
 rw [qji]
 unfold qDq
 simp only []
 rw [ha]
 cases okF (b,(m,(l,e))) with
 | false=>rfl
 | true =>
  rw [Bool.not_true,cond_false,cond_true]
  exact obs q rfl
end
end Su
end
section
namespace Su
open Go Fly
set_option linter.unusedVariables false
noncomputable section
def qt7  (a:Fm):Option Int :=
 ((qdo (a.1,((0:Int),(a.2.2.1,a.2.2.2))))).bind fun x0 =>
 some x0
def aMid  (a:Int) (b:Int):Option Int :=
 some (((jL (Int.toNat (((qqD (Int.toNat a) (Int.toNat 4602678819172646912) 0):Nat):Int)) (Int.toNat (((qqD (Int.toNat b) (Int.toNat 4602678819172646912) 0):Nat):Int)) 0):Nat):Int)
def YD (a:Fm):Int:=qjh (a.1,(0,(a.2.2.1,a.2.2.2)))
def JT (a:Fm):Option Int:=bif Jv a.2.2.1 then some (YD a) else none
theorem qt8 (a:Fm) (y:Int) (hg:(d1 qu).good a) (h:JT a=some y):qt7 a=some y:=by
 obtain ⟨h1,h2⟩:=qj h
 have:=soi h2;subst this
 unfold qt7 qdo
 rw [h1];rfl
def jx (a b:Int):Int:=Qq (yF a 4602678819172646912 0) (yF b 4602678819172646912 0) 0
def qt9 (p:Int×Int):Option Int:=some (jx p.1 p.2)
theorem qyD (p:Int×Int) (y:Int) (hg:(dc (cI .u64) (d1 (cI .u64))).good p) (h:qt9 p=some y):aMid p.1 p.2=some y:=h
end
end Su
end
