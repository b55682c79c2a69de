/-
  What functions of the program compute, in plain Lean, and that the evaluator finds it.
-/
import Derived.Test.YtfckjjffdfkelaaGreatSuSd
import Derived.Test.YtfckjjffdfkelaaGreatNC19
import Derived.Test.YtfckjjffdfkelaaGreatNB10
import Derived.Test.YtfckjjffdfkelaaGreatNC14
set_option maxRecDepth 10000
section
namespace Su
open Go Fly
set_option linter.unusedVariables false
noncomputable section
set_option linter.unusedSimpArgs false
abbrev QG:=List Tm×(List Tm×(Nat×(Bool×(Int×(List Tm×(Int×(Bool×(Int×(List Tm×(Int×(Int×(Bool×(List T×Unit)))))))))))))
def qgE (s:QG) (l m:List Tm) (id p q e:Int) (ok:Bool):Option (QG ⊕ QG) :=
 bif (true&&Nat.beq s.2.2.1 s.2.2.2.2.2.2.2.2.2.2.2.2.2.1.length)&&Nat.ble (s.2.2.2.2.2.2.2.2.2.2.2.2.2.1.length+[T.agg [T.s (.int .i64 id),T.s (.int .u64 (Qq p q 0))]].length) 549755813888 then
  some (.inl (l,(m,((s.2.2.2.2.2.2.2.2.2.2.2.2.2.1++[T.agg [T.s (.int .i64 id),T.s (.int .u64 (Qq p q 0))]]).length,(s.2.2.2.1,(s.2.2.2.2.1,(s.2.2.2.2.2.1,(s.2.2.2.2.2.2.1,(s.2.2.2.2.2.2.2.1,(s.2.2.2.2.2.2.2.2.1,(s.2.2.2.2.2.2.2.2.2.1,(s.2.2.2.2.2.2.2.2.2.2.1,(upI [e,qnb p q],(ok,(s.2.2.2.2.2.2.2.2.2.2.2.2.2.1++[T.agg [T.s (.int .i64 id),T.s (.int .u64 (Qq p q 0))]],())))))))))))))))
 else none
def qaA (s:QG) (l m:List Tm) (id mid x:Int) (c:Bool):Option (QG ⊕ QG) :=
 bif decide (x=0) then qgE s l m id 0 0 s.2.2.2.2.2.2.2.2.2.2.2.1 s.2.2.2.2.2.2.2.2.2.2.2.2.1
 else bif s.2.2.2.2.2.2.2.2.2.2.2.2.1 then qgE s l m id (bif c then yF mid x 0 else 0) (bif c then 0 else yF mid x 0) (upI [s.2.2.2.2.2.2.2.2.2.2.2.1,qcI mid x]) (fI (yF mid x 0))
 else qgE s l m id (bif c then yF mid x 0 else 0) (bif c then 0 else yF mid x 0) (upI [s.2.2.2.2.2.2.2.2.2.2.2.1,qcI mid x]) false
def qjj (s:QG) (l m:List Tm) (id x y:Int):Option (QG ⊕ QG) :=
 bif decide (y=0) then qaA s l m id s.2.2.2.2.2.2.2.2.1 x false
 else bif s.2.2.2.2.2.2.2.2.2.2.2.2.1 then
  (bif decide (x=0) then qgE s l m id (yF s.2.2.2.2.1 y 0) 0 (upI [s.2.2.2.2.2.2.2.2.2.2.2.1,qcI s.2.2.2.2.1 y]) (fI (yF s.2.2.2.2.1 y 0))
   else bif fI (yF s.2.2.2.2.1 y 0) then qgE s l m id (yF s.2.2.2.2.1 y 0) (yF s.2.2.2.2.2.2.2.2.1 x 0) (upI [upI [s.2.2.2.2.2.2.2.2.2.2.2.1,qcI s.2.2.2.2.1 y],qcI s.2.2.2.2.2.2.2.2.1 x]) (fI (yF s.2.2.2.2.2.2.2.2.1 x 0))
   else qgE s l m id (yF s.2.2.2.2.1 y 0) (yF s.2.2.2.2.2.2.2.2.1 x 0) (upI [upI [s.2.2.2.2.2.2.2.2.2.2.2.1,qcI s.2.2.2.2.1 y],qcI s.2.2.2.2.2.2.2.2.1 x]) false)
 else
  (bif decide (x=0) then qgE s l m id (yF s.2.2.2.2.1 y 0) 0 (upI [s.2.2.2.2.2.2.2.2.2.2.2.1,qcI s.2.2.2.2.1 y]) false
   else qgE s l m id (yF s.2.2.2.2.1 y 0) (yF s.2.2.2.2.2.2.2.2.1 x 0) (upI [upI [s.2.2.2.2.2.2.2.2.2.2.2.1,qcI s.2.2.2.2.1 y],qcI s.2.2.2.2.2.2.2.2.1 x]) false)
def tl1 (l:List Tm) (r:List Tm→Option (QG ⊕ QG)):Option (QG ⊕ QG) :=
 bif true&&((true&&decide (1≤((l.length:Nat):Int)))&&decide (((l.length:Nat):Int)≤((l.length:Nat):Int))) then r (List.take (Int.toNat (((l.length:Nat):Int)-1)) (List.drop 1 l)) else none
def qyE (s:QG):Option (QG ⊕ QG):=(idx s.1 0).bind fun x=>(idx s.1 0).bind fun y=>tl1 s.1 fun l=>qaA s l s.2.1 (Tm.id x) s.2.2.2.2.2.2.2.2.1 (Tm.c y) false
def qyF (s:QG):Option (QG ⊕ QG):=(idx s.2.1 0).bind fun x=>(idx s.2.1 0).bind fun y=>tl1 s.2.1 fun m=>qaA s s.1 m (Tm.id x) s.2.2.2.2.1 (Tm.c y) true
def qlx (s:QG):Option (QG ⊕ QG) :=
 bif decide (((s.1.length:Nat):Int)=0) then qyF s
 else (idx s.2.1 0).bind fun x=>(idx s.1 0).bind fun y=>bif decide (Tm.id x<Tm.id y) then qyF s
  else (idx s.1 0).bind fun x=>(idx s.1 0).bind fun y=>(idx s.2.1 0).bind fun z=>tl1 s.1 fun l=>tl1 s.2.1 fun m=>qjj s l m (Tm.id x) (Tm.c y) (Tm.c z)
def qgd (s:QG):Option (QG ⊕ QG) :=
 bif decide (((s.2.1.length:Nat):Int)=0) then qyE s
 else bif decide (0<((s.1.length:Nat):Int)) then (idx s.1 0).bind fun x=>(idx s.2.1 0).bind fun y=>bif decide (Tm.id x<Tm.id y) then qyE s else qlx s
 else qlx s
def yO:QG→Option (QG ⊕ QG):=fun s =>
 bif decide (0<((s.1.length:Nat):Int)) then qgd s else bif decide (0<((s.2.1.length:Nat):Int)) then qgd s
 else some (.inr (s.1,(s.2.1,(s.2.2.1,(s.2.2.2.1,(s.2.2.2.2.1,(s.2.2.2.2.2.1,(s.2.2.2.2.2.2.1,(s.2.2.2.2.2.2.2.1,(s.2.2.2.2.2.2.2.2.1,(s.2.2.2.2.2.2.2.2.2.1,(s.2.2.2.2.2.2.2.2.2.2.1,(s.2.2.2.2.2.2.2.2.2.2.2.1,(s.2.2.2.2.2.2.2.2.2.2.2.2.1,(s.2.2.2.2.2.2.2.2.2.2.2.2.2.1,())))))))))))))))
def qyG (a b:Fm) (r s:Int):Int:=upI [qcI a.2.1 b.2.1,yF (qcJ a.2.1) b.2.2.2 1,yF (qcJ b.2.1) a.2.2.2 1,yF r s 1]
def qjk (fu:Nat) (a b:Fm) (r s:Int) (ok:Bool):Option Fm :=
 (itP fu yO (a.2.2.1,(b.2.2.1,(0,(a.1,(a.2.1,(a.2.2.1,(a.2.2.2,(b.1,(b.2.1,(b.2.2.1,(b.2.2.2,(qyG a b r s,(ok,([],()))))))))))))))).bind fun x =>
 bif !x.2.2.2.2.2.2.2.2.2.2.2.2.1 then some (true,((0:Int),([],(0:Int))))
 else bif true&&Nat.beq x.2.2.1 x.2.2.2.2.2.2.2.2.2.2.2.2.2.1.length then
  ((((((yt x.2.2.2.2.2.2.2.2.2.2.2.2.2.1).bind fun y=>some (y,x.2.2.2.2.2.2.2.2.2.2.2.1)).bind fun y=>some (yF x.2.2.2.2.1 x.2.2.2.2.2.2.2.2.1 0,y)).bind fun y=>some (false,y)).bind fun y=>some (qH y)).bind fun y=>some (y.1,(y.2.1,(y.2.2.1,y.2.2.2))))
 else none
def qua (fu:Nat) (a b:Fm):Option Fm :=
 bif List.any [(a.1,(a.2.1,(a.2.2.1,a.2.2.2))),(b.1,(b.2.1,(b.2.2.1,b.2.2.2)))] (fun z0=>(z0.1||(!(yU z0)))) then some (true,((0:Int),([],(0:Int))))
 else (JT (a.1,(a.2.1,(a.2.2.1,a.2.2.2)))).bind fun r=>(JT (b.1,(b.2.1,(b.2.2.1,b.2.2.2)))).bind fun s =>
  bif jK (bK (Int.toNat r)) then qjk fu a b r s (jK (bK (Int.toNat s))) else qjk fu a b r s false
def JI (ma mb e x y:Int):Int×Int :=
 (Qq (bif decide (y=0) then 0 else yF ma y 0) (bif decide (x=0) then 0 else yF mb x 0) 0,
  upI [bif decide (x=0) then (bif decide (y=0) then e else upI [e,qcI ma y]) else upI [bif decide (y=0) then e else upI [e,qcI ma y],qcI mb x],
   qnb (bif decide (y=0) then 0 else yF ma y 0) (bif decide (x=0) then 0 else yF mb x 0)])
def okD (ma mb x y:Int):Bool:=fI (bif decide (y=0) then 0 else yF ma y 0)&&fI (bif decide (x=0) then 0 else yF mb x 0)
def okE (ma mb e x y:Int):Int×Int:=(bif okD ma mb x y then 0 else 1,e)
def qgF (ma mb:Int) (n:Nat) (l m:List Tm):Bool:=(qh (okE ma mb) n l m 0).1.all fun t=>decide (t.c=0)
theorem qjl {l0 m0 l m:List Tm} {ba bb:Bool} {ma mb ea eb e0:Int} {ta tb:List Tm} {ok0:Bool} {A:List Tm} (hA:A.length+1≤549755813888) (id p q e:Int) (ok:Bool) :
 qgE (l0,(m0,(A.length,(ba,(ma,(ta,(ea,(bb,(mb,(tb,(eb,(e0,(ok0,(A.map vT,())))))))))))))) l m id p q e ok =
  some (.inl (l,(m,((A++[(⟨id,Qq p q 0⟩:Tm)]).length,(ba,(ma,(ta,(ea,(bb,(mb,(tb,(eb,(upI [e,qnb p q],(ok,((A++[(⟨id,Qq p q 0⟩:Tm)]).map vT,()))))))))))))))):=by
 have hb:Nat.ble (A.length+1) 549755813888=true:=Nat.ble_eq_true_of_le hA
 simp only [qgE,List.length_map,qy,Bool.and_true,Bool.true_and,List.length_singleton,hb,cond_true,JR,JS]
theorem qly {l0 m0 l m:List Tm} {ba bb:Bool} {ma mb ea eb e:Int} {ta tb:List Tm} {ok:Bool} {A:List Tm} (hA:A.length+1≤549755813888) (id x:Int) :
 qaA (l0,(m0,(A.length,(ba,(ma,(ta,(ea,(bb,(mb,(tb,(eb,(e,(ok,(A.map vT,())))))))))))))) l m id mb x false =
  some (.inl (l,(m,((A++[(⟨id,(JI ma mb e x 0).1⟩:Tm)]).length,(ba,(ma,(ta,(ea,(bb,(mb,(tb,(eb,((JI ma mb e x 0).2,(ok&&okD ma mb x 0,((A++[(⟨id,(JI ma mb e x 0).1⟩:Tm)]).map vT,()))))))))))))))):=by
 unfold qaA
 simp only [qjl hA,JI,okD,decide_true,cond_true,cond_false,qm9,Bool.true_and]
 cases decide (x=0) <;> cases ok <;> simp only [cond_true,cond_false,qm9,Bool.true_and,Bool.false_and,Bool.and_self]
theorem qlz {l0 m0 l m:List Tm} {ba bb:Bool} {ma mb ea eb e:Int} {ta tb:List Tm} {ok:Bool} {A:List Tm} (hA:A.length+1≤549755813888) (id y:Int) :
 qaA (l0,(m0,(A.length,(ba,(ma,(ta,(ea,(bb,(mb,(tb,(eb,(e,(ok,(A.map vT,())))))))))))))) l m id ma y true =
  some (.inl (l,(m,((A++[(⟨id,(JI ma mb e 0 y).1⟩:Tm)]).length,(ba,(ma,(ta,(ea,(bb,(mb,(tb,(eb,((JI ma mb e 0 y).2,(ok&&okD ma mb 0 y,((A++[(⟨id,(JI ma mb e 0 y).1⟩:Tm)]).map vT,()))))))))))))))):=by
 unfold qaA
 simp only [qjl hA,JI,okD,decide_true,cond_true,cond_false,qm9,Bool.and_true]
 cases decide (y=0) <;> cases ok <;> simp only [cond_true,cond_false,qm9,Bool.true_and,Bool.false_and,Bool.and_self,Bool.and_true]
theorem qnd {l0 m0 l m:List Tm} {ba bb:Bool} {ma mb ea eb e:Int} {ta tb:List Tm} {ok:Bool} {A:List Tm} (hA:A.length+1≤549755813888) (id x y:Int) :
 qjj (l0,(m0,(A.length,(ba,(ma,(ta,(ea,(bb,(mb,(tb,(eb,(e,(ok,(A.map vT,())))))))))))))) l m id x y =
  some (.inl (l,(m,((A++[(⟨id,(JI ma mb e x y).1⟩:Tm)]).length,(ba,(ma,(ta,(ea,(bb,(mb,(tb,(eb,((JI ma mb e x y).2,(ok&&okD ma mb x y,((A++[(⟨id,(JI ma mb e x y).1⟩:Tm)]).map vT,()))))))))))))))):=by
 unfold qjj qaA
 simp only [qjl hA,JI,okD]
 cases decide (y=0) <;> cases decide (x=0) <;> cases ok <;> simp only [cond_true,cond_false,qm9,Bool.true_and,Bool.false_and,Bool.and_self,Bool.and_true] <;>
  (cases fI (yF ma y 0) <;> simp only [cond_true,cond_false,Bool.true_and,Bool.false_and])
theorem qdp {t:Tm} {l:List Tm} {r:List Tm→Option (QG ⊕ QG)}:tl1 (t::l) r=r l:=by
 unfold tl1
 rw [List.length_cons,JQ,hle,yD]
 rfl
theorem qqI {ma mb:Int} {n:Nat} {l m l' m':List Tm} {id x y:Int} (h:∀ (f:Int→Int→Int→Int×Int) (e:Int),qh f (n+1) l m e=jI id (f e x y) (qh f n l' m')):qgF ma mb (n+1) l m=(okD ma mb x y&&qgF ma mb n l' m'):=by
 unfold qgF
 rw [h]
 simp only [jI,okE,List.all_cons]
 cases okD ma mb x y <;> rfl
theorem qlA {ba bb:Bool} {ma mb ea eb:Int} {ta tb:List Tm}:∀ (n:Nat) (l m:List Tm) (e:Int) (ok:Bool) (A:List Tm),l.length+m.length≤n→A.length+n≤549755813888 →
 ∃ fu,itP fu yO (l,(m,(A.length,(ba,(ma,(ta,(ea,(bb,(mb,(tb,(eb,(e,(ok,(A.map vT,()))))))))))))))=some ([],([],((A++(qh (JI ma mb) n l m e).1).length,(ba,(ma,(ta,(ea,(bb,(mb,(tb,(eb,((qh (JI ma mb) n l m e).2,(ok&&qgF ma mb n l m,((A++(qh (JI ma mb) n l m e).1).map vT,()))))))))))))))
 | 0,l,m,e,ok,A,h,hA=>by
  have h1:l=[]:=List.length_eq_zero_iff.1 (by omega)
  have h2:m=[]:=List.length_eq_zero_iff.1 (by omega)
  subst h1 h2
  refine ⟨1,?_⟩
  rw [qA]
  simp only [yO,List.length_nil,hp0,cond_false,Option.bind_some,qh,List.append_nil,qgF,List.all_nil,Bool.and_true]
 | n+1,l,m,e,ok,A,h,hA=>by
  have go:∀ (l' m':List Tm) (id x y:Int),l'.length+m'.length≤n→(∀ (f:Int→Int→Int→Int×Int) (e:Int),qh f (n+1) l m e=jI id (f e x y) (qh f n l' m')) →
   yO (l,(m,(A.length,(ba,(ma,(ta,(ea,(bb,(mb,(tb,(eb,(e,(ok,(A.map vT,()))))))))))))))=some (.inl (l',(m',((A++[(⟨id,(JI ma mb e x y).1⟩:Tm)]).length,(ba,(ma,(ta,(ea,(bb,(mb,(tb,(eb,((JI ma mb e x y).2,(ok&&okD ma mb x y,((A++[(⟨id,(JI ma mb e x y).1⟩:Tm)]).map vT,()))))))))))))))) →
   ∃ fu,itP fu yO (l,(m,(A.length,(ba,(ma,(ta,(ea,(bb,(mb,(tb,(eb,(e,(ok,(A.map vT,()))))))))))))))=some ([],([],((A++(qh (JI ma mb) (n+1) l m e).1).length,(ba,(ma,(ta,(ea,(bb,(mb,(tb,(eb,((qh (JI ma mb) (n+1) l m e).2,(ok&&qgF ma mb (n+1) l m,((A++(qh (JI ma mb) (n+1) l m e).1).map vT,())))))))))))))):=by
   intro l' m' id x y hl' hm hs
   obtain ⟨fu,q⟩:=qlA n l' m' (JI ma mb e x y).2 (ok&&okD ma mb x y) (A++[⟨id,(JI ma mb e x y).1⟩]) hl' (by simp;omega)
   refine ⟨fu+1,?_⟩
   rw [qA,hs,hm,qqI hm]
   simp only [Option.bind_some,jI]
   rw [q]
   simp only [List.append_assoc,List.singleton_append,Bool.and_assoc]
  have hA1:A.length+1≤549755813888:=by omega
  match l,m,h with
  | [],[],h =>
   refine ⟨1,?_⟩
   rw [qA]
   simp only [yO,List.length_nil,hp0,cond_false,Option.bind_some,qh,List.append_nil,qgF,List.all_nil,Bool.and_true]
  | x::l,[],h =>
   simp only [List.length_cons,List.length_nil] at h
   refine go l [] x.id x.c 0 (by simp;omega) (fun f e=>rfl) ?_
   simp only [yO,qgd,qyE,List.length_cons,List.length_nil,yG,hz0,cond_true,QX,Option.bind_some]
   rw [qdp,qly hA1]
  | [],y::m,h =>
   simp only [List.length_cons,List.length_nil] at h
   refine go [] m y.id 0 y.c (by simp;omega) (fun f e=>rfl) ?_
   simp only [yO,qgd,qlx,qyF,List.length_cons,List.length_nil,yG,hz0,hnz,hp0,cond_true,cond_false,QX,Option.bind_some]
   rw [qdp,qlz hA1]
  | x::l,y::m,h =>
   simp only [List.length_cons] at h
   cases h1:decide (x.id<y.id) with
   | true =>
    refine go l (y::m) x.id x.c 0 (by simp;omega) (fun f e=>by simp only [qh,h1,cond_true]) ?_
    simp only [yO,qgd,qyE,List.length_cons,yG,hnz,cond_true,cond_false,QX,Option.bind_some,h1]
    rw [qdp,qly hA1]
   | false =>
    cases h2:decide (y.id<x.id) with
    | true =>
     refine go (x::l) m y.id 0 y.c (by simp;omega) (fun f e=>by simp only [qh,h1,h2,cond_true,cond_false]) ?_
     simp only [yO,qgd,qlx,qyF,List.length_cons,yG,hnz,cond_true,cond_false,QX,Option.bind_some,h1,h2]
     rw [qdp,qlz hA1]
    | false =>
     refine go l m x.id x.c y.c (by omega) (fun f e=>by simp only [qh,h1,h2,cond_false]) ?_
     simp only [yO,qgd,qlx,List.length_cons,yG,hnz,cond_true,cond_false,QX,Option.bind_some,h1,h2]
     rw [qdp,qdp,qnd hA1]
def qne (a b:Fm):Fm :=
 bif okF a&&okF b then
  (bif (fI (YD a)&&fI (YD b))&&qgF a.2.1 b.2.1 (a.2.2.1.length+b.2.2.1.length) a.2.2.1 b.2.2.1 then
    qH (false,(yF a.2.1 b.2.1 0,(qh (JI a.2.1 b.2.1) (a.2.2.1.length+b.2.2.1.length) a.2.2.1 b.2.2.1 (qyG a b (YD a) (YD b)))))
   else qbK)
 else qbK
def qub:{f:Fm→Fm→Fm // ∀ a b,f a b=qne a b}:=Classical.choice ⟨⟨_,fun _ _=>rfl⟩⟩
def qA8 (a b:Fm):Fm:=qub.1 a b
theorem quc (a b:Fm):qA8 a b=qne a b:=qub.2 a b
def qoV (p:Fm×Fm):Option Fm:=bif Nat.ble (p.1.2.2.1.length+p.2.2.2.1.length) 549755813888 then some (qA8 p.1 p.2) else none
theorem qud (p:Fm×Fm) (y:Fm) (hg:(dc qu (d1 qu)).good p) (h:qoV p=some y):∃ n,qua n p.1 p.2=some y:=by
 obtain ⟨a,b⟩:=p
 obtain ⟨h1,h2⟩:=qj h
 have:=soi h2;subst this
 have hl:a.2.2.1.length+b.2.2.1.length≤549755813888:=Nat.le_of_ble_eq_true h1
 have ha:List.any [(a.1,(a.2.1,(a.2.2.1,a.2.2.2))),(b.1,(b.2.1,(b.2.2.1,b.2.2.2)))] (fun z0=>(z0.1||(!(yU z0)))) = !(okF a&&okF b):=by simp [okF]
 rw [quc]
 unfold qua qne
 simp only []
 rw [ha]
 cases okF a&&okF b with
 | false=>exact ⟨0,rfl⟩
 | true =>
  rw [Bool.not_true]
  change ∃ n,(JT _).bind _=some (bif _ then _ else _)
  have ra:JT (a.1,(a.2.1,(a.2.2.1,a.2.2.2)))=some (YD a):=by
   unfold JT Jv
   simp only []
   rw [Nat.ble_eq_true_of_le (by omega),cond_true]
  have rb:JT (b.1,(b.2.1,(b.2.2.1,b.2.2.2)))=some (YD b):=by
   unfold JT Jv
   simp only []
   rw [Nat.ble_eq_true_of_le (by omega),cond_true]
  have hf:∀ f:Int,jK (bK (Int.toNat f))=fI f:=fun _=>rfl
  have run:∀ ok:Bool,∃ n,qjk n a b (YD a) (YD b) ok=some (bif ok&&qgF a.2.1 b.2.1 (a.2.2.1.length+b.2.2.1.length) a.2.2.1 b.2.2.1 then
   qH (false,(yF a.2.1 b.2.1 0,(qh (JI a.2.1 b.2.1) (a.2.2.1.length+b.2.2.1.length) a.2.2.1 b.2.2.1 (qyG a b (YD a) (YD b))))) else qbK):=fun ok=>by
   obtain ⟨n,q⟩:=qlA (ba:=a.1) (bb:=b.1) (ma:=a.2.1) (mb:=b.2.1) (ea:=a.2.2.2) (eb:=b.2.2.2) (ta:=a.2.2.1) (tb:=b.2.2.1) _ a.2.2.1 b.2.2.1 (qyG a b (YD a) (YD b)) ok [] (Nat.le_refl _) (by simpa using hl)
   refine ⟨n,?_⟩
   unfold qjk
   refine obs q ?_
   simp only [List.nil_append]
   cases ok&&qgF a.2.1 b.2.1 (a.2.2.1.length+b.2.2.1.length) a.2.2.1 b.2.2.1 with
   | false=>rfl
   | true =>
    simp only [Bool.not_true,cond_false,List.length_map,qy,Bool.and_true,cond_true]
    exact obs (obs (obs (obs (obs (jR _) rfl) rfl) rfl) rfl) rfl
  cases hr:fI (YD a) with
  | true =>
   obtain ⟨n,q⟩:=run (fI (YD b))
   refine ⟨n,obs ra (obs rb ?_)⟩
   rw [hf,hf,hr,cond_true,q,Bool.true_and];rfl
  | false =>
   obtain ⟨n,q⟩:=run false
   refine ⟨n,obs ra (obs rb ?_)⟩
   rw [hf,hr,cond_false,q,Bool.false_and];rfl
end
end Su
end
section
namespace Su
open Go Fly
set_option linter.unusedVariables false
noncomputable section
def que  (a:Fm):Option (Bool×(Int×Int)) :=
 (bif (List.any [(a.1,(a.2.1,(a.2.2.1,a.2.2.2)))] (fun z0=>(z0.1||(!(yU z0))))) then
 some ((qo (false,(((18442240474082181120:Nat):Int),((9218868437227405312:Nat):Int)))).1,((qo (false,(((18442240474082181120:Nat):Int),((9218868437227405312:Nat):Int)))).2.1,(qo (false,(((18442240474082181120:Nat):Int),((9218868437227405312:Nat):Int)))).2.2))
 else
  ((qdo (a.1,(a.2.1,(a.2.2.1,a.2.2.2))))).bind fun x1 =>
  some ((qo (false,((((jL (Int.toNat a.2.1) (Int.toNat (((jU (Int.toNat x1)):Nat):Int)) 2):Nat):Int),(((jL (Int.toNat a.2.1) (Int.toNat x1) 1):Nat):Int)))).1,((qo (false,((((jL (Int.toNat a.2.1) (Int.toNat (((jU (Int.toNat x1)):Nat):Int)) 2):Nat):Int),(((jL (Int.toNat a.2.1) (Int.toNat x1) 1):Nat):Int)))).2.1,(qo (false,((((jL (Int.toNat a.2.1) (Int.toNat (((jU (Int.toNat x1)):Nat):Int)) 2):Nat):Int),(((jL (Int.toNat a.2.1) (Int.toNat x1) 1):Nat):Int)))).2.2)))
set_option linter.unusedSimpArgs false
def Z4 (a:Fm):Spn:=bif okF a then qo (false,(Qq a.2.1 (QW (qjh a)) 2,Qq a.2.1 (qjh a) 1)) else (false,(18442240474082181120,9218868437227405312))
def Ql (a:Fm):Option Spn:=bif Jv a.2.2.1 then some (Z4 a) else none
theorem quf (a:Fm) (y:Spn) (hg:(d1 qu).good a) (h:Ql a=some y):que a=some y:=by
 obtain ⟨b,m,l,r⟩:=a
 obtain ⟨h1,h2⟩:=qj h
 have:=soi h2;subst this
 have h1:Jv l=true:=h1
 have ha:List.any [((b,(m,(l,r))):Fm)] (fun z0=>(z0.1||(!(yU z0)))) = !okF (b,(m,(l,r))):=by simp [okF]
 unfold que Z4 qdo
 simp only []
 rw [ha]
 cases okF (b,(m,(l,r))) with
 | false=>rfl
 | true =>
  rw [Bool.not_true,cond_false,cond_true,h1,cond_true];rfl
end
end Su
end
section
namespace Su
open Go Fly
set_option linter.unusedVariables false
noncomputable section
end
end Su
end
section
namespace Su
open Go Fly
set_option linter.unusedVariables false
noncomputable section
def mkQ (p:Int) (q:Nat):Rt:=yB (decide (p<0)) p.natAbs q
def sv (a:Rt):Int:=bif a.1 then -(nu a:Int) else (nu a:Int)
theorem qcK (neg:Bool) (d:Nat):yB neg 0 d=(false,([],ofN 1)):=by rw [JP];unfold qeh;rw [if_pos (.inl rfl)]
theorem qdq (neg:Bool) (n d:Nat) {k:Nat} (hk:0<k):yB neg (n*k) (d*k)=yB neg n d:=by
 rw [JP,JP]
 unfold qeh
 by_cases h:n=0∨d=0
 · rw [if_pos h,if_pos (by rcases h with h | h <;> simp [h])]
 · have h1:n≠0:=fun e=>h (.inl e)
   have h2:d≠0:=fun e=>h (.inr e)
   have h3 : ¬ (n*k=0∨d*k=0):=by
    intro e
    rcases e with e | e
    · rcases Nat.mul_eq_zero.1 e with e | e <;> omega
    · rcases Nat.mul_eq_zero.1 e with e | e <;> omega
   rw [if_neg h,if_neg h3,Nat.gcd_mul_right,Nat.mul_div_mul_right _ _ hk,Nat.mul_div_mul_right _ _ hk]
theorem qhC (neg:Bool) (n:Nat) {d:Nat} (hd:0<d):∃ g,0<g∧n=g*nu (yB neg n d)∧d=g*de (yB neg n d)∧(yB neg n d).1=(neg&&decide (n≠0)):=by
 by_cases h:n=0
 · subst h
   rw [qcK]
   refine ⟨d,hd,?_,?_,by simp⟩
   · show 0=d*qa [];simp [qa]
   · show d=d*qa (ofN 1);rw [valN_ofN];omega
 · rw [JP]
   unfold qeh
   rw [if_neg (by omega)]
   refine ⟨Nat.gcd n d,Nat.gcd_pos_of_pos_right _ hd,?_,?_,by simp [h]⟩
   · show n=_*qa (ofN _);rw [valN_ofN];exact (Nat.mul_div_cancel' (Nat.gcd_dvd_left _ _)).symm
   · show d=_*qa (ofN _);rw [valN_ofN];exact (Nat.mul_div_cancel' (Nat.gcd_dvd_right _ _)).symm
theorem yP (p:Int) (q:Nat) {k:Nat} (hk:0<k):mkQ (p*k) (q*k)=mkQ p q:=by
 unfold mkQ
 have e1:(p*(k:Int)).natAbs=p.natAbs*k:=by rw [Int.natAbs_mul];rfl
 have e2:decide (p*(k:Int)<0)=decide (p<0):=by
  have hk':(0:Int)<k:=by omega
  by_cases h:p<0
  · rw [decide_eq_true h,decide_eq_true (Int.mul_neg_of_neg_of_pos h hk')]
  · rw [decide_eq_false h,decide_eq_false]
    have:=Int.mul_nonneg (a:=p) (b:=k) (by omega) (by omega)
    omega
 rw [e1,e2,qdq _ _ _ hk]
theorem QV (p:Int) {q:Nat} (hq:0<q):∃ g:Nat,0<g∧p=g*sv (mkQ p q)∧q=g*de (mkQ p q)∧0<de (mkQ p q):=by
 obtain ⟨g,h0,h1,h2,h3⟩:=qhC (decide (p<0)) p.natAbs hq
 refine ⟨g,h0,?_,h2,Nat.pos_of_ne_zero fun e=>?_⟩
 · unfold sv
   have h4:(mkQ p q).1=decide (p<0):=by
    show (yB _ _ _).1=_
    rw [h3]
    by_cases h:p<0
    · rw [decide_eq_true h,decide_eq_true (by omega)];rfl
    · rw [decide_eq_false h];rfl
   rw [h4]
   have h5:p.natAbs=g*nu (mkQ p q):=h1
   have h6:((g*nu (mkQ p q):Nat):Int)=(g:Int)*(nu (mkQ p q):Int):=by simp
   by_cases h:p<0
   · rw [decide_eq_true h,cond_true,Int.mul_neg,← h6,← h5];omega
   · rw [decide_eq_false h,cond_false,← h6,← h5];omega
 · have h2':q=g*de (mkQ p q):=h2
   rw [e] at h2';omega
theorem YE (neg:Bool) (n d:Nat):yB neg n d=mkQ (bif neg then -(n:Int) else (n:Int)) d:=by
 unfold mkQ
 by_cases h:n=0
 · subst h
   cases neg <;> simp [qcK]
 · cases neg with
   | true=>rw [cond_true,decide_eq_true (by omega),Int.natAbs_neg,Int.natAbs_natCast]
   | false=>rw [cond_false,decide_eq_false (by omega),Int.natAbs_natCast]
theorem qyH (a:Rt):yE a=mkQ (sv a) (de a):=YE _ _ _
theorem qDr (p:Int) {q:Nat} (hq:0<q):mkQ (sv (mkQ p q)) (de (mkQ p q))=mkQ p q:=by
 obtain ⟨g,h0,h1,h2,h3⟩:=QV p hq
 have:=yP (sv (mkQ p q)) (de (mkQ p q)) h0
 rw [Int.mul_comm,← h1,Nat.mul_comm,← h2] at this
 exact this.symm
theorem ZW (p:Int) {q:Nat} (hq:0<q):yE (mkQ p q)=mkQ p q:=by rw [qyH,qDr p hq]
theorem qyI (b c:Bool) (n m d:Nat):(bif decide (b=c) then yB b (n+m) d else bif decide (m≤n) then yB b (n-m) d else yB c (m-n) d)=mkQ ((bif b then -(n:Int) else (n:Int))+(bif c then -(m:Int) else (m:Int))) d:=by
 cases b <;> cases c
 · rw [decide_eq_true rfl,cond_true,YE];congr 1
 · rw [decide_eq_false (by simp),cond_false]
   by_cases h:m≤n
   · rw [decide_eq_true h,cond_true,YE];congr 1;simp only [cond_false,cond_true];omega
   · rw [decide_eq_false h,cond_false,YE];congr 1;simp only [cond_false,cond_true];omega
 · rw [decide_eq_false (by simp),cond_false]
   by_cases h:m≤n
   · rw [decide_eq_true h,cond_true,YE];congr 1;simp only [cond_false,cond_true];omega
   · rw [decide_eq_false h,cond_false,YE];congr 1;simp only [cond_false,cond_true];omega
 · rw [decide_eq_true rfl,cond_true,YE];congr 1;simp only [cond_true];omega
theorem qoW (b:Bool) (n k:Nat):(bif b then -((n*k:Nat):Int) else ((n*k:Nat):Int))=(bif b then -(n:Int) else (n:Int))*k:=by
 cases b
 · simp
 · simp only [cond_true,Int.neg_mul];simp
theorem qyJ (x y:Rt):qm0 x y=mkQ (sv x*de y+sv y*de x) (de x*de y):=by
 unfold qm0
 rw [qyI,qoW,qoW];rfl
theorem qoX (p r:Int) {q s:Nat} (hq:0<q) (hs:0<s):qm1 (mkQ p q) (mkQ r s)=mkQ (p*s+r*q) (q*s):=by
 unfold qm1
 rw [ZW p hq,ZW r hs,qyJ]
 obtain ⟨g,h0,h1,h2,h3⟩:=QV p hq
 obtain ⟨h,k0,k1,k2,k3⟩:=QV r hs
 generalize mkQ p q=x at *
 generalize mkQ r s=y at *
 rw [← yP _ _ (Nat.mul_pos h0 k0)]
 have e1:de x*de y*(g*h)=q*s:=by rw [h2,k2];grind
 have e2:(sv x*de y+sv y*de x)*((g*h:Nat):Int)=p*s+r*q:=by
  have a2:(q:Int)=g*de x:=by rw [h2];simp
  have b2:(s:Int)=h*de y:=by rw [k2];simp
  rw [a2,b2,h1,k1]
  simp only [Int.natCast_mul]
  grind
 rw [e1,e2]
theorem qyK (p:Int) {q:Nat} (hq:0<q):qlh (mkQ p q)=mkQ (-p) q:=by
 unfold qlh
 rw [YE]
 obtain ⟨g,h0,h1,h2,h3⟩:=QV p hq
 have e:(bif !(mkQ p q).1 then -(qa (mkQ p q).2.1:Int) else (qa (mkQ p q).2.1:Int)) = -(sv (mkQ p q)):=by
  unfold sv nu
  cases (mkQ p q).1 <;> simp
 rw [e]
 generalize mkQ p q=x at *
 rw [← yP _ _ h0,h1]
 have e1:qa x.2.2*g=q:=by rw [h2,Nat.mul_comm];rfl
 rw [e1]
 congr 1
 rw [Int.neg_mul,Int.mul_comm]
theorem qyL (p r:Int) {q s:Nat} (hq:0<q) (hs:0<s):qep (mkQ p q) (mkQ r s)=mkQ (p*s-r*q) (q*s):=by
 unfold qep
 rw [qyK r hs,qoX p (-r) hq hs,Int.neg_mul];rfl
theorem qyM (p:Int) {q:Nat} (hq:0<q):qmZ (mkQ p q)=mkQ (p.natAbs:Int) q:=by
 unfold qmZ
 rw [YE]
 obtain ⟨g,h0,h1,h2,h3⟩:=QV p hq
 have e:p.natAbs=g*nu (mkQ p q):=by
  have h5:p.natAbs=(g*sv (mkQ p q)).natAbs:=congrArg Int.natAbs h1
  rw [h5,Int.natAbs_mul,Int.natAbs_natCast]
  congr 1
  unfold sv
  generalize mkQ p q=x
  cases x.1 <;> simp
 generalize mkQ p q=x at *
 rw [e,← yP _ _ h0]
 have e1:qa x.2.2*g=q:=by rw [h2,Nat.mul_comm];rfl
 rw [e1,cond_false]
 congr 1
 simp only [Int.natCast_mul]
 rw [Int.mul_comm];rfl
theorem qoY (p r:Int) {q s:Nat} (hq:0<q) (hs:0<s):qgC (mkQ p q) (mkQ r s)=mkQ (p*r) (q*s):=by
 unfold qgC
 rw [ZW p hq,ZW r hs,YE]
 obtain ⟨g,h0,h1,h2,h3⟩:=QV p hq
 obtain ⟨h,k0,k1,k2,k3⟩:=QV r hs
 generalize mkQ p q=x at *
 generalize mkQ r s=y at *
 have e:(bif !decide (x.1=y.1) then -((nu x*nu y:Nat):Int) else ((nu x*nu y:Nat):Int))=sv x*sv y:=by
  unfold sv
  cases x.1 <;> cases y.1 <;> simp [Int.neg_mul,Int.mul_neg]
 rw [e,← yP _ _ (Nat.mul_pos h0 k0)]
 have e1:de x*de y*(g*h)=q*s:=by rw [h2,k2];grind
 have e2:sv x*sv y*((g*h:Nat):Int)=p*r:=by
  rw [h1,k1]
  simp only [Int.natCast_mul]
  grind
 rw [e1,e2]
def qeq (p r:Int):Int:=if p<r then -1 else if p=r then 0 else 1
theorem qnf (p r:Int) {k:Nat} (hk:0<k):qeq (p*k) (r*k)=qeq p r:=by
 unfold qeq
 have hk':(0:Int)<k:=by omega
 have e1:p*(k:Int)<r*k↔p<r:=Int.mul_lt_mul_right hk'
 have e2:p*(k:Int)=r*k↔p=r:=Int.mul_eq_mul_right_iff (by omega)
 simp only [e1,e2]
theorem qug (a b:Nat):JD a b=qeq a b:=by
 unfold JD qeq
 simp only [Int.ofNat_lt,Int.ofNat_inj]
theorem qDs (x y:Rt) (hx:0<de x) (hy:0<de y) (zx:x.1=true→nu x≠0) (zy:y.1=true→nu y≠0):rcm x y=qeq (sv x*de y) (sv y*de x):=by
 unfold rcm sv
 have hx':(0:Int)<de x:=by omega
 have hy':(0:Int)<de y:=by omega
 have p1:(0:Int)≤nu x*de y:=Int.mul_nonneg (by omega) (by omega)
 have p2:(0:Int)≤nu y*de x:=Int.mul_nonneg (by omega) (by omega)
 cases hxs:x.1 <;> cases hys:y.1
 · simp only [decide_true,Bool.not_true,cond_false,qug,Int.natCast_mul]
 · have h2:0<nu y:=Nat.pos_of_ne_zero (zy hys)
   have p3:(0:Int)<nu y*de x:=Int.mul_pos (by omega) hx'
   simp only [cond_true,cond_false,Int.neg_mul]
   unfold qeq
   rw [if_neg (by omega),if_neg (by omega)];rfl
 · have h2:0<nu x:=Nat.pos_of_ne_zero (zx hxs)
   have p3:(0:Int)<nu x*de y:=Int.mul_pos (by omega) hy'
   simp only [cond_true,cond_false,Int.neg_mul]
   unfold qeq
   rw [if_pos (by omega)];rfl
 · simp only [decide_true,Bool.not_true,cond_false,cond_true,qug,Int.natCast_mul,Int.neg_mul]
   generalize (nu x:Int)*de y=a
   generalize (nu y:Int)*de x=b
   unfold qeq
   split
   · rw [if_neg (by omega),if_neg (by omega)];rfl
   · split
     · rw [if_neg (by omega),if_pos (by omega)];rfl
     · rw [if_pos (by omega)]
theorem qoZ (p:Int) {q:Nat} (hq:0<q):(mkQ p q).1=true→nu (mkQ p q)≠0:=by
 intro h e
 obtain ⟨g,h0,h1,h2,h3⟩:=qhC (decide (p<0)) p.natAbs hq
 have h4:(mkQ p q).1=(decide (p<0)&&decide (p.natAbs≠0)):=h3
 have h5:p.natAbs=g*nu (mkQ p q):=h1
 rw [e,Nat.mul_zero] at h5
 rw [h5] at h4
 rw [h4] at h
 simp at h
theorem qjm (p r:Int) {q s:Nat} (hq:0<q) (hs:0<s):qdj (mkQ p q) (mkQ r s)=qeq (p*s) (r*q):=by
 unfold qdj
 rw [ZW p hq,ZW r hs]
 have z1:=qoZ p hq
 have z2:=qoZ r hs
 obtain ⟨g,h0,h1,h2,h3⟩:=QV p hq
 obtain ⟨h,k0,k1,k2,k3⟩:=QV r hs
 generalize mkQ p q=x at *
 generalize mkQ r s=y at *
 rw [qDs x y h3 k3 z1 z2,← qnf _ _ (Nat.mul_pos h0 k0)]
 have a2:(q:Int)=g*de x:=by rw [h2];simp
 have b2:(s:Int)=h*de y:=by rw [k2];simp
 have e1:sv x*de y*((g*h:Nat):Int)=p*s:=by
  rw [b2,h1];simp only [Int.natCast_mul];grind
 have e2:sv y*de x*((g*h:Nat):Int)=r*q:=by
  rw [a2,k1];simp only [Int.natCast_mul];grind
 rw [e1,e2]
structure Sz (a:Rt) (k:Nat):Prop where
 wn:Wd a.2.1
 wd:Wd a.2.2
 ln:a.2.1.length≤k
 ld:a.2.2.length≤k
theorem qaB {neg:Bool} {n d k:Nat} (h1:n<4294967296^k) (h2:d<4294967296^k) (hk:1≤k):Sz (yB neg n d) k:=by
 rw [JP]
 unfold qeh
 by_cases h:n=0∨d=0
 · rw [if_pos h]
   exact ⟨.nil,ZM 1,Nat.zero_le _,Nat.le_trans (Jn (v:=1) (k:=1) (by decide)) hk⟩
 · rw [if_neg h]
   exact ⟨ZM _,ZM _,Jn (Nat.lt_of_le_of_lt (Nat.div_le_self _ _) h1),Jn (Nat.lt_of_le_of_lt (Nat.div_le_self _ _) h2)⟩
theorem Sz.nu {a:Rt} {k:Nat} (h:Sz a k):Su.nu a<4294967296^k:=Nat.lt_of_lt_of_le (jg _ h.wn) (Nat.pow_le_pow_right (by omega) h.ln)
theorem Sz.de {a:Rt} {k:Nat} (h:Sz a k):Su.de a<4294967296^k:=Nat.lt_of_lt_of_le (jg _ h.wd) (Nat.pow_le_pow_right (by omega) h.ld)
theorem Sz.mono {a:Rt} {k m:Nat} (h:Sz a k) (hm:k≤m):Sz a m:=⟨h.wn,h.wd,Nat.le_trans h.ln hm,Nat.le_trans h.ld hm⟩
theorem Sz.ok4 {a:Rt} {k:Nat} (h:Sz a k) (hk:k≤400000):Su.ok4 a=true:=by
 unfold Su.ok4
 rw [Nat.ble_eq_true_of_le (Nat.le_trans h.ln hk),Nat.ble_eq_true_of_le (Nat.le_trans h.ld hk)];rfl
theorem Sz.okRt {a:Rt} {k:Nat} (h:Sz a k) (hk:k≤1000000):Su.okRt a=true:=by
 unfold Su.okRt okL
 rw [Nat.ble_eq_true_of_le (Nat.le_trans h.ln hk),Nat.ble_eq_true_of_le (Nat.le_trans h.ld hk)];rfl
theorem qa4 {a:Rt} {k:Nat} (h:Sz a k) (hk:1≤k):Sz (yE a) k:=qaB h.nu h.de hk
theorem qyN {a:Rt} {k:Nat} (h:Sz a k) (hk:1≤k):Sz (qlh a) k:=qaB h.nu h.de hk
theorem qyO {a:Rt} {k:Nat} (h:Sz a k) (hk:1≤k):Sz (qmZ a) k:=qaB h.nu h.de hk
theorem qcL {a b k m:Nat} (h1:a<4294967296^k) (h2:b<4294967296^m):a*b<4294967296^(k+m):=by
 rw [Nat.pow_add];exact Nat.mul_lt_mul'' h1 h2
theorem qyP {x y:Rt} {k m:Nat} (h:Sz x k) (h':Sz y m):Sz (qm0 x y) (k+m+1):=by
 have p1:=qcL h.nu h'.de
 have p2:=qcL h.de h'.nu
 have p3:=qcL h.de h'.de
 rw [Nat.mul_comm] at p2
 have p4:4294967296^(k+m+1)=4294967296^(k+m)*4294967296:=Nat.pow_succ ..
 unfold qm0
 generalize nu x*de y=A at *
 generalize nu y*de x=B at *
 generalize de x*de y=C at *
 generalize 4294967296^(k+m)=P at *
 cases decide (x.1=y.1) with
 | true=>exact qaB (by omega) (by omega) (by omega)
 | false =>
  cases decide (B≤A) with
  | true=>exact qaB (by omega) (by omega) (by omega)
  | false=>exact qaB (by omega) (by omega) (by omega)
theorem qyQ {a b:Rt} {k m:Nat} (h:Sz a k) (h':Sz b m) (hk:1≤k) (hm:1≤m):Sz (qm1 a b) (k+m+1):=qyP (qa4 h hk) (qa4 h' hm)
theorem qyR {a b:Rt} {k m:Nat} (h:Sz a k) (h':Sz b m) (hk:1≤k) (hm:1≤m):Sz (qep a b) (k+m+1):=qyQ h (qyN h' hm) hk hm
theorem qlB {p:Int} {q k:Nat} (h1:p.natAbs<4294967296^k) (h2:q<4294967296^k) (hk:1≤k):Sz (mkQ p q) k:=qaB h1 h2 hk
@[irreducible] def EX:Nat:=1074
theorem quh:EX=1074:=by unfold EX;rfl
@[irreducible] def BX:Nat:=2098
theorem qui:BX=2098:=by unfold BX;rfl
@[irreducible] def QD:Nat:=2^EX
theorem qo0:QD=2^EX:=by unfold QD;rfl
theorem qge:0<QD:=by rw [qo0];exact Nat.two_pow_pos _
def fvK (b:Bool) (k:Nat):Int:=bif jK k then (bif b then -(kV k:Int) else (kV k:Int)) else 0
def fv (f:Nat):Int:=fvK (bS f) (bK f)
theorem qFF (k:Nat):kM k<9007199254740992:=by unfold kM;split <;> omega
theorem JU (f:Nat):ZU f=mkQ (fv f) QD:=by
 unfold ZU fv fvK
 rw [qtn]
 unfold qCW spM spE
 generalize bS f=b
 generalize bK f=k
 cases hf:jK k with
 | false =>
  simp only [cond_false,Bool.false_and]
  rw [if_neg (by omega)]
  show yB b _ _=_
  unfold mkQ
  simp [qcK]
 | true =>
  have hk:=jH.1 hf
  simp only [cond_true,Bool.true_and]
  by_cases h0:k=0
  · subst h0
    rw [show Nat.beq 0 0=true from rfl]
    simp only [Bool.not_true,cond_false]
    rw [if_neg (by omega)]
    have e1:kV 0=0:=rfl
    have e2:kM 0=0:=rfl
    rw [e1,e2]
    unfold mkQ
    cases b <;> simp [qcK]
  · have hb:Nat.beq k 0=false:=by
     cases h:Nat.beq k 0 with
     | false=>rfl
     | true=>exact absurd (Nat.eq_of_beq_eq_true h) h0
    rw [hb]
    simp only [Bool.not_false,cond_true]
    have hE:kE k≤2045:=by unfold kE;omega
    rw [if_neg (by omega)]
    show yB b (Int.toNat (kM k:Int)*2^(max ((kE k:Int)-1074) 0).toNat) (2^(max (-((kE k:Int)-1074)) 0).toNat)=_
    rw [Int.toNat_natCast,← YE]
    unfold kV
    rw [qo0]
    have hX:=quh
    by_cases h:EX≤kE k
    · have e1:(max ((kE k:Int)-1074) 0).toNat=kE k-EX:=by omega
      have e2:(max (-((kE k:Int)-1074)) 0).toNat=0:=by omega
      rw [e1,e2,← qdq b _ _ (Nat.two_pow_pos EX),Nat.mul_assoc,← Nat.pow_add,← Nat.pow_add,Nat.sub_add_cancel h,Nat.zero_add]
    · have e1:(max ((kE k:Int)-1074) 0).toNat=0:=by omega
      have e2:(max (-((kE k:Int)-1074)) 0).toNat=EX-kE k:=by omega
      rw [e1,e2,← qdq b _ _ (Nat.two_pow_pos (kE k)),Nat.mul_assoc,← Nat.pow_add,← Nat.pow_add,Nat.sub_add_cancel (by omega),Nat.zero_add]
theorem qqJ {k:Nat} (h:k≤9218868437227405311):kV k<2^BX:=by
 have h1:kM k<2^53:=qFF k
 have h2:kE k+53≤BX:=by rw [qui];unfold kE;omega
 unfold kV
 have h3:=Nat.mul_lt_mul_of_pos_right h1 (Nat.two_pow_pos (kE k))
 rw [← Nat.pow_add] at h3
 exact Nat.lt_of_lt_of_le h3 (Nat.pow_le_pow_right (by omega) (by omega))
theorem qjn (f:Nat):(fv f).natAbs<2^BX:=by
 unfold fv fvK
 cases hf:jK (bK f) with
 | false=>exact Nat.two_pow_pos _
 | true =>
  have:=qqJ (jH.1 hf)
  simp only [cond_true]
  cases bS f
  · simpa using this
  · simpa using this
theorem qjo (f:Nat):Sz (ZU f) 66:=by
 have h1:=qui
 have h2:=quh
 rw [JU]
 refine qlB ?_ ?_ (by omega)
 · rw [YR,show 32*66=BX+14 by omega];exact Nat.lt_of_lt_of_le (qjn f) (Nat.pow_le_pow_right (by omega) (by omega))
 · rw [qo0,YR,show 32*66=EX+1038 by omega];exact Nat.pow_lt_pow_right (by omega) (by omega)
theorem qeZ (f:Int):Je f=some (bif QA f.toNat then ((false,([],[])),false) else (ZU f.toNat,true)):=by
 unfold Je
 rw [qoD,cond_true]
end
end Su
end
section
namespace Su
open Go Fly
set_option linter.unusedVariables false
noncomputable section
structure Fin4 (a:Fm):Prop where
 mid:fI a.2.1=true
 err:fI a.2.2.2=true
 tms:∀ t∈a.2.2.1,fI t.c=true
theorem qlC:∀ {l:List Tm} {k:Int},Qd k l=true→∀ t∈l,fI t.c=true
 | [],_,_,t,ht=>by cases ht
 | x::l,k,h,t,ht=>by
  simp only [Qd,Bool.and_eq_true] at h
  rcases List.mem_cons.1 ht with rfl | ht
  · exact h.2.2.1
  · exact qlC h.2.2.2 t ht
theorem Qm {a:Fm} (h:okF a=true):a.1=false∧Fin4 a:=by
 unfold okF at h
 simp only [Bool.not_eq_true',Bool.or_eq_false_iff,Bool.not_eq_false'] at h
 obtain ⟨h1,h2⟩:=h
 rw [qeX,h1,cond_false] at h2
 simp only [Bool.and_eq_true] at h2
 exact ⟨h1,⟨h2.2.1,h2.2.2.2.1,qlC h2.1⟩⟩
def avF (c:Int):Nat:=(fv c.toNat).natAbs
def qjp:List Tm→Nat→Nat
 | [],s=>s
 | t::l,s=>qjp l (s+avF t.c)
def quj (a:Fm):Nat:=qjp a.2.2.1 (avF a.2.2.2)
theorem qyS (f:Nat):jK (bK f) = !QA f:=by
 unfold QA
 rw [← qom]
 cases decide (((qD (bK f):Nat):Int)=3) <;> cases decide (((qD (bK f):Nat):Int)=4) <;> rfl
theorem qA9 (f:Nat):bK (bK f)=bK f:=Nat.mod_mod _ _
theorem qFG (f:Nat):bS (bK f)=false:=Yz.2 (qfX f)
theorem qjq (p r:Int):decide (qeq p r≤0)=decide (p≤r):=by
 unfold qeq
 by_cases h:p<r
 · rw [if_pos h,decide_eq_true (by omega),decide_eq_true (by omega)]
 · rw [if_neg h]
   by_cases h':p=r
   · rw [if_pos h',decide_eq_true (by omega),decide_eq_true (by omega)]
   · rw [if_neg h',decide_eq_false (by omega),decide_eq_false (by omega)]
def ofS (a:Fm) (f:Int):Bool:=!QA f.toNat&&(!okF a||decide ((fv f.toNat-fv a.2.1.toNat).natAbs≤quj a))
end
end Su
end
section
namespace Su
open Go Fly
set_option linter.unusedVariables false
def Zp (f:Int):Bool:=qO (bK f.toNat)
def ky (f:Int):Int:=JF f.toNat
def mxI (a b:Int):Int:=((Zj a.toNat b.toNat:Nat):Int)
def Fw (f:Int):Prop:=0≤f∧f<18446744073709551616
def qng (lo hi:Int):Spn:=qo (false,(lo,hi))
def qnh (a b:Spn):Bool:=(qo a).1||(!(qo b).1&&(leF (qo b).2.1 (qo a).2.1&&leF (qo a).2.2 (qo b).2.2))
def qej (s:Spn) (f:Int):Bool:=!decide (qD (bK f.toNat)=3)&&(!(qng f f).1&&qnh (qng f f) s)
theorem JV {a b:Int}:leF a b=true↔Zp a=false∧Zp b=false∧ky a≤ky b:=by
 unfold leF Zp ky qgA qgB qxN
 cases qO (bK a.toNat) <;> cases qO (bK b.toNat) <;> simp
 by_cases h1:JF a.toNat<JF b.toNat
 · rw [decide_eq_true h1];simp;omega
 · rw [decide_eq_false h1]
   by_cases h2:JF b.toNat<JF a.toNat
   · rw [decide_eq_true h2];simp;omega
   · rw [decide_eq_false h2];simp;omega
theorem qlD {a b:Nat}:Q3 a b=true↔qO (bK a)=false∧qO (bK b)=false∧JF a<JF b:=by
 unfold Q3 qgA qgB qxN
 cases qO (bK a) <;> cases qO (bK b) <;> simp
 by_cases h1:JF a<JF b
 · rw [decide_eq_true h1];simp;omega
 · rw [decide_eq_false h1]
   by_cases h2:JF b<JF a
   · rw [decide_eq_true h2];simp;omega
   · rw [decide_eq_false h2];simp;omega
theorem qdr (f:Int):(ky f).natAbs=bK f.toNat:=by
 unfold ky JF
 cases bS f.toNat <;> simp
theorem qDt {a b:Int} (ha:Fw a) (hb:Fw b) (za:a≠9223372036854775808) (zb:b≠9223372036854775808) (h:ky a=ky b):a=b:=by
 have h1:=qdr a
 have h2:=qdr b
 rw [h,h2] at h1
 obtain ⟨a0,a1⟩:=ha
 obtain ⟨b0,b1⟩:=hb
 unfold ky JF at h
 have sa:bS a.toNat=decide (9223372036854775808≤a.toNat):=by
  cases hs:bS a.toNat with
  | true=>rw [decide_eq_true (ZK.1 hs)]
  | false=>rw [decide_eq_false (by have:=Yz.1 hs;omega)]
 have sb:bS b.toNat=decide (9223372036854775808≤b.toNat):=by
  cases hs:bS b.toNat with
  | true=>rw [decide_eq_true (ZK.1 hs)]
  | false=>rw [decide_eq_false (by have:=Yz.1 hs;omega)]
 rw [sa,sb] at h
 unfold bK at h h1
 by_cases p:9223372036854775808≤a.toNat <;> by_cases q:9223372036854775808≤b.toNat
 · rw [decide_eq_true p,decide_eq_true q] at h;simp only [cond_true] at h;omega
 · rw [decide_eq_true p,decide_eq_false q] at h;simp only [cond_true,cond_false] at h;omega
 · rw [decide_eq_false p,decide_eq_true q] at h;simp only [cond_true,cond_false] at h;omega
 · rw [decide_eq_false p,decide_eq_false q] at h;simp only [cond_false] at h;omega
theorem qBa {a b:Int} (ha:Fw a) (hb:Fw b) (na:Zp a=false) (nb:Zp b=false):mxI a b=if ky a<ky b then b else a:=by
 unfold mxI Zj
 unfold Zp at na nb
 rw [na,nb]
 simp only [Bool.or_self,cond_false]
 by_cases h:ky a<ky b
 · rw [if_pos h,qlD.2 ⟨na,nb,h⟩,cond_true];exact Int.toNat_of_nonneg hb.1
 · rw [if_neg h,show Q3 a.toNat b.toNat=false by
    cases hl:Q3 a.toNat b.toNat with
    | false=>rfl
    | true=>exact absurd (qlD.1 hl).2.2 h,cond_false]
   exact Int.toNat_of_nonneg ha.1
structure Nz (f:Int):Prop where
 w:Fw f
 n:Zp f=false
 z:f≠9223372036854775808
theorem qek {f:Int} (h:Fw f) (hn:Zp f=false):Nz (nzI f)∧ky (nzI f)=ky f:=by
 unfold nzI zI
 cases hz:Nat.beq (bK f.toNat) 0 with
 | true =>
  rw [cond_true]
  have h0:=Nat.eq_of_beq_eq_true hz
  refine ⟨⟨⟨by decide,by decide⟩,by decide,by decide⟩,?_⟩
  have:=qdr f
  have e:ky 0=0:=by decide
  rw [e];omega
 | false =>
  rw [cond_false]
  refine ⟨⟨h,hn,fun e=>?_⟩,rfl⟩
  subst e
  revert hz;decide
def qni (s:Spn):Prop:=s=qlt∨(s.1=false∧Nz s.2.1∧Nz s.2.2∧ky s.2.1≤ky s.2.2∧s.2.1≠9218868437227405312∧s.2.2≠18442240474082181120)
def SpW (s:Spn):Prop:=Fw s.2.1∧Fw s.2.2
theorem qo1 {f:Int} (h:Nz f):nzI f=f:=by
 obtain ⟨h1,h2⟩:=qek h.w h.n
 exact qDt h1.w h.w h1.z h.z h2
theorem qo2 {f:Int} (h:Fw f) (hn:Zp f=false) (c:Int) (hc:c=9218868437227405312∨c=18442240474082181120) (hf:f≠c):nzI f≠c:=by
 unfold nzI
 cases zI f with
 | true=>rw [cond_true];omega
 | false=>rw [cond_false];exact hf
theorem qel {s:Spn} (hw:SpW s):qo s=qlt∨(s.1=false∧Zp s.2.1=false∧Zp s.2.2=false∧ky s.2.1≤ky s.2.2∧s.2.1≠9218868437227405312∧s.2.2≠18442240474082181120∧qo s=(false,(nzI s.2.1,nzI s.2.2))):=by
 unfold qo
 cases h:(s.1||(!leF s.2.1 s.2.2||(decide (s.2.1=9218868437227405312)||decide (s.2.2=18442240474082181120)))) with
 | true=>exact .inl rfl
 | false =>
  simp only [Bool.or_eq_false_iff,Bool.not_eq_false',decide_eq_false_iff_not] at h
  obtain ⟨h0,h1,h2,h3⟩:=h
  obtain ⟨a,b,c⟩:=JV.1 h1
  exact .inr ⟨h0,a,b,c,h2,h3,by rw [h0];rfl⟩
theorem Jw {s:Spn} (hw:SpW s):qni (qo s):=by
 rcases qel hw with h | ⟨_,h1,h2,h3,h4,h5,h⟩
 · rw [h];exact .inl rfl
 · rw [h]
   obtain ⟨a1,a2⟩:=qek hw.1 h1
   obtain ⟨b1,b2⟩:=qek hw.2 h2
   exact .inr ⟨rfl,a1,b1,by simp only [];rw [a2,b2];exact h3,qo2 hw.1 h1 _ (.inl rfl) h4,qo2 hw.2 h2 _ (.inr rfl) h5⟩
theorem qni.w {s:Spn} (h:qni s):SpW s:=by
 rcases h with h | ⟨_,h1,h2,_⟩
 · rw [h];exact ⟨⟨by decide,by decide⟩,⟨by decide,by decide⟩⟩
 · exact ⟨h1.w,h2.w⟩
theorem qaC {s:Spn} (h:qni s):qo s=s:=by
 obtain ⟨e,lo,hi⟩:=s
 rcases h with h | ⟨h0,h1,h2,h3,h4,h5⟩
 · rw [h];rfl
 · simp only [] at h0 h1 h2 h3 h4 h5
   subst h0
   unfold qo
   simp only []
   rw [JV.2 ⟨h1.n,h2.n,h3⟩,decide_eq_false h4,decide_eq_false h5,qo1 h1,qo1 h2];rfl
theorem qgf {s:Spn} (h:qni s) (h':s.1=false):Nz s.2.1∧Nz s.2.2∧ky s.2.1≤ky s.2.2∧s.2.1≠9218868437227405312∧s.2.2≠18442240474082181120:=by
 rcases h with h | h
 · rw [h] at h';cases h'
 · exact h.2
theorem qjr:ky 9218868437227405312=9218868437227405312:=by decide
theorem qlE:ky 18442240474082181120 = -9218868437227405312:=by decide
end Su
end
