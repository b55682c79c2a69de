/-
  What functions of the program compute, in plain Lean, and that the evaluator finds it.
-/
import Derived.Test.YtfckjjffdfkelaaGreatSuSd
import Derived.Test.YtfckjjffdfkelaaGreatNC19
import Derived.Test.YtfckjjffdfkelaaGreatNB10
import Derived.Test.YtfckjjffdfkelaaGreatNC14
set_option maxRecDepth 10000
section
namespace Su
open Go Fly
set_option linter.unusedVariables false
noncomputable section
set_option linter.unusedSimpArgs false
abbrev MulS:=List Tm×(List Tm×(Nat×(Bool×(Int×(List Tm×(Int×(Bool×(Int×(List Tm×(Int×(Int×(Bool×(List T×Unit)))))))))))))
def mulQ (s:MulS) (l m:List Tm) (id p q e:Int) (ok:Bool):Option (MulS ⊕ MulS) :=
 bif (true&&Nat.beq s.2.2.1 s.2.2.2.2.2.2.2.2.2.2.2.2.2.1.length)&&Nat.ble (s.2.2.2.2.2.2.2.2.2.2.2.2.2.1.length+[T.agg [T.s (.int .i64 id),T.s (.int .u64 (addI p q 0))]].length) 549755813888 then
  some (.inl (l,(m,((s.2.2.2.2.2.2.2.2.2.2.2.2.2.1++[T.agg [T.s (.int .i64 id),T.s (.int .u64 (addI p q 0))]]).length,(s.2.2.2.1,(s.2.2.2.2.1,(s.2.2.2.2.2.1,(s.2.2.2.2.2.2.1,(s.2.2.2.2.2.2.2.1,(s.2.2.2.2.2.2.2.2.1,(s.2.2.2.2.2.2.2.2.2.1,(s.2.2.2.2.2.2.2.2.2.2.1,(upI [e,slkA p q],(ok,(s.2.2.2.2.2.2.2.2.2.2.2.2.2.1++[T.agg [T.s (.int .i64 id),T.s (.int .u64 (addI p q 0))]],())))))))))))))))
 else none
def mulOne (s:MulS) (l m:List Tm) (id mid x:Int) (c:Bool):Option (MulS ⊕ MulS) :=
 bif decide (x=0) then mulQ s l m id 0 0 s.2.2.2.2.2.2.2.2.2.2.2.1 s.2.2.2.2.2.2.2.2.2.2.2.2.1
 else bif s.2.2.2.2.2.2.2.2.2.2.2.2.1 then mulQ s l m id (bif c then mulI mid x 0 else 0) (bif c then 0 else mulI mid x 0) (upI [s.2.2.2.2.2.2.2.2.2.2.2.1,slkM mid x]) (fI (mulI mid x 0))
 else mulQ s l m id (bif c then mulI mid x 0 else 0) (bif c then 0 else mulI mid x 0) (upI [s.2.2.2.2.2.2.2.2.2.2.2.1,slkM mid x]) false
def mulBoth (s:MulS) (l m:List Tm) (id x y:Int):Option (MulS ⊕ MulS) :=
 bif decide (y=0) then mulOne s l m id s.2.2.2.2.2.2.2.2.1 x false
 else bif s.2.2.2.2.2.2.2.2.2.2.2.2.1 then
  (bif decide (x=0) then mulQ s l m id (mulI s.2.2.2.2.1 y 0) 0 (upI [s.2.2.2.2.2.2.2.2.2.2.2.1,slkM s.2.2.2.2.1 y]) (fI (mulI s.2.2.2.2.1 y 0))
   else bif fI (mulI s.2.2.2.2.1 y 0) then mulQ s l m id (mulI s.2.2.2.2.1 y 0) (mulI s.2.2.2.2.2.2.2.2.1 x 0) (upI [upI [s.2.2.2.2.2.2.2.2.2.2.2.1,slkM s.2.2.2.2.1 y],slkM s.2.2.2.2.2.2.2.2.1 x]) (fI (mulI s.2.2.2.2.2.2.2.2.1 x 0))
   else mulQ s l m id (mulI s.2.2.2.2.1 y 0) (mulI s.2.2.2.2.2.2.2.2.1 x 0) (upI [upI [s.2.2.2.2.2.2.2.2.2.2.2.1,slkM s.2.2.2.2.1 y],slkM s.2.2.2.2.2.2.2.2.1 x]) false)
 else
  (bif decide (x=0) then mulQ s l m id (mulI s.2.2.2.2.1 y 0) 0 (upI [s.2.2.2.2.2.2.2.2.2.2.2.1,slkM s.2.2.2.2.1 y]) false
   else mulQ s l m id (mulI s.2.2.2.2.1 y 0) (mulI s.2.2.2.2.2.2.2.2.1 x 0) (upI [upI [s.2.2.2.2.2.2.2.2.2.2.2.1,slkM s.2.2.2.2.1 y],slkM s.2.2.2.2.2.2.2.2.1 x]) false)
def tl1 (l:List Tm) (r:List Tm→Option (MulS ⊕ MulS)):Option (MulS ⊕ MulS) :=
 bif true&&((true&&decide (1≤((l.length:Nat):Int)))&&decide (((l.length:Nat):Int)≤((l.length:Nat):Int))) then r (List.take (Int.toNat (((l.length:Nat):Int)-1)) (List.drop 1 l)) else none
def mulX (s:MulS):Option (MulS ⊕ MulS):=(idx s.1 0).bind fun x=>(idx s.1 0).bind fun y=>tl1 s.1 fun l=>mulOne s l s.2.1 (Tm.id x) s.2.2.2.2.2.2.2.2.1 (Tm.c y) false
def mulY (s:MulS):Option (MulS ⊕ MulS):=(idx s.2.1 0).bind fun x=>(idx s.2.1 0).bind fun y=>tl1 s.2.1 fun m=>mulOne s s.1 m (Tm.id x) s.2.2.2.2.1 (Tm.c y) true
def mulYB (s:MulS):Option (MulS ⊕ MulS) :=
 bif decide (((s.1.length:Nat):Int)=0) then mulY s
 else (idx s.2.1 0).bind fun x=>(idx s.1 0).bind fun y=>bif decide (Tm.id x<Tm.id y) then mulY s
  else (idx s.1 0).bind fun x=>(idx s.1 0).bind fun y=>(idx s.2.1 0).bind fun z=>tl1 s.1 fun l=>tl1 s.2.1 fun m=>mulBoth s l m (Tm.id x) (Tm.c y) (Tm.c z)
def mulGo (s:MulS):Option (MulS ⊕ MulS) :=
 bif decide (((s.2.1.length:Nat):Int)=0) then mulX s
 else bif decide (0<((s.1.length:Nat):Int)) then (idx s.1 0).bind fun x=>(idx s.2.1 0).bind fun y=>bif decide (Tm.id x<Tm.id y) then mulX s else mulYB s
 else mulYB s
def aMulF_l1:MulS→Option (MulS ⊕ MulS):=fun s =>
 bif decide (0<((s.1.length:Nat):Int)) then mulGo s else bif decide (0<((s.2.1.length:Nat):Int)) then mulGo s
 else some (.inr (s.1,(s.2.1,(s.2.2.1,(s.2.2.2.1,(s.2.2.2.2.1,(s.2.2.2.2.2.1,(s.2.2.2.2.2.2.1,(s.2.2.2.2.2.2.2.1,(s.2.2.2.2.2.2.2.2.1,(s.2.2.2.2.2.2.2.2.2.1,(s.2.2.2.2.2.2.2.2.2.2.1,(s.2.2.2.2.2.2.2.2.2.2.2.1,(s.2.2.2.2.2.2.2.2.2.2.2.2.1,(s.2.2.2.2.2.2.2.2.2.2.2.2.2.1,())))))))))))))))
def mulE (a b:Fm) (r s:Int):Int:=upI [slkM a.2.1 b.2.1,mulI (absA a.2.1) b.2.2.2 1,mulI (absA b.2.1) a.2.2.2 1,mulI r s 1]
def mulRun (fu:Nat) (a b:Fm) (r s:Int) (ok:Bool):Option Fm :=
 (itP fu aMulF_l1 (a.2.2.1,(b.2.2.1,(0,(a.1,(a.2.1,(a.2.2.1,(a.2.2.2,(b.1,(b.2.1,(b.2.2.1,(b.2.2.2,(mulE a b r s,(ok,([],()))))))))))))))).bind fun x =>
 bif !x.2.2.2.2.2.2.2.2.2.2.2.2.1 then some (true,((0:Int),([],(0:Int))))
 else bif true&&Nat.beq x.2.2.1 x.2.2.2.2.2.2.2.2.2.2.2.2.2.1.length then
  ((((((unTms x.2.2.2.2.2.2.2.2.2.2.2.2.2.1).bind fun y=>some (y,x.2.2.2.2.2.2.2.2.2.2.2.1)).bind fun y=>some (mulI x.2.2.2.2.1 x.2.2.2.2.2.2.2.2.1 0,y)).bind fun y=>some (false,y)).bind fun y=>some (doneF y)).bind fun y=>some (y.1,(y.2.1,(y.2.2.1,y.2.2.2))))
 else none
def aMulF (fu:Nat) (a b:Fm):Option Fm :=
 bif List.any [(a.1,(a.2.1,(a.2.2.1,a.2.2.2))),(b.1,(b.2.1,(b.2.2.1,b.2.2.2)))] (fun z0=>(z0.1||(!(Su.mayF z0)))) then some (true,((0:Int),([],(0:Int))))
 else (aRest_s (a.1,(a.2.1,(a.2.2.1,a.2.2.2)))).bind fun r=>(aRest_s (b.1,(b.2.1,(b.2.2.1,b.2.2.2)))).bind fun s =>
  bif finK (bK (Int.toNat r)) then mulRun fu a b r s (finK (bK (Int.toNat s))) else mulRun fu a b r s false
def mulD (ma mb e x y:Int):Int×Int :=
 (addI (bif decide (y=0) then 0 else mulI ma y 0) (bif decide (x=0) then 0 else mulI mb x 0) 0,
  upI [bif decide (x=0) then (bif decide (y=0) then e else upI [e,slkM ma y]) else upI [bif decide (y=0) then e else upI [e,slkM ma y],slkM mb x],
   slkA (bif decide (y=0) then 0 else mulI ma y 0) (bif decide (x=0) then 0 else mulI mb x 0)])
def okD (ma mb x y:Int):Bool:=fI (bif decide (y=0) then 0 else mulI ma y 0)&&fI (bif decide (x=0) then 0 else mulI mb x 0)
def okE (ma mb e x y:Int):Int×Int:=(bif okD ma mb x y then 0 else 1,e)
def okMm (ma mb:Int) (n:Nat) (l m:List Tm):Bool:=(mergeN (okE ma mb) n l m 0).1.all fun t=>decide (t.c=0)
theorem mulQ_eq {l0 m0 l m:List Tm} {ba bb:Bool} {ma mb ea eb e0:Int} {ta tb:List Tm} {ok0:Bool} {A:List Tm} (hA:A.length+1≤549755813888) (id p q e:Int) (ok:Bool) :
 mulQ (l0,(m0,(A.length,(ba,(ma,(ta,(ea,(bb,(mb,(tb,(eb,(e0,(ok0,(A.map vT,())))))))))))))) l m id p q e ok =
  some (.inl (l,(m,((A++[(⟨id,addI p q 0⟩:Tm)]).length,(ba,(ma,(ta,(ea,(bb,(mb,(tb,(eb,(upI [e,slkA p q],(ok,((A++[(⟨id,addI p q 0⟩:Tm)]).map vT,()))))))))))))))):=by
 have hb:Nat.ble (A.length+1) 549755813888=true:=Nat.ble_eq_true_of_le hA
 simp only [mulQ,List.length_map,beq_self,Bool.and_true,Bool.true_and,List.length_singleton,hb,cond_true,mapS,lenS]
theorem mulOne_x {l0 m0 l m:List Tm} {ba bb:Bool} {ma mb ea eb e:Int} {ta tb:List Tm} {ok:Bool} {A:List Tm} (hA:A.length+1≤549755813888) (id x:Int) :
 mulOne (l0,(m0,(A.length,(ba,(ma,(ta,(ea,(bb,(mb,(tb,(eb,(e,(ok,(A.map vT,())))))))))))))) l m id mb x false =
  some (.inl (l,(m,((A++[(⟨id,(mulD ma mb e x 0).1⟩:Tm)]).length,(ba,(ma,(ta,(ea,(bb,(mb,(tb,(eb,((mulD ma mb e x 0).2,(ok&&okD ma mb x 0,((A++[(⟨id,(mulD ma mb e x 0).1⟩:Tm)]).map vT,()))))))))))))))):=by
 unfold mulOne
 simp only [mulQ_eq hA,mulD,okD,decide_true,cond_true,cond_false,fI_0,Bool.true_and]
 cases decide (x=0) <;> cases ok <;> simp only [cond_true,cond_false,fI_0,Bool.true_and,Bool.false_and,Bool.and_self]
theorem mulOne_y {l0 m0 l m:List Tm} {ba bb:Bool} {ma mb ea eb e:Int} {ta tb:List Tm} {ok:Bool} {A:List Tm} (hA:A.length+1≤549755813888) (id y:Int) :
 mulOne (l0,(m0,(A.length,(ba,(ma,(ta,(ea,(bb,(mb,(tb,(eb,(e,(ok,(A.map vT,())))))))))))))) l m id ma y true =
  some (.inl (l,(m,((A++[(⟨id,(mulD ma mb e 0 y).1⟩:Tm)]).length,(ba,(ma,(ta,(ea,(bb,(mb,(tb,(eb,((mulD ma mb e 0 y).2,(ok&&okD ma mb 0 y,((A++[(⟨id,(mulD ma mb e 0 y).1⟩:Tm)]).map vT,()))))))))))))))):=by
 unfold mulOne
 simp only [mulQ_eq hA,mulD,okD,decide_true,cond_true,cond_false,fI_0,Bool.and_true]
 cases decide (y=0) <;> cases ok <;> simp only [cond_true,cond_false,fI_0,Bool.true_and,Bool.false_and,Bool.and_self,Bool.and_true]
theorem mulBoth_eq {l0 m0 l m:List Tm} {ba bb:Bool} {ma mb ea eb e:Int} {ta tb:List Tm} {ok:Bool} {A:List Tm} (hA:A.length+1≤549755813888) (id x y:Int) :
 mulBoth (l0,(m0,(A.length,(ba,(ma,(ta,(ea,(bb,(mb,(tb,(eb,(e,(ok,(A.map vT,())))))))))))))) l m id x y =
  some (.inl (l,(m,((A++[(⟨id,(mulD ma mb e x y).1⟩:Tm)]).length,(ba,(ma,(ta,(ea,(bb,(mb,(tb,(eb,((mulD ma mb e x y).2,(ok&&okD ma mb x y,((A++[(⟨id,(mulD ma mb e x y).1⟩:Tm)]).map vT,()))))))))))))))):=by
 unfold mulBoth mulOne
 simp only [mulQ_eq hA,mulD,okD]
 cases decide (y=0) <;> cases decide (x=0) <;> cases ok <;> simp only [cond_true,cond_false,fI_0,Bool.true_and,Bool.false_and,Bool.and_self,Bool.and_true] <;>
  (cases fI (mulI ma y 0) <;> simp only [cond_true,cond_false,Bool.true_and,Bool.false_and])
theorem tl1_eq {t:Tm} {l:List Tm} {r:List Tm→Option (MulS ⊕ MulS)}:tl1 (t::l) r=r l:=by
 unfold tl1
 rw [List.length_cons,hge1,hle,takeL]
 rfl
theorem okMm_step {ma mb:Int} {n:Nat} {l m l' m':List Tm} {id x y:Int} (h:∀ (f:Int→Int→Int→Int×Int) (e:Int),mergeN f (n+1) l m e=stepM id (f e x y) (mergeN f n l' m')):okMm ma mb (n+1) l m=(okD ma mb x y&&okMm ma mb n l' m'):=by
 unfold okMm
 rw [h]
 simp only [stepM,okE,List.all_cons]
 cases okD ma mb x y <;> rfl
theorem mul_loop {ba bb:Bool} {ma mb ea eb:Int} {ta tb:List Tm}:∀ (n:Nat) (l m:List Tm) (e:Int) (ok:Bool) (A:List Tm),l.length+m.length≤n→A.length+n≤549755813888 →
 ∃ fu,itP fu aMulF_l1 (l,(m,(A.length,(ba,(ma,(ta,(ea,(bb,(mb,(tb,(eb,(e,(ok,(A.map vT,()))))))))))))))=some ([],([],((A++(mergeN (mulD ma mb) n l m e).1).length,(ba,(ma,(ta,(ea,(bb,(mb,(tb,(eb,((mergeN (mulD ma mb) n l m e).2,(ok&&okMm ma mb n l m,((A++(mergeN (mulD ma mb) n l m e).1).map vT,()))))))))))))))
 | 0,l,m,e,ok,A,h,hA=>by
  have h1:l=[]:=List.length_eq_zero_iff.1 (by omega)
  have h2:m=[]:=List.length_eq_zero_iff.1 (by omega)
  subst h1 h2
  refine ⟨1,?_⟩
  rw [itP_s]
  simp only [aMulF_l1,List.length_nil,hp0,cond_false,Option.bind_some,mergeN,List.append_nil,okMm,List.all_nil,Bool.and_true]
 | n+1,l,m,e,ok,A,h,hA=>by
  have go:∀ (l' m':List Tm) (id x y:Int),l'.length+m'.length≤n→(∀ (f:Int→Int→Int→Int×Int) (e:Int),mergeN f (n+1) l m e=stepM id (f e x y) (mergeN f n l' m')) →
   aMulF_l1 (l,(m,(A.length,(ba,(ma,(ta,(ea,(bb,(mb,(tb,(eb,(e,(ok,(A.map vT,()))))))))))))))=some (.inl (l',(m',((A++[(⟨id,(mulD ma mb e x y).1⟩:Tm)]).length,(ba,(ma,(ta,(ea,(bb,(mb,(tb,(eb,((mulD ma mb e x y).2,(ok&&okD ma mb x y,((A++[(⟨id,(mulD ma mb e x y).1⟩:Tm)]).map vT,()))))))))))))))) →
   ∃ fu,itP fu aMulF_l1 (l,(m,(A.length,(ba,(ma,(ta,(ea,(bb,(mb,(tb,(eb,(e,(ok,(A.map vT,()))))))))))))))=some ([],([],((A++(mergeN (mulD ma mb) (n+1) l m e).1).length,(ba,(ma,(ta,(ea,(bb,(mb,(tb,(eb,((mergeN (mulD ma mb) (n+1) l m e).2,(ok&&okMm ma mb (n+1) l m,((A++(mergeN (mulD ma mb) (n+1) l m e).1).map vT,())))))))))))))):=by
   intro l' m' id x y hl' hm hs
   obtain ⟨fu,q⟩:=mul_loop n l' m' (mulD ma mb e x y).2 (ok&&okD ma mb x y) (A++[⟨id,(mulD ma mb e x y).1⟩]) hl' (by simp;omega)
   refine ⟨fu+1,?_⟩
   rw [itP_s,hs,hm,okMm_step hm]
   simp only [Option.bind_some,stepM]
   rw [q]
   simp only [List.append_assoc,List.singleton_append,Bool.and_assoc]
  have hA1:A.length+1≤549755813888:=by omega
  match l,m,h with
  | [],[],h =>
   refine ⟨1,?_⟩
   rw [itP_s]
   simp only [aMulF_l1,List.length_nil,hp0,cond_false,Option.bind_some,mergeN,List.append_nil,okMm,List.all_nil,Bool.and_true]
  | x::l,[],h =>
   simp only [List.length_cons,List.length_nil] at h
   refine go l [] x.id x.c 0 (by simp;omega) (fun f e=>rfl) ?_
   simp only [aMulF_l1,mulGo,mulX,List.length_cons,List.length_nil,hpos,hz0,cond_true,idx0,Option.bind_some]
   rw [tl1_eq,mulOne_x hA1]
  | [],y::m,h =>
   simp only [List.length_cons,List.length_nil] at h
   refine go [] m y.id 0 y.c (by simp;omega) (fun f e=>rfl) ?_
   simp only [aMulF_l1,mulGo,mulYB,mulY,List.length_cons,List.length_nil,hpos,hz0,hnz,hp0,cond_true,cond_false,idx0,Option.bind_some]
   rw [tl1_eq,mulOne_y hA1]
  | x::l,y::m,h =>
   simp only [List.length_cons] at h
   cases h1:decide (x.id<y.id) with
   | true =>
    refine go l (y::m) x.id x.c 0 (by simp;omega) (fun f e=>by simp only [mergeN,h1,cond_true]) ?_
    simp only [aMulF_l1,mulGo,mulX,List.length_cons,hpos,hnz,cond_true,cond_false,idx0,Option.bind_some,h1]
    rw [tl1_eq,mulOne_x hA1]
   | false =>
    cases h2:decide (y.id<x.id) with
    | true =>
     refine go (x::l) m y.id 0 y.c (by simp;omega) (fun f e=>by simp only [mergeN,h1,h2,cond_true,cond_false]) ?_
     simp only [aMulF_l1,mulGo,mulYB,mulY,List.length_cons,hpos,hnz,cond_true,cond_false,idx0,Option.bind_some,h1,h2]
     rw [tl1_eq,mulOne_y hA1]
    | false =>
     refine go l m x.id x.c y.c (by omega) (fun f e=>by simp only [mergeN,h1,h2,cond_false]) ?_
     simp only [aMulF_l1,mulGo,mulYB,List.length_cons,hpos,hnz,cond_true,cond_false,idx0,Option.bind_some,h1,h2]
     rw [tl1_eq,tl1_eq,mulBoth_eq hA1]
def mulFm' (a b:Fm):Fm :=
 bif okF a&&okF b then
  (bif (fI (restF a)&&fI (restF b))&&okMm a.2.1 b.2.1 (a.2.2.1.length+b.2.2.1.length) a.2.2.1 b.2.2.1 then
    doneF (false,(mulI a.2.1 b.2.1 0,(mergeN (mulD a.2.1 b.2.1) (a.2.2.1.length+b.2.2.1.length) a.2.2.1 b.2.2.1 (mulE a b (restF a) (restF b)))))
   else badF)
 else badF
def mulFmL:{f:Fm→Fm→Fm // ∀ a b,f a b=mulFm' a b}:=Classical.choice ⟨⟨_,fun _ _=>rfl⟩⟩
def mulFm (a b:Fm):Fm:=mulFmL.1 a b
theorem mulFm_eq (a b:Fm):mulFm a b=mulFm' a b:=mulFmL.2 a b
def aMulF_s (p:Fm×Fm):Option Fm:=bif Nat.ble (p.1.2.2.1.length+p.2.2.2.1.length) 549755813888 then some (mulFm p.1 p.2) else none
theorem aMulF_ok (p:Fm×Fm) (y:Fm) (hg:(dc cFrm (d1 cFrm)).good p) (h:aMulF_s p=some y):∃ n,aMulF n p.1 p.2=some y:=by
 obtain ⟨a,b⟩:=p
 obtain ⟨h1,h2⟩:=bif_some h
 have:=soi h2;subst this
 have hl:a.2.2.1.length+b.2.2.1.length≤549755813888:=Nat.le_of_ble_eq_true h1
 have ha:List.any [(a.1,(a.2.1,(a.2.2.1,a.2.2.2))),(b.1,(b.2.1,(b.2.2.1,b.2.2.2)))] (fun z0=>(z0.1||(!(Su.mayF z0)))) = !(okF a&&okF b):=by simp [okF]
 rw [mulFm_eq]
 unfold aMulF mulFm'
 simp only []
 rw [ha]
 cases okF a&&okF b with
 | false=>exact ⟨0,rfl⟩
 | true =>
  rw [Bool.not_true]
  change ∃ n,(aRest_s _).bind _=some (bif _ then _ else _)
  have ra:aRest_s (a.1,(a.2.1,(a.2.2.1,a.2.2.2)))=some (restF a):=by
   unfold aRest_s lenOK
   simp only []
   rw [Nat.ble_eq_true_of_le (by omega),cond_true]
  have rb:aRest_s (b.1,(b.2.1,(b.2.2.1,b.2.2.2)))=some (restF b):=by
   unfold aRest_s lenOK
   simp only []
   rw [Nat.ble_eq_true_of_le (by omega),cond_true]
  have hf:∀ f:Int,finK (bK (Int.toNat f))=fI f:=fun _=>rfl
  have run:∀ ok:Bool,∃ n,mulRun n a b (restF a) (restF b) ok=some (bif ok&&okMm a.2.1 b.2.1 (a.2.2.1.length+b.2.2.1.length) a.2.2.1 b.2.2.1 then
   doneF (false,(mulI a.2.1 b.2.1 0,(mergeN (mulD a.2.1 b.2.1) (a.2.2.1.length+b.2.2.1.length) a.2.2.1 b.2.2.1 (mulE a b (restF a) (restF b))))) else badF):=fun ok=>by
   obtain ⟨n,q⟩:=mul_loop (ba:=a.1) (bb:=b.1) (ma:=a.2.1) (mb:=b.2.1) (ea:=a.2.2.2) (eb:=b.2.2.2) (ta:=a.2.2.1) (tb:=b.2.2.1) _ a.2.2.1 b.2.2.1 (mulE a b (restF a) (restF b)) ok [] (Nat.le_refl _) (by simpa using hl)
   refine ⟨n,?_⟩
   unfold mulRun
   refine obs q ?_
   simp only [List.nil_append]
   cases ok&&okMm a.2.1 b.2.1 (a.2.2.1.length+b.2.2.1.length) a.2.2.1 b.2.2.1 with
   | false=>rfl
   | true =>
    simp only [Bool.not_true,cond_false,List.length_map,beq_self,Bool.and_true,cond_true]
    exact obs (obs (obs (obs (obs (unTms_map _) rfl) rfl) rfl) rfl) rfl
  cases hr:fI (restF a) with
  | true =>
   obtain ⟨n,q⟩:=run (fI (restF b))
   refine ⟨n,obs ra (obs rb ?_)⟩
   rw [hf,hf,hr,cond_true,q,Bool.true_and];rfl
  | false =>
   obtain ⟨n,q⟩:=run false
   refine ⟨n,obs ra (obs rb ?_)⟩
   rw [hf,hr,cond_false,q,Bool.false_and];rfl
end
end Su
end
section
namespace Su
open Go Fly
set_option linter.unusedVariables false
noncomputable section
def aSpan  (a:(Bool×(Int×((List Su.Tm)×Int)))):Option (Bool×(Int×Int)) :=
 (bif (List.any [(a.1,(a.2.1,(a.2.2.1,a.2.2.2)))] (fun z0=>(z0.1||(!(Su.mayF z0))))) then
 some ((Su.normS (false,(((18442240474082181120:Nat):Int),((9218868437227405312:Nat):Int)))).1,((Su.normS (false,(((18442240474082181120:Nat):Int),((9218868437227405312:Nat):Int)))).2.1,(Su.normS (false,(((18442240474082181120:Nat):Int),((9218868437227405312:Nat):Int)))).2.2))
 else
  ((Su.aRad_s (a.1,(a.2.1,(a.2.2.1,a.2.2.2))))).bind fun x1 =>
  some ((Su.normS (false,((((Su.addN (Int.toNat a.2.1) (Int.toNat (((Su.negF (Int.toNat x1)):Nat):Int)) 2):Nat):Int),(((Su.addN (Int.toNat a.2.1) (Int.toNat x1) 1):Nat):Int)))).1,((Su.normS (false,((((Su.addN (Int.toNat a.2.1) (Int.toNat (((Su.negF (Int.toNat x1)):Nat):Int)) 2):Nat):Int),(((Su.addN (Int.toNat a.2.1) (Int.toNat x1) 1):Nat):Int)))).2.1,(Su.normS (false,((((Su.addN (Int.toNat a.2.1) (Int.toNat (((Su.negF (Int.toNat x1)):Nat):Int)) 2):Nat):Int),(((Su.addN (Int.toNat a.2.1) (Int.toNat x1) 1):Nat):Int)))).2.2)))
set_option linter.unusedSimpArgs false
def spanF (a:Fm):Spn:=bif okF a then normS (false,(addI a.2.1 (negI (radF a)) 2,addI a.2.1 (radF a) 1)) else (false,(18442240474082181120,9218868437227405312))
def aSpan_s (a:Fm):Option Spn:=bif lenOK a.2.2.1 then some (spanF a) else none
theorem aSpan_ok (a:Fm) (y:Spn) (hg:(d1 cFrm).good a) (h:aSpan_s a=some y):aSpan a=some y:=by
 obtain ⟨b,m,l,r⟩:=a
 obtain ⟨h1,h2⟩:=bif_some h
 have:=soi h2;subst this
 have h1:lenOK l=true:=h1
 have ha:List.any [((b,(m,(l,r))):Fm)] (fun z0=>(z0.1||(!(Su.mayF z0)))) = !okF (b,(m,(l,r))):=by simp [okF]
 unfold aSpan spanF aRad_s
 simp only []
 rw [ha]
 cases okF (b,(m,(l,r))) with
 | false=>rfl
 | true =>
  rw [Bool.not_true,cond_false,cond_true,h1,cond_true];rfl
end
end Su
end
section
namespace Su
open Go Fly
set_option linter.unusedVariables false
noncomputable section
end
end Su
end
section
namespace Su
open Go Fly
set_option linter.unusedVariables false
noncomputable section
def mkQ (p:Int) (q:Nat):Rt:=lowR (decide (p<0)) p.natAbs q
def sv (a:Rt):Int:=bif a.1 then -(nu a:Int) else (nu a:Int)
theorem low_zero (neg:Bool) (d:Nat):lowR neg 0 d=(false,([],ofN 1)):=by rw [lowR_eq];unfold lowR';rw [if_pos (.inl rfl)]
theorem low_scale (neg:Bool) (n d:Nat) {k:Nat} (hk:0<k):lowR neg (n*k) (d*k)=lowR neg n d:=by
 rw [lowR_eq,lowR_eq]
 unfold lowR'
 by_cases h:n=0∨d=0
 · rw [if_pos h,if_pos (by rcases h with h | h <;> simp [h])]
 · have h1:n≠0:=fun e=>h (.inl e)
   have h2:d≠0:=fun e=>h (.inr e)
   have h3 : ¬ (n*k=0∨d*k=0):=by
    intro e
    rcases e with e | e
    · rcases Nat.mul_eq_zero.1 e with e | e <;> omega
    · rcases Nat.mul_eq_zero.1 e with e | e <;> omega
   rw [if_neg h,if_neg h3,Nat.gcd_mul_right,Nat.mul_div_mul_right _ _ hk,Nat.mul_div_mul_right _ _ hk]
theorem low_parts (neg:Bool) (n:Nat) {d:Nat} (hd:0<d):∃ g,0<g∧n=g*nu (lowR neg n d)∧d=g*de (lowR neg n d)∧(lowR neg n d).1=(neg&&decide (n≠0)):=by
 by_cases h:n=0
 · subst h
   rw [low_zero]
   refine ⟨d,hd,?_,?_,by simp⟩
   · show 0=d*valN [];simp [valN]
   · show d=d*valN (ofN 1);rw [valN_ofN];omega
 · rw [lowR_eq]
   unfold lowR'
   rw [if_neg (by omega)]
   refine ⟨Nat.gcd n d,Nat.gcd_pos_of_pos_right _ hd,?_,?_,by simp [h]⟩
   · show n=_*valN (ofN _);rw [valN_ofN];exact (Nat.mul_div_cancel' (Nat.gcd_dvd_left _ _)).symm
   · show d=_*valN (ofN _);rw [valN_ofN];exact (Nat.mul_div_cancel' (Nat.gcd_dvd_right _ _)).symm
theorem mk_scale (p:Int) (q:Nat) {k:Nat} (hk:0<k):mkQ (p*k) (q*k)=mkQ p q:=by
 unfold mkQ
 have e1:(p*(k:Int)).natAbs=p.natAbs*k:=by rw [Int.natAbs_mul];rfl
 have e2:decide (p*(k:Int)<0)=decide (p<0):=by
  have hk':(0:Int)<k:=by omega
  by_cases h:p<0
  · rw [decide_eq_true h,decide_eq_true (Int.mul_neg_of_neg_of_pos h hk')]
  · rw [decide_eq_false h,decide_eq_false]
    have:=Int.mul_nonneg (a:=p) (b:=k) (by omega) (by omega)
    omega
 rw [e1,e2,low_scale _ _ _ hk]
theorem mk_parts (p:Int) {q:Nat} (hq:0<q):∃ g:Nat,0<g∧p=g*sv (mkQ p q)∧q=g*de (mkQ p q)∧0<de (mkQ p q):=by
 obtain ⟨g,h0,h1,h2,h3⟩:=low_parts (decide (p<0)) p.natAbs hq
 refine ⟨g,h0,?_,h2,Nat.pos_of_ne_zero fun e=>?_⟩
 · unfold sv
   have h4:(mkQ p q).1=decide (p<0):=by
    show (lowR _ _ _).1=_
    rw [h3]
    by_cases h:p<0
    · rw [decide_eq_true h,decide_eq_true (by omega)];rfl
    · rw [decide_eq_false h];rfl
   rw [h4]
   have h5:p.natAbs=g*nu (mkQ p q):=h1
   have h6:((g*nu (mkQ p q):Nat):Int)=(g:Int)*(nu (mkQ p q):Int):=by simp
   by_cases h:p<0
   · rw [decide_eq_true h,cond_true,Int.mul_neg,← h6,← h5];omega
   · rw [decide_eq_false h,cond_false,← h6,← h5];omega
 · have h2':q=g*de (mkQ p q):=h2
   rw [e] at h2';omega
theorem low_mk (neg:Bool) (n d:Nat):lowR neg n d=mkQ (bif neg then -(n:Int) else (n:Int)) d:=by
 unfold mkQ
 by_cases h:n=0
 · subst h
   cases neg <;> simp [low_zero]
 · cases neg with
   | true=>rw [cond_true,decide_eq_true (by omega),Int.natAbs_neg,Int.natAbs_natCast]
   | false=>rw [cond_false,decide_eq_false (by omega),Int.natAbs_natCast]
theorem rlow_sv (a:Rt):rlow a=mkQ (sv a) (de a):=low_mk _ _ _
theorem mk_low (p:Int) {q:Nat} (hq:0<q):mkQ (sv (mkQ p q)) (de (mkQ p q))=mkQ p q:=by
 obtain ⟨g,h0,h1,h2,h3⟩:=mk_parts p hq
 have:=mk_scale (sv (mkQ p q)) (de (mkQ p q)) h0
 rw [Int.mul_comm,← h1,Nat.mul_comm,← h2] at this
 exact this.symm
theorem rlow_mk (p:Int) {q:Nat} (hq:0<q):rlow (mkQ p q)=mkQ p q:=by rw [rlow_sv,mk_low p hq]
theorem low_sum (b c:Bool) (n m d:Nat):(bif decide (b=c) then lowR b (n+m) d else bif decide (m≤n) then lowR b (n-m) d else lowR c (m-n) d)=mkQ ((bif b then -(n:Int) else (n:Int))+(bif c then -(m:Int) else (m:Int))) d:=by
 cases b <;> cases c
 · rw [decide_eq_true rfl,cond_true,low_mk];congr 1
 · rw [decide_eq_false (by simp),cond_false]
   by_cases h:m≤n
   · rw [decide_eq_true h,cond_true,low_mk];congr 1;simp only [cond_false,cond_true];omega
   · rw [decide_eq_false h,cond_false,low_mk];congr 1;simp only [cond_false,cond_true];omega
 · rw [decide_eq_false (by simp),cond_false]
   by_cases h:m≤n
   · rw [decide_eq_true h,cond_true,low_mk];congr 1;simp only [cond_false,cond_true];omega
   · rw [decide_eq_false h,cond_false,low_mk];congr 1;simp only [cond_false,cond_true];omega
 · rw [decide_eq_true rfl,cond_true,low_mk];congr 1;simp only [cond_true];omega
theorem sgn_mul (b:Bool) (n k:Nat):(bif b then -((n*k:Nat):Int) else ((n*k:Nat):Int))=(bif b then -(n:Int) else (n:Int))*k:=by
 cases b
 · simp
 · simp only [cond_true,Int.neg_mul];simp
theorem rsum_sv (x y:Rt):rsum x y=mkQ (sv x*de y+sv y*de x) (de x*de y):=by
 unfold rsum
 rw [low_sum,sgn_mul,sgn_mul];rfl
theorem radd_mk (p r:Int) {q s:Nat} (hq:0<q) (hs:0<s):radd (mkQ p q) (mkQ r s)=mkQ (p*s+r*q) (q*s):=by
 unfold radd
 rw [rlow_mk p hq,rlow_mk r hs,rsum_sv]
 obtain ⟨g,h0,h1,h2,h3⟩:=mk_parts p hq
 obtain ⟨h,k0,k1,k2,k3⟩:=mk_parts r hs
 generalize mkQ p q=x at *
 generalize mkQ r s=y at *
 rw [← mk_scale _ _ (Nat.mul_pos h0 k0)]
 have e1:de x*de y*(g*h)=q*s:=by rw [h2,k2];grind
 have e2:(sv x*de y+sv y*de x)*((g*h:Nat):Int)=p*s+r*q:=by
  have a2:(q:Int)=g*de x:=by rw [h2];simp
  have b2:(s:Int)=h*de y:=by rw [k2];simp
  rw [a2,b2,h1,k1]
  simp only [Int.natCast_mul]
  grind
 rw [e1,e2]
theorem rneg_mk (p:Int) {q:Nat} (hq:0<q):rneg (mkQ p q)=mkQ (-p) q:=by
 unfold rneg
 rw [low_mk]
 obtain ⟨g,h0,h1,h2,h3⟩:=mk_parts p hq
 have e:(bif !(mkQ p q).1 then -(valN (mkQ p q).2.1:Int) else (valN (mkQ p q).2.1:Int)) = -(sv (mkQ p q)):=by
  unfold sv nu
  cases (mkQ p q).1 <;> simp
 rw [e]
 generalize mkQ p q=x at *
 rw [← mk_scale _ _ h0,h1]
 have e1:valN x.2.2*g=q:=by rw [h2,Nat.mul_comm];rfl
 rw [e1]
 congr 1
 rw [Int.neg_mul,Int.mul_comm]
theorem rsub_mk (p r:Int) {q s:Nat} (hq:0<q) (hs:0<s):rsub (mkQ p q) (mkQ r s)=mkQ (p*s-r*q) (q*s):=by
 unfold rsub
 rw [rneg_mk r hs,radd_mk p (-r) hq hs,Int.neg_mul];rfl
theorem rabs_mk (p:Int) {q:Nat} (hq:0<q):rabs (mkQ p q)=mkQ (p.natAbs:Int) q:=by
 unfold rabs
 rw [low_mk]
 obtain ⟨g,h0,h1,h2,h3⟩:=mk_parts p hq
 have e:p.natAbs=g*nu (mkQ p q):=by
  have h5:p.natAbs=(g*sv (mkQ p q)).natAbs:=congrArg Int.natAbs h1
  rw [h5,Int.natAbs_mul,Int.natAbs_natCast]
  congr 1
  unfold sv
  generalize mkQ p q=x
  cases x.1 <;> simp
 generalize mkQ p q=x at *
 rw [e,← mk_scale _ _ h0]
 have e1:valN x.2.2*g=q:=by rw [h2,Nat.mul_comm];rfl
 rw [e1,cond_false]
 congr 1
 simp only [Int.natCast_mul]
 rw [Int.mul_comm];rfl
theorem rmul_mk (p r:Int) {q s:Nat} (hq:0<q) (hs:0<s):rmul (mkQ p q) (mkQ r s)=mkQ (p*r) (q*s):=by
 unfold rmul
 rw [rlow_mk p hq,rlow_mk r hs,low_mk]
 obtain ⟨g,h0,h1,h2,h3⟩:=mk_parts p hq
 obtain ⟨h,k0,k1,k2,k3⟩:=mk_parts r hs
 generalize mkQ p q=x at *
 generalize mkQ r s=y at *
 have e:(bif !decide (x.1=y.1) then -((nu x*nu y:Nat):Int) else ((nu x*nu y:Nat):Int))=sv x*sv y:=by
  unfold sv
  cases x.1 <;> cases y.1 <;> simp [Int.neg_mul,Int.mul_neg]
 rw [e,← mk_scale _ _ (Nat.mul_pos h0 k0)]
 have e1:de x*de y*(g*h)=q*s:=by rw [h2,k2];grind
 have e2:sv x*sv y*((g*h:Nat):Int)=p*r:=by
  rw [h1,k1]
  simp only [Int.natCast_mul]
  grind
 rw [e1,e2]
def cmpQ (p r:Int):Int:=if p<r then -1 else if p=r then 0 else 1
theorem cmpQ_scale (p r:Int) {k:Nat} (hk:0<k):cmpQ (p*k) (r*k)=cmpQ p r:=by
 unfold cmpQ
 have hk':(0:Int)<k:=by omega
 have e1:p*(k:Int)<r*k↔p<r:=Int.mul_lt_mul_right hk'
 have e2:p*(k:Int)=r*k↔p=r:=Int.mul_eq_mul_right_iff (by omega)
 simp only [e1,e2]
theorem cmpI_Q (a b:Nat):cmpI a b=cmpQ a b:=by
 unfold cmpI cmpQ
 simp only [Int.ofNat_lt,Int.ofNat_inj]
theorem rcm_sv (x y:Rt) (hx:0<de x) (hy:0<de y) (zx:x.1=true→nu x≠0) (zy:y.1=true→nu y≠0):rcm x y=cmpQ (sv x*de y) (sv y*de x):=by
 unfold rcm sv
 have hx':(0:Int)<de x:=by omega
 have hy':(0:Int)<de y:=by omega
 have p1:(0:Int)≤nu x*de y:=Int.mul_nonneg (by omega) (by omega)
 have p2:(0:Int)≤nu y*de x:=Int.mul_nonneg (by omega) (by omega)
 cases hxs:x.1 <;> cases hys:y.1
 · simp only [decide_true,Bool.not_true,cond_false,cmpI_Q,Int.natCast_mul]
 · have h2:0<nu y:=Nat.pos_of_ne_zero (zy hys)
   have p3:(0:Int)<nu y*de x:=Int.mul_pos (by omega) hx'
   simp only [cond_true,cond_false,Int.neg_mul]
   unfold cmpQ
   rw [if_neg (by omega),if_neg (by omega)];rfl
 · have h2:0<nu x:=Nat.pos_of_ne_zero (zx hxs)
   have p3:(0:Int)<nu x*de y:=Int.mul_pos (by omega) hy'
   simp only [cond_true,cond_false,Int.neg_mul]
   unfold cmpQ
   rw [if_pos (by omega)];rfl
 · simp only [decide_true,Bool.not_true,cond_false,cond_true,cmpI_Q,Int.natCast_mul,Int.neg_mul]
   generalize (nu x:Int)*de y=a
   generalize (nu y:Int)*de x=b
   unfold cmpQ
   split
   · rw [if_neg (by omega),if_neg (by omega)];rfl
   · split
     · rw [if_neg (by omega),if_pos (by omega)];rfl
     · rw [if_pos (by omega)]
theorem mk_sign (p:Int) {q:Nat} (hq:0<q):(mkQ p q).1=true→nu (mkQ p q)≠0:=by
 intro h e
 obtain ⟨g,h0,h1,h2,h3⟩:=low_parts (decide (p<0)) p.natAbs hq
 have h4:(mkQ p q).1=(decide (p<0)&&decide (p.natAbs≠0)):=h3
 have h5:p.natAbs=g*nu (mkQ p q):=h1
 rw [e,Nat.mul_zero] at h5
 rw [h5] at h4
 rw [h4] at h
 simp at h
theorem rcmp_mk (p r:Int) {q s:Nat} (hq:0<q) (hs:0<s):rcmp (mkQ p q) (mkQ r s)=cmpQ (p*s) (r*q):=by
 unfold rcmp
 rw [rlow_mk p hq,rlow_mk r hs]
 have z1:=mk_sign p hq
 have z2:=mk_sign r hs
 obtain ⟨g,h0,h1,h2,h3⟩:=mk_parts p hq
 obtain ⟨h,k0,k1,k2,k3⟩:=mk_parts r hs
 generalize mkQ p q=x at *
 generalize mkQ r s=y at *
 rw [rcm_sv x y h3 k3 z1 z2,← cmpQ_scale _ _ (Nat.mul_pos h0 k0)]
 have a2:(q:Int)=g*de x:=by rw [h2];simp
 have b2:(s:Int)=h*de y:=by rw [k2];simp
 have e1:sv x*de y*((g*h:Nat):Int)=p*s:=by
  rw [b2,h1];simp only [Int.natCast_mul];grind
 have e2:sv y*de x*((g*h:Nat):Int)=r*q:=by
  rw [a2,k1];simp only [Int.natCast_mul];grind
 rw [e1,e2]
structure Sz (a:Rt) (k:Nat):Prop where
 wn:Wd a.2.1
 wd:Wd a.2.2
 ln:a.2.1.length≤k
 ld:a.2.2.length≤k
theorem low_sz {neg:Bool} {n d k:Nat} (h1:n<4294967296^k) (h2:d<4294967296^k) (hk:1≤k):Sz (lowR neg n d) k:=by
 rw [lowR_eq]
 unfold lowR'
 by_cases h:n=0∨d=0
 · rw [if_pos h]
   exact ⟨.nil,Wd_ofN 1,Nat.zero_le _,Nat.le_trans (ofN_len (v:=1) (k:=1) (by decide)) hk⟩
 · rw [if_neg h]
   exact ⟨Wd_ofN _,Wd_ofN _,ofN_len (Nat.lt_of_le_of_lt (Nat.div_le_self _ _) h1),ofN_len (Nat.lt_of_le_of_lt (Nat.div_le_self _ _) h2)⟩
theorem Sz.nu {a:Rt} {k:Nat} (h:Sz a k):Su.nu a<4294967296^k:=Nat.lt_of_lt_of_le (valN_lt _ h.wn) (Nat.pow_le_pow_right (by omega) h.ln)
theorem Sz.de {a:Rt} {k:Nat} (h:Sz a k):Su.de a<4294967296^k:=Nat.lt_of_lt_of_le (valN_lt _ h.wd) (Nat.pow_le_pow_right (by omega) h.ld)
theorem Sz.mono {a:Rt} {k m:Nat} (h:Sz a k) (hm:k≤m):Sz a m:=⟨h.wn,h.wd,Nat.le_trans h.ln hm,Nat.le_trans h.ld hm⟩
theorem Sz.ok4 {a:Rt} {k:Nat} (h:Sz a k) (hk:k≤400000):Su.ok4 a=true:=by
 unfold Su.ok4
 rw [Nat.ble_eq_true_of_le (Nat.le_trans h.ln hk),Nat.ble_eq_true_of_le (Nat.le_trans h.ld hk)];rfl
theorem Sz.okRt {a:Rt} {k:Nat} (h:Sz a k) (hk:k≤1000000):Su.okRt a=true:=by
 unfold Su.okRt okL
 rw [Nat.ble_eq_true_of_le (Nat.le_trans h.ln hk),Nat.ble_eq_true_of_le (Nat.le_trans h.ld hk)];rfl
theorem rlow_sz {a:Rt} {k:Nat} (h:Sz a k) (hk:1≤k):Sz (rlow a) k:=low_sz h.nu h.de hk
theorem rneg_sz {a:Rt} {k:Nat} (h:Sz a k) (hk:1≤k):Sz (rneg a) k:=low_sz h.nu h.de hk
theorem rabs_sz {a:Rt} {k:Nat} (h:Sz a k) (hk:1≤k):Sz (rabs a) k:=low_sz h.nu h.de hk
theorem mul_pow {a b k m:Nat} (h1:a<4294967296^k) (h2:b<4294967296^m):a*b<4294967296^(k+m):=by
 rw [Nat.pow_add];exact Nat.mul_lt_mul'' h1 h2
theorem rsum_sz {x y:Rt} {k m:Nat} (h:Sz x k) (h':Sz y m):Sz (rsum x y) (k+m+1):=by
 have p1:=mul_pow h.nu h'.de
 have p2:=mul_pow h.de h'.nu
 have p3:=mul_pow h.de h'.de
 rw [Nat.mul_comm] at p2
 have p4:4294967296^(k+m+1)=4294967296^(k+m)*4294967296:=Nat.pow_succ ..
 unfold rsum
 generalize nu x*de y=A at *
 generalize nu y*de x=B at *
 generalize de x*de y=C at *
 generalize 4294967296^(k+m)=P at *
 cases decide (x.1=y.1) with
 | true=>exact low_sz (by omega) (by omega) (by omega)
 | false =>
  cases decide (B≤A) with
  | true=>exact low_sz (by omega) (by omega) (by omega)
  | false=>exact low_sz (by omega) (by omega) (by omega)
theorem radd_sz {a b:Rt} {k m:Nat} (h:Sz a k) (h':Sz b m) (hk:1≤k) (hm:1≤m):Sz (radd a b) (k+m+1):=rsum_sz (rlow_sz h hk) (rlow_sz h' hm)
theorem rsub_sz {a b:Rt} {k m:Nat} (h:Sz a k) (h':Sz b m) (hk:1≤k) (hm:1≤m):Sz (rsub a b) (k+m+1):=radd_sz h (rneg_sz h' hm) hk hm
theorem mk_sz {p:Int} {q k:Nat} (h1:p.natAbs<4294967296^k) (h2:q<4294967296^k) (hk:1≤k):Sz (mkQ p q) k:=low_sz h1 h2 hk
@[irreducible] def EX:Nat:=1074
theorem EX_eq:EX=1074:=by unfold EX;rfl
@[irreducible] def BX:Nat:=2098
theorem BX_eq:BX=2098:=by unfold BX;rfl
@[irreducible] def QD:Nat:=2^EX
theorem QD_eq:QD=2^EX:=by unfold QD;rfl
theorem QD_pos:0<QD:=by rw [QD_eq];exact Nat.two_pow_pos _
def fvK (b:Bool) (k:Nat):Int:=bif finK k then (bif b then -(kV k:Int) else (kV k:Int)) else 0
def fv (f:Nat):Int:=fvK (bS f) (bK f)
theorem kM_lt (k:Nat):kM k<9007199254740992:=by unfold kM;split <;> omega
theorem valR_mk (f:Nat):valR f=mkQ (fv f) QD:=by
 unfold valR fv fvK
 rw [dyV_eq]
 unfold dyV' spM spE
 generalize bS f=b
 generalize bK f=k
 cases hf:finK k with
 | false =>
  simp only [cond_false,Bool.false_and]
  rw [if_neg (by omega)]
  show lowR b _ _=_
  unfold mkQ
  simp [low_zero]
 | true =>
  have hk:=finK_iff.1 hf
  simp only [cond_true,Bool.true_and]
  by_cases h0:k=0
  · subst h0
    rw [show Nat.beq 0 0=true from rfl]
    simp only [Bool.not_true,cond_false]
    rw [if_neg (by omega)]
    have e1:kV 0=0:=rfl
    have e2:kM 0=0:=rfl
    rw [e1,e2]
    unfold mkQ
    cases b <;> simp [low_zero]
  · have hb:Nat.beq k 0=false:=by
     cases h:Nat.beq k 0 with
     | false=>rfl
     | true=>exact absurd (Nat.eq_of_beq_eq_true h) h0
    rw [hb]
    simp only [Bool.not_false,cond_true]
    have hE:kE k≤2045:=by unfold kE;omega
    rw [if_neg (by omega)]
    show lowR b (Int.toNat (kM k:Int)*2^(max ((kE k:Int)-1074) 0).toNat) (2^(max (-((kE k:Int)-1074)) 0).toNat)=_
    rw [Int.toNat_natCast,← low_mk]
    unfold kV
    rw [QD_eq]
    have hX:=EX_eq
    by_cases h:EX≤kE k
    · have e1:(max ((kE k:Int)-1074) 0).toNat=kE k-EX:=by omega
      have e2:(max (-((kE k:Int)-1074)) 0).toNat=0:=by omega
      rw [e1,e2,← low_scale b _ _ (Nat.two_pow_pos EX),Nat.mul_assoc,← Nat.pow_add,← Nat.pow_add,Nat.sub_add_cancel h,Nat.zero_add]
    · have e1:(max ((kE k:Int)-1074) 0).toNat=0:=by omega
      have e2:(max (-((kE k:Int)-1074)) 0).toNat=EX-kE k:=by omega
      rw [e1,e2,← low_scale b _ _ (Nat.two_pow_pos (kE k)),Nat.mul_assoc,← Nat.pow_add,← Nat.pow_add,Nat.sub_add_cancel (by omega),Nat.zero_add]
theorem kV_lt_pow {k:Nat} (h:k≤9218868437227405311):kV k<2^BX:=by
 have h1:kM k<2^53:=kM_lt k
 have h2:kE k+53≤BX:=by rw [BX_eq];unfold kE;omega
 unfold kV
 have h3:=Nat.mul_lt_mul_of_pos_right h1 (Nat.two_pow_pos (kE k))
 rw [← Nat.pow_add] at h3
 exact Nat.lt_of_lt_of_le h3 (Nat.pow_le_pow_right (by omega) (by omega))
theorem fv_abs (f:Nat):(fv f).natAbs<2^BX:=by
 unfold fv fvK
 cases hf:finK (bK f) with
 | false=>exact Nat.two_pow_pos _
 | true =>
  have:=kV_lt_pow (finK_iff.1 hf)
  simp only [cond_true]
  cases bS f
  · simpa using this
  · simpa using this
theorem valR_sz (f:Nat):Sz (valR f) 66:=by
 have h1:=BX_eq
 have h2:=EX_eq
 rw [valR_mk]
 refine mk_sz ?_ ?_ (by omega)
 · rw [pow32,show 32*66=BX+14 by omega];exact Nat.lt_of_lt_of_le (fv_abs f) (Nat.pow_le_pow_right (by omega) (by omega))
 · rw [QD_eq,pow32,show 32*66=EX+1038 by omega];exact Nat.pow_lt_pow_right (by omega) (by omega)
theorem PVal_of (f:Int):PVal_s f=some (bif noNum f.toNat then ((false,([],[])),false) else (valR f.toNat,true)):=by
 unfold PVal_s
 rw [okS_nil,cond_true]
end
end Su
end
section
namespace Su
open Go Fly
set_option linter.unusedVariables false
noncomputable section
structure Fin4 (a:Su.Fm):Prop where
 mid:fI a.2.1=true
 err:fI a.2.2.2=true
 tms:∀ t∈a.2.2.1,fI t.c=true
theorem rise_fin:∀ {l:List Tm} {k:Int},riseF k l=true→∀ t∈l,fI t.c=true
 | [],_,_,t,ht=>by cases ht
 | x::l,k,h,t,ht=>by
  simp only [riseF,Bool.and_eq_true] at h
  rcases List.mem_cons.1 ht with rfl | ht
  · exact h.2.2.1
  · exact rise_fin h.2.2.2 t ht
theorem okF_fin {a:Su.Fm} (h:okF a=true):a.1=false∧Fin4 a:=by
 unfold okF at h
 simp only [Bool.not_eq_true',Bool.or_eq_false_iff,Bool.not_eq_false'] at h
 obtain ⟨h1,h2⟩:=h
 rw [mayF_eq,h1,cond_false] at h2
 simp only [Bool.and_eq_true] at h2
 exact ⟨h1,⟨h2.2.1,h2.2.2.2.1,rise_fin h2.1⟩⟩
def avF (c:Int):Nat:=(fv c.toNat).natAbs
def sumN:List Tm→Nat→Nat
 | [],s=>s
 | t::l,s=>sumN l (s+avF t.c)
def radN (a:Su.Fm):Nat:=sumN a.2.2.1 (avF a.2.2.2)
theorem fin_num (f:Nat):finK (bK f) = !noNum f:=by
 unfold noNum
 rw [← cls_fin]
 cases decide (((clsK (bK f):Nat):Int)=3) <;> cases decide (((clsK (bK f):Nat):Int)=4) <;> rfl
theorem bK_bK (f:Nat):bK (bK f)=bK f:=Nat.mod_mod _ _
theorem bS_bK (f:Nat):bS (bK f)=false:=bS_not.2 (bK_lt f)
theorem cmpQ_le (p r:Int):decide (cmpQ p r≤0)=decide (p≤r):=by
 unfold cmpQ
 by_cases h:p<r
 · rw [if_pos h,decide_eq_true (by omega),decide_eq_true (by omega)]
 · rw [if_neg h]
   by_cases h':p=r
   · rw [if_pos h',decide_eq_true (by omega),decide_eq_true (by omega)]
   · rw [if_neg h',decide_eq_false (by omega),decide_eq_false (by omega)]
end
end Su
end
section
namespace Su
open Go Fly
set_option linter.unusedVariables false
def nanI (f:Int):Bool:=nanK (bK f.toNat)
def ky (f:Int):Int:=keyI f.toNat
def Fw (f:Int):Prop:=0≤f∧f<18446744073709551616
theorem leF_iff {a b:Int}:leF a b=true↔nanI a=false∧nanI b=false∧ky a≤ky b:=by
 unfold leF nanI ky cmpO cmpC cmpZ
 cases nanK (bK a.toNat) <;> cases nanK (bK b.toNat) <;> simp
 by_cases h1:keyI a.toNat<keyI b.toNat
 · rw [decide_eq_true h1];simp;omega
 · rw [decide_eq_false h1]
   by_cases h2:keyI b.toNat<keyI a.toNat
   · rw [decide_eq_true h2];simp;omega
   · rw [decide_eq_false h2];simp;omega
theorem ky_abs (f:Int):(ky f).natAbs=bK f.toNat:=by
 unfold ky keyI
 cases bS f.toNat <;> simp
structure Nz (f:Int):Prop where
 w:Fw f
 n:nanI f=false
 z:f≠9223372036854775808
def SpOk (s:Spn):Prop:=s=noneS∨(s.1=false∧Nz s.2.1∧Nz s.2.2∧ky s.2.1≤ky s.2.2∧s.2.1≠9218868437227405312∧s.2.2≠18442240474082181120)
def SpW (s:Spn):Prop:=Fw s.2.1∧Fw s.2.2
theorem SpOk.w {s:Spn} (h:SpOk s):SpW s:=by
 rcases h with h | ⟨_,h1,h2,_⟩
 · rw [h];exact ⟨⟨by decide,by decide⟩,⟨by decide,by decide⟩⟩
 · exact ⟨h1.w,h2.w⟩
theorem key_inf:ky 9218868437227405312=9218868437227405312:=by decide
theorem key_ninf:ky 18442240474082181120 = -9218868437227405312:=by decide
end Su
end
