/-
  Trees and what they stand for; a statement reads its arguments as trees. No condition.
-/
import Derived.Test.YtdmomplfmfhoiaaGreatDoorShA
namespace Sh
open Go Fly
noncomputable section

/-! ### What is still of use -/
def namesK : List (Nat × SV) → List Nat
  | [] => []
  | (_, v) :: l => namesS v ++ namesK l
def markDead (live : List Nat) (base : Nat) : Nat → List OB → List OB
  | _, [] => []
  | i, b :: l => (bif Nat.blt i base || hasN live i then b else .dead) :: markDead live base (i + 1) l
/-- The dead blocks at the end go. -/
def trimD : List OB → List OB
  | [] => []
  | b :: l => match trimD l, b with
    | [], .dead => []
    | r, b => b :: r
def lowG (h : Nat) : SV → SV := renG fun n => bif Nat.blt n h then some n else none
def pruneSt (base : Nat) (st : St) : St :=
  match st.H with
  | [] => ⟨st.K, [], []⟩
  | b0 :: H0 =>
    let H := b0 :: H0
    let H1 := markDead (reach 99 H (List.range base ++ namesK st.K) []) base 0 H
    let H2 := H1.take base ++ trimD (H1.drop base)
    let h := H2.length
    bif Nat.beq h H.length then ⟨st.K, [], H2⟩ else ⟨mpK (lowG h) st.K, [], H2.map (OB.mp (lowG h))⟩

/-! ### Regions -/
def isNew : Op → Bool
  | .alloc _ | .box _ _ => true
  | _ => false
def newCells (E : Env) (st : St) : Op → Option (List SV)
  | .alloc e => (E.T.ze e).bind fun z => some (mpT (zCs z (E.T.zs e)))
  | .box _ x => (opd E st x).bind boxC
  | _ => none
def addNews (E : Env) : St → List (Option Nat × List SV) → St
  | st, [] => st
  | st, (d, c) :: l => addNews E { putD E st d (.ref st.H.length 0) with H := st.H ++ [.cells c] } l
/-- Does an operation leave own memory alone? -/
def quietO (T : Tbl) : Op → Bool
  | .alloc _ | .box _ _ | .buildSlice .. | .store .. | .makeSlice .. => false
  | .move (.const (.slice ..)) | .assign (.const (.slice ..)) => false
  | .call c => match c.callee with
    | .builtin b => (match b with | .append => false | .copy => false | _ => true)
    | .value (.func f) => Nat.ble (T.mode f) 1
    | _ => false
  | _ => true
def oneO {O : Type} (E : Env) (q : Bool) (m : Nat) (nw : List (Option Nat × List SV)) (st : St) (o : Oper) (k : St → List (Option Nat × List SV) → Option O) : Option O :=
  match m with
  | 0 => evOp E (!q) st o fun sv st' => k (putD E st' o.dst sv) nw
  | m + 1 =>
    bif isNew o.op then (newCells E st o.op).bind fun c =>
        (match m with | 0 => k (addNews E (putD E st o.dst .bad) (nw ++ [(o.dst, c)])) [] | _ => k (putD E st o.dst .bad) (nw ++ [(o.dst, c)]))
    else evOp E false st o fun sv _ => (match m with | 0 => k (addNews E (putD E st o.dst sv) nw) [] | _ => k (putD E st o.dst sv) nw)
def noneO {O : Type} (E : Env) (m : Nat) (nw : List (Option Nat × List SV)) (st : St) (o : Oper) (k : St → List (Option Nat × List SV) → Option O) : Option O :=
  match m with
  | 1 => k (addNews E (putD E st o.dst (.un)) nw) []
  | _ => k (putD E st o.dst (.un)) nw
def isUndef : SV → Bool
  | .un => true
  | _ => false
def dstK (keep : List Nat) (K : List (Nat × SV)) : List Oper → List Nat
  | [] => []
  | o :: l => match o.dst with
    | some d => bif hasN keep d || hasK K d then d :: dstK keep K l else dstK keep K l
    | none => dstK keep K l
def addKeys : List (Nat × SV) → List Nat → List (Nat × SV)
  | K, [] => K
  | K, d :: ds => match lkG K d with
    | some _ => addKeys K ds
    | none => addKeys (K ++ [(d, .bad)]) ds
def keysK : List (Nat × SV) → List Nat
  | [] => []
  | (k, _) :: l => k :: keysK l
def valsK : List (Nat × SV) → List SV
  | [] => []
  | (_, v) :: l => v :: valsK l
def hdV : List SV → SV
  | [] => .bad
  | x :: _ => x
def tlV : List SV → List SV
  | [] => []
  | _ :: l => l
def zipK (ks : List Nat) : List SV → List (Nat × SV) := List.rec (fun _ => []) (fun k _ ih vs => (k, hdV vs) :: ih (tlV vs)) ks
def clearD (keep : List Nat) : List Oper → St → St
  | [], st => st
  | o :: l, st => match o.dst with
    | some d => clearD keep l (st.put keep d .bad)
    | none => clearD keep l st
/-- The rest of a region: its further rows. -/
abbrev Rest := ∀ {O : Type}, Bool → Nat → List (Option Nat × List SV) → List Nat → St → (St → Option O) → Option O
section
variable (E : Env)
def doO {O : Type} (q : Bool) (m : Nat) (nw : List (Option Nat × List SV)) (D : List Nat) (st : St) (o : Oper) (yes : Bool) (rest : Rest) (k : St → Option O) : Option O :=
  bif yes then oneO E q m nw st o fun st' nw' => rest q (m - 1) nw' D st' k
  else noneO E m nw st o fun st' nw' => rest q (m - 1) nw' D st' k
def finW (W : List Nat) (st : St) : Option (List SV) := some (W.map fun d => (st.look d).getD .bad)
def mergeW (W : List Nat) (st : St) (vs : List SV) : St := ⟨(zipK W vs).foldl (fun K p => setK K p.1 p.2) st.K, [], st.H⟩
def splitQ {O : Type} (m : Nat) (nw : List (Option Nat × List SV)) (D : List Nat) (st : St) (o : Oper) (g : Nat) (b c : Bool) (W : List Nat) (rest : Rest) (k : St → Option O) : Option O :=
  (bif c then doO E true m nw D (st.put E.keep g (mkB true)) o (true == b) rest (finW W) else doO E true m nw D (st.put E.keep g (mkB false)) o (false == b) rest (finW W)).bind fun vs => k (mergeW W st vs)
def finF (keys : List Nat) (st : St) : Option (List SV × List OB) := some (keys.map fun d => (st.look d).getD .bad, st.H)
def splitF {O : Type} (q : Bool) (m : Nat) (nw : List (Option Nat × List SV)) (D : List Nat) (st : St) (o : Oper) (g : Nat) (b c : Bool) (rest : Rest) (k : St → Option O) : Option O :=
  (bif c then doO E q m nw D (st.put E.keep g (mkB true)) o (true == b) rest (finF (keysK st.K)) else doO E q m nw D (st.put E.keep g (mkB false)) o (false == b) rest (finF (keysK st.K))).bind fun p => k ⟨zipK (keysK st.K) p.1, [], p.2⟩
def guardO {O : Type} (q : Bool) (m : Nat) (nw : List (Option Nat × List SV)) (D : List Nat) (st : St) (o : Oper) (r : List Oper) (j g : Nat) (b : Bool) (v : SV) (rest : Rest) (k : St → Option O) : Option O :=
  bif isUndef v then (match m with | 0 => doO E q 0 nw D st o false rest k | _ => none)
  else (asB v).bind fun c => bif hasN D j then doO E q m nw D st o (c == b) rest k
  else bif (o :: r).all (fun o => quietO E.T o.op) && nw.isEmpty then splitQ E m nw (j :: D) st o g b c (dstK E.keep st.K (o :: r)) rest k
  else bif q then none else splitF E q m nw (j :: D) ⟨addKeys st.K (dstK E.keep st.K (o :: r)), st.Tm, st.H⟩ o g b c rest k
def evOps (all : Array Oper) : List Oper → Rest
  | [], _, _, _, _, _, st, k => k st
  | o :: r, _, q, m, nw, D, st, k => match o.guard with
    | none => doO E q m nw D st o true (evOps all r) k
    | some p => match (all[p.1]?).bind (·.dst) with
      | none => none
      | some g => (st.look g).bind fun v => guardO E q m nw D st o r p.1 g p.2 v (evOps all r) k
end

/-! ### Code -/
def exN (i : Nat) : Code → Nat
  | .exit j => bif Nat.beq i j then 1 else 0
  | .seq a b => exN i a + exN i b
  | .cond _ x y => exN i x + exN i y
  | .block _ b => exN i b
  | .loop b => min 1 (exN i b)
  | _ => 0
def panics : Op → Bool
  | .panic _ => true
  | _ => false
def falls : Code → Bool
  | .skip => true
  | .label _ => true
  | .region _ ops _ => !(ops.toList.any fun o => panics o.op)
  | .seq a b => falls a && falls b
  | .cond _ x y => falls x || falls y
  | .block i b => falls b || Nat.blt 0 (exN i b)
  | _ => false
def disp {O : Type} (keys : List Nat) (kn : St → Option O) (ke : Nat → St → Option O) (kr : List SV → List OB → Option O) : Fl → Option O
  | .norm vs H => kn ⟨zipK keys vs, [], H⟩
  | .exit i vs H => ke i ⟨zipK keys vs, [], H⟩
  | .ret rs H => kr rs H
def rdRes (E : Env) : St → List ResultVar → Option (List SV × St)
  | st, [] => some ([], st)
  | st, .tmp t :: l => ((st.look t).bind nb).bind fun v => (rdRes E st l).bind fun p => some (v :: p.1, p.2)
  | st, .cell b t :: l => ((st.look b).bind nb).bind fun a => ldO E true st a t fun v st' => (rdRes E st' l).bind fun p => some (v :: p.1, p.2)
def resN : Nat → List SV → List (Nat × SV)
  | _, [] => []
  | i, v :: l => (i, v) :: resN (i + 1) l
def retO {O : Type} (E : Env) (rs : List ResultVar) (st : St) (kr : List SV → List OB → Option O) : Option O :=
  (rdRes E st rs).bind fun p => let st' := pruneSt E.base ⟨resN 0 p.1, [], p.2.H⟩; kr (valsK st'.K) st'.H
def onlyK (keys : List Nat) (st : St) : List (Nat × SV) := keys.map fun d => (d, (st.look d).getD .bad)
def cutK (E : Env) (keys : List Nat) (st : St) : St := pruneSt E.base ⟨onlyK keys st, [], st.H⟩
def outN {O : Type} (E : Env) (keys : List Nat) (f : List SV → List OB → O) (st : St) : Option O := let s := cutK E keys st; some (f (valsK s.K) s.H)
abbrev Run := ∀ {O : Type}, (St → Option O) → (Nat → St → Option O) → (List SV → List OB → Option O) → St → Option O
def joinC {O : Type} (E : Env) (x : Run) (keys : List Nat) (kn : St → Option O) (ke : Nat → St → Option O) (kr : List SV → List OB → Option O) (st : St) : Option O :=
  (x (outN E keys .norm) (fun i => outN E keys (.exit i)) (fun r H => some (.ret r H)) st).bind (disp keys kn ke kr)
def condC {O : Type} (E : Env) (t j : Bool) (x y : Run) (kn : St → Option O) (ke : Nat → St → Option O) (kr : List SV → List OB → Option O) (st : St) : Option O :=
  bif j then joinC E (fun kn ke kr st => bif t then x kn ke kr st else y kn ke kr st) (keysK st.K) kn ke kr st
  else bif t then x kn ke kr st else y kn ke kr st
def blockC {O : Type} (E : Env) (i : Nat) (j : Bool) (x : Run) (kn : St → Option O) (ke : Nat → St → Option O) (kr : List SV → List OB → Option O) (st : St) : Option O :=
  bif j then x kn (fun j st' => bif Nat.beq j i then kn st' else ke j st') kr st
  else joinC E x (keysK st.K) kn (fun j st' => bif Nat.beq j i then kn st' else ke j st') kr st
def bodyC (E : Env) (x : Run) (keys : List Nat) (vs : List SV) (H : List OB) : Option Fl :=
  x (outN E keys .norm) (fun i => outN E keys (.exit i)) (fun r H => some (.ret r H)) ⟨zipK keys vs, [], H⟩
def loopC {O : Type} (E : Env) (x : Run) (ke : Nat → St → Option O) (kr : List SV → List OB → Option O) (st : St) : Option O :=
  (E.it (bodyC E x (keysK st.K)) (valsK st.K) st.H).bind (disp (keysK st.K) (fun _ => none) ke kr)
def regC {O : Type} (E : Env) (id : Nat) (ops : Array Oper) (draw : Bool) (kn : St → Option O) (st : St) : Option O :=
  (let m := bif draw then E.T.dm E.f id else 0; evOps E ops ops.toList false m [] [] (clearD E.keep (ops.toList.take m) st) fun st' => kn (pruneSt E.base st'))
def shC (E : Env) (rs : List ResultVar) : Code → Run
  | .skip, _, kn, _, _, st => kn st
  | .region id ops draw, _, kn, _, _, st => regC E id ops draw kn st
  | .seq a b, _, kn, ke, kr, st => shC E rs a (shC E rs b kn ke kr) ke kr st
  | .cond c x y, _, kn, ke, kr, st => (opd E st c).bind fun v => (asB v).bind fun t => condC E t (falls x && falls y) (shC E rs x) (shC E rs y) kn ke kr st
  | .block i b, _, kn, ke, kr, st => blockC E i (Nat.ble ((bif falls b then 1 else 0) + exN i b) 1) (shC E rs b) kn ke kr st
  | .loop b, _, _, ke, kr, st => loopC E (shC E rs b) ke kr st
  | .exit i, _, _, ke, _, st => ke i st
  | .ret, _, _, _, kr, st => retO E rs st kr
  | _, _, _, _, _, _ => none

/-! ### Functions -/
def shBody (T : Tbl) (call : Nat → List SV → List OB → Option (List SV × List OB)) (it : (List SV → List OB → Option Fl) → List SV → List OB → Option Fl) (f : Nat) (args : List SV) (H : List OB) : Option (List SV × List OB) :=
  (T.fns f).bind fun fn => match fn.body with
    | none => none
    | some c => bif Nat.ble args.length fn.ntmps then
      let E : Env := ⟨T, f, T.keep f, H.length, call, it⟩
      shC E fn.results.toList c (fun st => retO E fn.results.toList st fun r H => some (r, H)) (fun _ _ => none) (fun r H => some (r, H)) ⟨resN 0 args, [], H⟩ else none
def itrN : Nat → (List SV → List OB → Option Fl) → List SV → List OB → Option Fl
  | 0, _, _, _ => none
  | n + 1, F, vs, H => (F vs H).bind fun r => match r with
    | .norm vs' H' => itrN n F vs' H'
    | r => some r
/-- Functions that are not run but known: by a law of their own. -/
abbrev Prims := Nat → Option (List T → Option (List T))
def withPrims (pr : Prims) (g : Nat → List SV → List OB → Option (List SV × List OB)) (f : Nat) (args : List SV) (H : List OB) : Option (List SV × List OB) :=
  match pr f with
  | some p => (asTs args).bind fun xs => (p xs).bind fun r => some (mpT r, H)
  | none => g f args H
def shN (T : Tbl) (pr : Prims) : Nat → Nat → List SV → List OB → Option (List SV × List OB)
  | 0, _, _, _ => none
  | n + 1, f, args, H => withPrims pr (shBody T (shN T pr n) (itrN n)) f args H
end
end Sh
