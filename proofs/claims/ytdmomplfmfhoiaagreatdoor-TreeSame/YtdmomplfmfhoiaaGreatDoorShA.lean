/-
  Trees and what they stand for; a statement reads its arguments as trees. No condition.
-/
import Derived.Test.YtdmomplfmfhoiaaGreatDoorFlyP
namespace Sh
open Go Fly
noncomputable section

/-! ### Data -/
/-- A value that nobody writes any more, as a tree. -/
inductive T where
  | s (v : Value)
  | agg (l : List T)
  | sl (k : Nat) (l : List T)
  | pt (x : T) (off : Nat)
  | fn (f : Nat) (fst cap : List T)
/-- What a slot holds: a tree, or a word of own memory (its blocks are named by their places in a list). -/
inductive SV where
  | t (x : T)
  | ref (n off : Nat)
  | osl (n off len : Nat)
  | ep (n i off : Nat)
  | clo (f : Nat) (fst cap : List SV)
  | tup (l : List SV)
  | un
  | bad
/-- An own block: a variable's cells; a row of elements (its element type, the cells of one; may it not be moved?). -/
inductive OB where
  | cells (l : List SV)
  | row (fx : Bool) (e k : Nat) (l : List T)
  | dead
structure St where
  K : List (Nat × SV)
  Tm : List (Nat × SV)
  H : List OB
inductive Fl where
  | norm (vs : List SV) (H : List OB)
  | exit (i : Nat) (vs : List SV) (H : List OB)
  | ret (rs : List SV) (H : List OB)
/-- What kind of values a type has. -/
inductive Kd where
  | int (κ : IntKind)
  | bool
  | str
  | flat (us : List TypeDesc)
structure Tbl where
  ty : Nat → Option (Bool × Nat)
  kd : Nat → Option Kd
  fo : Nat → Nat → Option (Nat × Bool × Nat)
  el : Nat → Option (Nat × Nat)
  ze : Nat → Option (List Value)
  zs : Nat → List (Option (Nat × Nat))
  sml : Nat → Bool
  glob : Nat → Option T
  keep : Nat → List Nat
  dm : Nat → Nat → Nat
  mode : Nat → Nat
  fns : Nat → Option Func
structure Env where
  T : Tbl
  f : Nat
  keep : List Nat
  base : Nat
  call : Nat → List SV → List OB → Option (List SV × List OB)
  it : (List SV → List OB → Option Fl) → List SV → List OB → Option Fl

/-! ### Small words -/
def lkG {α : Type} (l : List (Nat × α)) (t : Nat) : Option α :=
  List.rec none (fun p _ ih => Prod.rec (fun k v => Bool.rec ih (some v) (Nat.beq k t)) p) l
def hasN (l : List Nat) (t : Nat) : Bool := List.rec false (fun k _ ih => Bool.rec ih true (Nat.beq k t)) l
def setK (l : List (Nat × SV)) (d : Nat) (v : SV) : List (Nat × SV) :=
  List.rec [(d, v)] (fun p l ih => Prod.rec (fun k u => Bool.rec ((k, u) :: ih) ((k, v) :: l) (Nat.beq k d)) p) l
@[simp] theorem lkG_nil {α : Type} (t : Nat) : lkG ([] : List (Nat × α)) t = none := rfl
theorem lkG_cons {α : Type} (k : Nat) (v : α) (l : List (Nat × α)) (t : Nat) : lkG ((k, v) :: l) t = bif Nat.beq k t then some v else lkG l t := by
  cases h : Nat.beq k t <;> simp [lkG, h]
@[simp] theorem hasN_nil (t : Nat) : hasN [] t = false := rfl
theorem hasN_cons (k : Nat) (l : List Nat) (t : Nat) : hasN (k :: l) t = bif Nat.beq k t then true else hasN l t := by
  cases h : Nat.beq k t <;> simp [hasN, h]
@[simp] theorem setK_nil (d : Nat) (v : SV) : setK [] d v = [(d, v)] := rfl
theorem setK_cons (k : Nat) (u : SV) (l : List (Nat × SV)) (d : Nat) (v : SV) : setK ((k, u) :: l) d v = bif Nat.beq k d then (k, v) :: l else (k, u) :: setK l d v := by
  cases h : Nat.beq k d <;> simp [setK, h]
def cutG {α : Type} : List α → Nat → Nat → Option (List α)
  | _, 0, 0 => some []
  | [], _, _ => none
  | x :: l, 0, k + 1 => (cutG l 0 k).bind fun r => some (x :: r)
  | _ :: l, o + 1, k => cutG l o k
def overG {α : Type} : List α → List α → Option (List α)
  | l, [] => some l
  | [], _ :: _ => none
  | _ :: l, v :: vs => (overG l vs).bind fun r => some (v :: r)
def putG {α : Type} : List α → Nat → List α → Option (List α)
  | l, 0, vs => overG l vs
  | [], _ + 1, _ => none
  | x :: l, o + 1, vs => (putG l o vs).bind fun r => some (x :: r)
def T.cells : T → List T
  | .agg l => l
  | x => [x]
def T.isAgg : T → Bool
  | .agg _ => true
  | _ => false
/-- A part of a tree's cells, as a value of a type. -/
def ldT (x : T) (off : Nat) (g : Bool) (k : Nat) : Option T :=
  bif g then bif Nat.blt 0 k then (cutG x.cells off k).bind fun r => some (.agg r) else none else (x.cells)[off]?
def zC : Value → T
  | .slice none 0 0 => .sl 0 []
  | v => .s v
/-- The noughts of a type's cells; of a nil slice its elements' size is handed in. -/
def nilHint : Value → List (Option (Nat × Nat)) → Option (Nat × Nat)
  | .slice none 0 0, p :: _ => p
  | _, _ => none
def zCs : List Value → List (Option (Nat × Nat)) → List T
  | [], _ => []
  | v :: l, hs => (match nilHint v hs with | some p => .sl p.2 [] | none => zC v) :: zCs l hs.tail
def zT : Value → T
  | .agg cs => .agg (cs.toList.map zC)
  | v => zC v
def sub (l : List T) (off len : Nat) : Option (List T) := bif Nat.ble (off + len) l.length then some ((l.drop off).take len) else none
def idx (l : List T) (i : Int) : Option T := bif decide (0 ≤ i) then l[i.toNat]? else none
mutual
def SV.mp (g : SV → SV) : SV → SV
  | .clo f a b => .clo f (mpL g a) (mpL g b)
  | .tup l => .tup (mpL g l)
  | x => g x
def mpL (g : SV → SV) : List SV → List SV
  | [] => []
  | x :: l => x.mp g :: mpL g l
end
def OB.mp (g : SV → SV) : OB → OB
  | .cells l => .cells (mpL g l)
  | o => o
def mpK (g : SV → SV) : List (Nat × SV) → List (Nat × SV)
  | [] => []
  | (k, v) :: l => (k, v.mp g) :: mpK g l
def St.mp (g : SV → SV) (st : St) : St := ⟨mpK g st.K, mpK g st.Tm, st.H.map (OB.mp g)⟩
def poisonG (n : Nat) : SV → SV
  | .ref m o => bif Nat.beq m n then .bad else .ref m o
  | .osl m o l => bif Nat.beq m n then .bad else .osl m o l
  | .ep m i o => bif Nat.beq m n then .bad else .ep m i o
  | x => x
/-- A row is not written any more: who names it holds a tree now. -/
def frowG (n k : Nat) (l : List T) : SV → SV
  | .osl m o len => bif Nat.beq m n then (match sub l o len with | some r => .t (.sl k r) | none => .bad) else .osl m o len
  | .ep m i o => bif Nat.beq m n then (match l[i]? with | some x => .t (.pt x o) | none => .bad) else .ep m i o
  | .ref m o => bif Nat.beq m n then .bad else .ref m o
  | x => x
def fcellG (n : Nat) (l : List T) : SV → SV
  | .ref m o => bif Nat.beq m n then .t (.pt (.agg l) o) else .ref m o
  | .osl m o len => bif Nat.beq m n then .bad else .osl m o len
  | .ep m i o => bif Nat.beq m n then .bad else .ep m i o
  | x => x
def St.frow (st : St) (n k : Nat) (l : List T) : St := { st.mp (frowG n k l) with H := (st.H.set n .dead).map (OB.mp (frowG n k l)) }
def St.fcell (st : St) (n : Nat) (l : List T) : St := { st.mp (fcellG n l) with H := (st.H.set n .dead).map (OB.mp (fcellG n l)) }
def St.look (st : St) (t : Nat) : Option SV := match lkG st.K t with
  | some v => some v
  | none => lkG st.Tm t
def hasK (l : List (Nat × SV)) (t : Nat) : Bool := List.rec false (fun p _ ih => Prod.rec (fun k _ => Bool.rec ih true (Nat.beq k t)) p) l
def St.put (st : St) (keep : List Nat) (d : Nat) (v : SV) : St := bif hasK st.K d || hasN keep d then { st with K := setK st.K d v } else { st with Tm := (d, v) :: st.Tm }
def putD (E : Env) (st : St) (d : Option Nat) (v : SV) : St := match d with
  | none => st
  | some d => st.put E.keep d v

/-! ### A tree out of what a slot holds: own memory in it is not written any more -/
mutual
def toT : Nat → St → SV → Option (T × St)
  | _, st, .t x => some (x, st)
  | _, st, .osl n o len => match st.H[n]? with
    | some (.row false _ k l) => (sub l o len).bind fun r => some (.sl k r, st.frow n k l)
    | _ => none
  | _, st, .ep n i o => match st.H[n]? with
    | some (.row false _ k l) => (l[i]?).bind fun x => some (.pt x o, st.frow n k l)
    | _ => none
  | d + 1, st, .ref n o => match st.H[n]? with
    | some (.cells l) => (toTs d st l).bind fun p => match p.2.H[n]? with
      | some (.cells _) => some (.pt (.agg p.1) o, p.2.fcell n p.1)
      | _ => none
    | _ => none
  | d + 1, st, .clo f a b => (toTs d st a).bind fun p => (toTs d p.2 b).bind fun q => some (.fn f p.1 q.1, q.2)
  | _, _, _ => none
def toTs : Nat → St → List SV → Option (List T × St)
  | _, st, [] => some ([], st)
  | 0, _, _ :: _ => none
  | d + 1, st, x :: l => (toT d st x).bind fun p => (toTs d p.2 l).bind fun q => some (p.1 :: q.1, q.2)
end
/-- The same for a while: nothing is given away. -/
def snap (H : List OB) : SV → Option T
  | .t x => some x
  | .osl n o len => match H[n]? with
    | some (.row _ _ k l) => (sub l o len).bind fun r => some (.sl k r)
    | _ => none
  | _ => none
def snaps (H : List OB) : List SV → Option (List T)
  | [] => some []
  | x :: l => (snap H x).bind fun a => (snaps H l).bind fun b => some (a :: b)

/-! ### Operands -/
def isSc : Value → Bool
  | .bool _ | .int _ _ | .float _ _ | .complex _ _ _ | .string _ | .pointer none | .map none | .chan none | .nilFunc | .nilIface => true
  | _ => false
def cOne : Value → Bool
  | .slice none 0 0 => true
  | v => isSc v
def cOk : Value → Bool
  | .agg cs => cs.toList.all cOne
  | v => cOne v
def nb : SV → Option SV
  | .bad => none
  | x => some x
def opd (E : Env) (st : St) : Operand → Option SV
  | .tmp t => (st.look t).bind nb
  | .const v => bif cOk v then some (.t (zT v)) else none
  | .global g => (E.T.glob g).bind fun x => some (.t (.pt x 0))
  | .func f => some (.t (.fn f [] []))
def opds (E : Env) (st : St) : List Operand → Option (List SV)
  | [] => some []
  | x :: l => (opd E st x).bind fun a => (opds E st l).bind fun b => some (a :: b)
def asB : SV → Option Bool
  | .t (.s (.bool b)) => some b
  | _ => none
def asI (κ : IntKind) : SV → Option Int
  | .t (.s (.int κ' n)) => bif decide (κ' = κ) then some n else none
  | _ => none
/-- An integer of whatever kind (an index). -/
def asN : SV → Option Int
  | .t (.s (.int _ n)) => some n
  | _ => none
def asS : SV → Option ByteArray
  | .t (.s (.string b)) => some b
  | _ => none
def asSl (k : Nat) : SV → Option (List T)
  | .t (.sl k' l) => bif Nat.beq k' k then some l else none
  | _ => none
def asAgg : SV → Option (List T)
  | .t (.agg l) => some l
  | _ => none
def mkB (b : Bool) : SV := .t (.s (.bool b))
def mkI (κ : IntKind) (n : Int) : SV := .t (.s (.int κ n))

/-! ### Operations without memory -/
def intOp (op : BinOp) (κ : IntKind) (p q : Int) : Option SV :=
  match op with
  | .add => some (mkI κ (κ.wrap (p + q)))
  | .sub => some (mkI κ (κ.wrap (p - q)))
  | .mul => some (mkI κ (κ.wrap (p * q)))
  | .quo => bif decide (q = 0) then none else some (mkI κ (κ.wrap (p.tdiv q)))
  | .rem => bif decide (q = 0) then none else some (mkI κ (p.tmod q))
  | .and => some (mkI κ (bitv .and κ p q))
  | .or => some (mkI κ (bitv .or κ p q))
  | .xor => some (mkI κ (bitv .xor κ p q))
  | .andNot => some (mkI κ (bitv .andNot κ p q))
  | .eql => some (mkB (decide (p = q)))
  | .neq => some (mkB (!decide (p = q)))
  | .lss => some (mkB (decide (p < q)))
  | .leq => some (mkB (decide (p ≤ q)))
  | .gtr => some (mkB (decide (q < p)))
  | .geq => some (mkB (decide (q ≤ p)))
  | _ => none
def shOp (op : BinOp) (κ : IntKind) (p q : Int) : Option SV :=
  match op with
  | .shl => some (mkI κ (κ.wrap (p * 2 ^ (min q.toNat κ.bits))))
  | .shr => some (mkI κ (p.fdiv (2 ^ (min q.toNat κ.bits))))
  | _ => none
def vals : List T → Option (List Value)
  | [] => some []
  | .s v :: l => (vals l).bind fun r => some (v :: r)
  | _ :: _ => none
def isSh : BinOp → Bool
  | .shl | .shr => true
  | _ => false
def binO {O : Type} (E : Env) (op : BinOp) (t u : Nat) (x y : SV) (k : SV → Option O) : Option O :=
  match E.T.kd t with
  | some (.int κ) => bif isSh op then
      (match E.T.kd u with
       | some (.int κ') => (asI κ x).bind fun p => (asI κ' y).bind fun q => bif decide (0 ≤ q) then (shOp op κ p q).bind k else none
       | _ => none)
    else (asI κ x).bind fun p => (asI κ y).bind fun q => (intOp op κ p q).bind k
  | some .bool => (asB x).bind fun p => (asB y).bind fun q => match op with
    | .eql => k (mkB (decide (p = q)))
    | .neq => k (mkB (!decide (p = q)))
    | _ => none
  | some .str => (asS x).bind fun p => (asS y).bind fun q => match op with
    | .eql => k (mkB (decide (p = q)))
    | .neq => k (mkB (!decide (p = q)))
    | .add => bif Nat.ble (p.size + q.size) 549755813888 then k (.t (.s (.string (p ++ q)))) else none
    | _ => none
  | some (.flat us) => (asAgg x).bind fun p => (asAgg y).bind fun q => (vals p).bind fun p => (vals q).bind fun q => (eqAll us p q).bind fun b => match op with
    | .eql => k (mkB b)
    | .neq => k (mkB (!b))
    | _ => none
  | none => none
def unO {O : Type} (op : UnOp) (x : SV) (k : SV → Option O) : Option O :=
  match op with
  | .not => (asB x).bind fun b => k (mkB (!b))
  | .neg => match x with
    | .t (.s (.int κ p)) => k (mkI κ (κ.wrap (0 - p)))
    | _ => none
  | _ => none
/-! ### Operations on memory -/
def toTF (fr : Bool) (st : St) (v : SV) : Option (T × St) := bif fr then toT 64 st v else (match v with | .t x => some (x, st) | _ => none)
def asTs : List SV → Option (List T)
  | [] => some []
  | .t x :: l => (asTs l).bind fun r => some (x :: r)
  | _ :: _ => none
def toTsF (fr : Bool) (st : St) (l : List SV) : Option (List T × St) := bif fr then toTs 64 st l else (asTs l).bind fun r => some (r, st)
def mpT : List T → List SV
  | [] => []
  | x :: l => .t x :: mpT l
def oneC : SV → Bool
  | .t (.agg _) => false
  | .tup _ => false
  | .un => false
  | .bad => false
  | _ => true
/-- The cells that a value takes in a variable of a type. -/
def cellsOf (fr : Bool) (st : St) (g : Bool) (k : Nat) (v : SV) : Option (List SV × St) :=
  bif g then (toTF fr st v).bind fun p => match p.1 with
    | .agg l => bif Nat.beq l.length k then some (mpT l, p.2) else none
    | _ => none
  else bif oneC v && Nat.beq k 1 then some ([v], st) else none
def ldO {O : Type} (E : Env) (fr : Bool) (st : St) (a : SV) (t : Nat) (k : SV → St → Option O) : Option O :=
  (E.T.ty t).bind fun p => match a with
    | .t (.pt x off) => (ldT x off p.1 p.2).bind fun y => k (.t y) st
    | .ref n off => match st.H[n]? with
      | some (.cells l) => bif p.1 then (cutG l off p.2).bind fun r => (toTsF fr st r).bind fun q => k (.t (.agg q.1)) q.2 else (l[off]?).bind fun y => k y st
      | _ => none
    | .ep n i off => match st.H[n]? with
      | some (.row _ _ _ l) => (l[i]?).bind fun x => (ldT x off p.1 p.2).bind fun y => k (.t y) st
      | _ => none
    | _ => none
def putT (x : T) (off : Nat) (cs : List T) : Option T :=
  match x with
  | .agg l => (putG l off cs).bind fun r => some (.agg r)
  | _ => match off, cs with
    | 0, [c] => bif c.isAgg then none else some c
    | _, _ => none
def stO {O : Type} (E : Env) (fr : Bool) (st : St) (a : SV) (t : Nat) (v : SV) (k : St → Option O) : Option O :=
  (E.T.ty t).bind fun p => match a with
    | .ref n off => (cellsOf fr st p.1 p.2 v).bind fun c => match c.2.H[n]? with
      | some (.cells l) => (putG l off c.1).bind fun r => k { c.2 with H := c.2.H.set n (.cells r) }
      | _ => none
    | .ep n i off => (toTF fr st v).bind fun c => match c.2.H[n]? with
      | some (.row fx e w l) => (l[i]?).bind fun x => bif (bif p.1 then c.1.isAgg else !c.1.isAgg) && Nat.beq c.1.cells.length p.2 then
          (putT x off c.1.cells).bind fun y => k { c.2 with H := c.2.H.set n (.row fx e w (l.set i y)) } else none
      | _ => none
    | _ => none
/-- New cells for a variable that begins as nought: a nil slice is a row of its own. -/
def zeroCells : Nat → List Value → List (Option (Nat × Nat)) → List SV × List OB
  | _, [], _ => ([], [])
  | n, v :: l, hs => match nilHint v hs with
    | some p => (.osl n 0 0 :: (zeroCells (n + 1) l hs.tail).1, .row false p.1 p.2 [] :: (zeroCells (n + 1) l hs.tail).2)
    | none => (.t (zC v) :: (zeroCells n l hs.tail).1, (zeroCells n l hs.tail).2)
def boxC : SV → Option (List SV)
  | .t (.agg l) => some (mpT l)
  | .tup _ => none
  | .un => none
  | .bad => none
  | x => some [x]
def addrO {O : Type} (a : SV) (off : Nat) (k : SV → Option O) : Option O :=
  match a with
  | .t (.pt x o) => k (.t (.pt x (o + off)))
  | .ref n o => k (.ref n (o + off))
  | .ep n i o => k (.ep n i (o + off))
  | _ => none
def lenO {O : Type} (E : Env) (x : SV) (t : Nat) (k : SV → Option O) : Option O :=
  match E.T.kd t with
  | some .str => (asS x).bind fun s => k (mkI .i64 s.size)
  | _ => match E.T.el t with
    | some p => (match x with
      | .osl _ _ len => k (mkI .i64 len)
      | y => (asSl p.2 y).bind fun l => k (mkI .i64 l.length))
    | none => none
def ixO {O : Type} (E : Env) (st : St) (x : SV) (i : SV) (t : Nat) (k : SV → Option O) : Option O :=
  (E.T.el t).bind fun p => (asN i).bind fun j => match x with
    | .osl n off len => match st.H[n]? with
      | some (.row _ _ w _) => bif Nat.beq w p.2 && decide (0 ≤ j) && decide (j < len) then k (.ep n (off + j.toNat) 0) else none
      | _ => none
    | y => (asSl p.2 y).bind fun l => (idx l j).bind fun z => k (.t (.pt z 0))
def apO {O : Type} (E : Env) (st : St) (x y : SV) (t : Nat) (k : SV → St → Option O) : Option O :=
  (E.T.el t).bind fun p => (E.T.ze p.1).bind fun z => bif E.T.sml p.1 && Nat.beq z.length p.2 then (snap st.H y).bind fun y => (asSl p.2 (.t y)).bind fun l2 => match x with
    | .osl n 0 len => match st.H[n]? with
      | some (.row false e w l) => bif Nat.beq e p.1 && Nat.beq w p.2 && Nat.beq len l.length && Nat.ble (l.length + l2.length) 549755813888 then
          (let st1 := st.mp (poisonG n); k (.osl n 0 (l ++ l2).length) { st1 with H := st1.H.set n (.row false e w (l ++ l2)) }) else none
      | _ => none
    | _ => none
  else none
def isNilC : Operand → Bool
  | .const (.slice none 0 0) => true
  | _ => false
def apN {O : Type} (E : Env) (st : St) (y : SV) (t : Nat) (k : SV → St → Option O) : Option O :=
  (E.T.el t).bind fun p => (E.T.ze p.1).bind fun z => bif E.T.sml p.1 && Nat.beq z.length p.2 then (snap st.H y).bind fun y => (asSl p.2 (.t y)).bind fun l2 =>
    bif Nat.ble l2.length 549755813888 then k (.osl st.H.length 0 l2.length) { st with H := st.H ++ [.row false p.1 p.2 l2] } else none
  else none
def zeroT (E : Env) (e : Nat) : Option T :=
  (E.T.ty e).bind fun p => (E.T.ze e).bind fun z => bif p.1 then some (.agg (zCs z (E.T.zs e))) else match zCs z (E.T.zs e) with
    | [x] => some x
    | _ => none
def mkO {O : Type} (E : Env) (st : St) (t : Nat) (x y : SV) (k : SV → St → Option O) : Option O :=
  (E.T.el t).bind fun p => (asN x).bind fun a => (asN y).bind fun b => bif E.T.sml p.1 && decide (0 ≤ a) && decide (a ≤ b) && decide (b ≤ 549755813888) then
    (zeroT E p.1).bind fun z => bif Nat.beq z.cells.length p.2 then k (.osl st.H.length 0 a.toNat) { st with H := st.H ++ [.row false p.1 p.2 (List.replicate a.toNat z)] } else none else none
def optN (E : Env) (st : St) (d : Int) : Option Operand → Option Int
  | none => some d
  | some x => (opd E st x).bind asN
def slO {O : Type} (E : Env) (st : St) (t : Nat) (x : SV) (lo hi : Option Operand) (k : SV → Option O) : Option O :=
  match E.T.kd t with
  | some .str => (asS x).bind fun s => (optN E st 0 lo).bind fun a => (optN E st s.size hi).bind fun b =>
      bif decide (0 ≤ a) && decide (a ≤ b) && decide (b ≤ s.size) then k (.t (.s (.string (s.extract a.toNat b.toNat)))) else none
  | _ => (E.T.el t).bind fun p => match x with
    | .osl n off len => match st.H[n]? with
      | some (.row _ _ w _) => (optN E st 0 lo).bind fun a => (optN E st len hi).bind fun b =>
        bif Nat.beq w p.2 && decide (0 ≤ a) && decide (a ≤ b) && decide (b ≤ len) then k (.osl n (off + a.toNat) (b - a).toNat) else none
      | _ => none
    | y => (asSl p.2 y).bind fun l => (optN E st 0 lo).bind fun a => (optN E st l.length hi).bind fun b =>
        bif decide (0 ≤ a) && decide (a ≤ b) && decide (b ≤ l.length) then k (.t (.sl p.2 ((l.drop a.toNat).take (b - a).toNat))) else none
def buildP (E : Env) (fr : Bool) (t : Nat) : St → List T → List (Nat × Operand) → Option (List T × St)
  | st, z, [] => some (z, st)
  | st, z, (i, x) :: r => (E.T.fo t i).bind fun q => (opd E st x).bind fun v => (toTF fr st v).bind fun c =>
      bif Nat.beq c.1.cells.length q.2.2 && (bif q.2.1 then c.1.isAgg else !c.1.isAgg) then (putG z q.1 c.1.cells).bind fun z' => buildP E fr t c.2 z' r else none
def rowP (E : Env) (fr : Bool) (g : Bool) (w : Nat) : St → Nat → List (Nat × Operand) → Option (List T × St)
  | st, _, [] => some ([], st)
  | st, i, (j, x) :: r => bif Nat.beq i j then (opd E st x).bind fun v => (toTF fr st v).bind fun c =>
      bif Nat.beq c.1.cells.length w && (bif g then c.1.isAgg else !c.1.isAgg) then (rowP E fr g w c.2 (i + 1) r).bind fun q => some (c.1 :: q.1, q.2) else none else none

/-! ### Calls -/
def namesS : SV → List Nat
  | .ref n _ => [n]
  | .osl n _ _ => [n]
  | .ep n _ _ => [n]
  | .clo _ a b => go a ++ go b
  | .tup l => go l
  | _ => []
where go : List SV → List Nat
  | [] => []
  | x :: l => namesS x ++ go l
def namesB : OB → List Nat
  | .cells l => namesS.go l
  | _ => []
def reach : Nat → List OB → List Nat → List Nat → List Nat
  | 0, _, _, vis => vis
  | _, _, [], vis => vis
  | d + 1, H, n :: w, vis => bif hasN vis n then reach d H w vis else (match H[n]? with
    | some b => reach d H (w ++ namesB b) (vis ++ [n])
    | none => reach d H w vis)
def placeN : List Nat → Nat → Option Nat
  | [], _ => none
  | k :: l, n => bif Nat.beq k n then some 0 else (placeN l n).bind fun i => some (i + 1)
def renG (g : Nat → Option Nat) : SV → SV
  | .ref n o => match g n with | some m => .ref m o | none => .bad
  | .osl n o l => match g n with | some m => .osl m o l | none => .bad
  | .ep n i o => match g n with | some m => .ep m i o | none => .bad
  | x => x
def backN (ns : List Nat) (h : Nat) (i : Nat) : Option Nat := bif Nat.blt i ns.length then ns[i]? else some (h + (i - ns.length))
def fxB : OB → OB
  | .row _ e k l => .row true e k l
  | o => o
def unfx : OB → OB → OB
  | .row fx _ _ _, .row _ e k l => .row fx e k l
  | _, o => o
def pick (H : List OB) : List Nat → Option (List OB)
  | [] => some []
  | n :: r => (H[n]?).bind fun b => (pick H r).bind fun l => some (b :: l)
def nodupB : List Nat → Bool
  | [] => true
  | n :: l => !hasN l n && nodupB l
def killN : List OB → List Nat → List OB
  | H, [] => H
  | H, n :: ns => killN (H.set n .dead) ns
/-- The blocks that came back, in their places. -/
def putI {α : Type} : List α → List Nat → List α → List α
  | H, n :: ns, b :: bs => putI (H.set n b) ns bs
  | H, _, bs => H ++ bs
def unfxs : List OB → List OB → List OB
  | o :: os, b :: bs => unfx o b :: unfxs os bs
  | _, bs => bs
/-- What may have moved is not known by its old names any more. -/
def movedG : List Nat → List OB → List OB → SV → SV
  | n :: ns, o :: os, b :: bs, v => match o, b with
    | .cells _, .cells _ => movedG ns os bs v
    | .row true _ _ _, _ => movedG ns os bs v
    | _, _ => poisonG n (movedG ns os bs v)
  | _, _, _, v => v
def outSV : List SV → SV
  | [x] => x
  | l => .tup l
def sc1 : T → Bool
  | .s _ => true
  | _ => false
/-- A tree without memory. -/
def scT : T → Bool
  | .agg l => l.all sc1
  | x => sc1 x
def callT (call : Nat → List SV → List OB → Option (List SV × List OB)) (f : Nat) (xs : List T) : Option (List T) :=
  (call f (mpT xs) []).bind fun r => (toTs 64 ⟨[], [], r.2⟩ r.1).bind fun p => some p.1
def callO {O : Type} (E : Env) (fr : Bool) (st : St) (f : Nat) (vs : List SV) (k : SV → St → Option O) : Option O :=
  match E.T.mode f with
  | 0 => (toTsF fr st vs).bind fun p => (callT E.call f p.1).bind fun r => k (outSV (mpT r)) p.2
  | 1 => (snaps st.H vs).bind fun xs => (callT E.call f xs).bind fun r => bif r.all scT then k (outSV (mpT r)) st else none
  | m => bif fr then
      let ns := reach 99 st.H (namesS.go vs) []
      (pick st.H ns).bind fun os0 => bif nodupB ns then
        let os := bif Nat.beq m 3 then os0.map fxB else os0
        (E.call f (mpL (renG (placeN ns)) vs) (os.map (OB.mp (renG (placeN ns))))).bind fun r =>
          let h := st.H.length
          let bs := r.2.map (OB.mp (renG (backN ns h)))
          let st1 := st.mp (movedG ns os bs)
          k (outSV (mpL (renG (backN ns h)) r.1)) { st1 with H := putI (killN st1.H ns) ns (unfxs os0 bs) } else none
    else none
def calleeO : SV → Option (Nat × List SV × List SV)
  | .t (.fn f a b) => some (f, mpT a, mpT b)
  | .clo f a b => some (f, a, b)
  | _ => none

/-! ### One operation -/
section
variable {O : Type} (E : Env) (fr : Bool) (st : St)
def evMove (ty : Nat) (x : Operand) (k : SV → St → Option O) : Option O :=
  match x with
  | .const (.slice none 0 0) => (match E.T.el ty with
    | some p => bif fr then k (.osl st.H.length 0 0) { st with H := st.H ++ [.row false p.1 p.2 []] } else k (.t (.sl p.2 [])) st
    | none => k (.t (.sl 0 [])) st)
  | x => (opd E st x).bind fun v => k v st
def evPick (c a b : Operand) (k : SV → St → Option O) : Option O :=
  (opd E st c).bind fun v => (asB v).bind fun t => bif t then (opd E st a).bind fun v => k v st else (opd E st b).bind fun v => k v st
def evAlloc (e : Nat) (k : SV → St → Option O) : Option O :=
  bif fr then (E.T.ze e).bind fun z => let r := zeroCells st.H.length z (E.T.zs e); k (.ref (st.H.length + r.2.length) 0) { st with H := st.H ++ r.2 ++ [.cells r.1] } else none
def evBox (x : Operand) (k : SV → St → Option O) : Option O :=
  bif fr then (opd E st x).bind fun v => (boxC v).bind fun c => k (.ref st.H.length 0) { st with H := st.H ++ [.cells c] } else none
def evBuild (t : Nat) (parts : Array (Nat × Operand)) (k : SV → St → Option O) : Option O :=
  (E.T.ze t).bind fun z => (E.T.fo t 0).bind fun _ => (buildP E fr t st (zCs z (E.T.zs t)) parts.toList).bind fun r => k (.t (.agg r.1)) r.2
def evBuildS (t n : Nat) (parts : Array (Nat × Operand)) (k : SV → St → Option O) : Option O :=
  bif Nat.beq parts.size n then (E.T.el t).bind fun p => (E.T.ty p.1).bind fun q => (E.T.ze p.1).bind fun _ => bif Nat.ble (n * p.2) 16777216 && Nat.ble n maxLen then (rowP E fr q.1 p.2 st 0 parts.toList).bind fun r =>
    bif fr then k (.osl r.2.H.length 0 r.1.length) { r.2 with H := r.2.H ++ [.row false p.1 p.2 r.1] } else k (.t (.sl p.2 r.1)) r.2 else none else none
def evLoad (t : Nat) (a : Operand) (k : SV → St → Option O) : Option O := (opd E st a).bind fun v => ldO E fr st v t k
def evStore (t : Nat) (a x : Operand) (k : SV → St → Option O) : Option O :=
  bif fr then (opd E st a).bind fun v => (opd E st x).bind fun u => stO E fr st v t u fun st' => k .un st' else none
def nilO (v : SV) (k : SV → St → Option O) : Option O :=
  match v with
  | .ref n o => k (.ref n o) st
  | .ep n i o => k (.ep n i o) st
  | .t (.pt y o) => k (.t (.pt y o)) st
  | _ => none
def evNil (x : Operand) (k : SV → St → Option O) : Option O := (opd E st x).bind fun v => nilO st v k
def evBin (op : BinOp) (t : Nat) (x y : Operand) (u : Nat) (k : SV → St → Option O) : Option O :=
  (opd E st x).bind fun a => (opd E st y).bind fun b => binO E op t u a b fun v => k v st
def evUn (op : UnOp) (x : Operand) (k : SV → St → Option O) : Option O := (opd E st x).bind fun a => unO op a fun v => k v st
def evConv (s d : Nat) (x : Operand) (k : SV → St → Option O) : Option O :=
  (opd E st x).bind fun a => match E.T.kd s, E.T.kd d with
    | some (.int κ), some (.int κ') => (asI κ a).bind fun n => k (mkI κ' (κ'.wrap n)) st
    | _, _ => none
def evMakeF (fn : Fn) (a b : Array Operand) (k : SV → St → Option O) : Option O :=
  match fn with
  | .func f => (opds E st a.toList).bind fun x => (opds E st b.toList).bind fun y => k (.clo f x y) st
  | _ => none
def evMakeS (t : Nat) (l c : Operand) (k : SV → St → Option O) : Option O :=
  bif fr then (opd E st l).bind fun x => (opd E st c).bind fun y => mkO E st t x y k else none
def evSlice (t : Nat) (x : Operand) (lo hi mx : Option Operand) (k : SV → St → Option O) : Option O :=
  match mx with
  | none => (opd E st x).bind fun a => slO E st t a lo hi fun v => k v st
  | some _ => none
def evFA (s : Nat) (x : Operand) (f : Nat) (k : SV → St → Option O) : Option O :=
  (opd E st x).bind fun a => (E.T.fo s f).bind fun q => addrO a q.1 fun v => k v st
def evF (s : Nat) (x : Operand) (f : Nat) (k : SV → St → Option O) : Option O :=
  (opd E st x).bind fun a => (E.T.fo s f).bind fun q => (asAgg a).bind fun l => (ldT (.agg l) q.1 q.2.1 q.2.2).bind fun y => k (.t y) st
def evIA (t : Nat) (x i : Operand) (k : SV → St → Option O) : Option O :=
  (opd E st x).bind fun a => (opd E st i).bind fun j => ixO E st a j t fun v => k v st
def evI (t : Nat) (x i : Operand) (k : SV → St → Option O) : Option O :=
  match E.T.kd t with
  | some .str => (opd E st x).bind fun a => (opd E st i).bind fun j => (asS a).bind fun s => (asN j).bind fun n => bif decide (0 ≤ n) then (s[n.toNat]?).bind fun c => k (mkI .u8 (c.toNat : Int)) st else none
  | _ => none
def exO (a : SV) (i : Nat) (k : SV → St → Option O) : Option O :=
  match a with
  | .tup l => (l[i]?).bind fun v => k v st
  | _ => none
def evEx (x : Operand) (i : Nat) (k : SV → St → Option O) : Option O := (opd E st x).bind fun a => exO st a i k
def mmO (g : Int → Int → Int) (x y : Operand) (ts : Array Nat) (k : SV → St → Option O) : Option O :=
  (opd E st x).bind fun v => (opd E st y).bind fun u => (ts[0]?).bind fun t => match E.T.kd t with
    | some (.int κ) => (asI κ v).bind fun p => (asI κ u).bind fun q => k (mkI κ (g p q)) st
    | _ => none
def evBi (b : Builtin) (args : List Operand) (ts : Array Nat) (k : SV → St → Option O) : Option O :=
  match args with
  | [x] => (match b with
    | .len => (opd E st x).bind fun v => (ts[0]?).bind fun t => lenO E v t fun r => k r st
    | _ => none)
  | [x, y] => (match b with
    | .append => bif fr then (opd E st x).bind fun v => (opd E st y).bind fun u => (ts[0]?).bind fun t => bif decide (ts = #[t, t]) then (bif isNilC x then apN E st u t k else apO E st v u t k) else none else none
    | .max => mmO E st max x y ts k
    | .min => mmO E st min x y ts k
    | _ => none)
  | _ => none
def evCall (c : Call) (k : SV → St → Option O) : Option O :=
  match c.callee with
  | .value f => (opd E st f).bind fun g => (calleeO g).bind fun q => (opds E st c.args.toList).bind fun vs => callO E fr st q.1 (q.2.1 ++ vs ++ q.2.2) k
  | .builtin b => evBi E fr st b c.args.toList c.argTypes k
  | .invoke _ _ => none
def evOp (o : Oper) (k : SV → St → Option O) : Option O :=
  match o.op with
  | .move x => evMove E fr st o.type x k
  | .assign x => evMove E fr st o.type x k
  | .pick c a b => evPick E st c a b k
  | .alloc e => evAlloc E fr st e k
  | .box _ x => evBox E fr st x k
  | .build t parts => evBuild E fr st t parts k
  | .buildSlice t n parts => evBuildS E fr st t n parts k
  | .load t a => evLoad E fr st t a k
  | .store t a x => evStore E fr st t a x k
  | .nilCheck x => evNil E st x k
  | .binOp op t x y u => evBin E st op t x y u k
  | .unOp op _ x => evUn E st op x k
  | .convert s d x => evConv E st s d x k
  | .makeFunc fn a b => evMakeF E st fn a b k
  | .makeSlice t l c => evMakeS E fr st t l c k
  | .slice t x lo hi mx => evSlice E st t x lo hi mx k
  | .fieldAddr s x f => evFA E st s x f k
  | .field s x f => evF E st s x f k
  | .indexAddr t x i => evIA E st t x i k
  | .index t x i => evI E st t x i k
  | .extract x i => evEx E st x i k
  | .call c => evCall E fr st c k
  | _ => none
end
end
end Sh
