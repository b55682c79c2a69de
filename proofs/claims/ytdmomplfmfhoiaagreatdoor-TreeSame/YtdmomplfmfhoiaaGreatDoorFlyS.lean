/-
  A small logic of walks: judgements, operations, regions, loops, calls. No condition.
-/
import Derived.Test.YtdmomplfmfhoiaaGreatDoorFlyR
import Derived.Lib.Builder
import Derived.Lib.UnsafeStr
import Derived.Deep.Upon
namespace Fly
open Go
section
variable {P : Program} {n : Nat} {X : Cx} {L : Lo} {V : View} {G : Own} {K : List KI} {Q : Value → View → Own → Prop} {all : Array Oper} {ops : List Oper}
variable {ty : TypeId} {pos : String} {af : Array Edge} {gd : Option (Nat × Bool)} {ds : Option Tmp}
theorem op_eqNil {t u te : TypeId} {x : Operand} {p : Option Addr} (hx : ev L x = some (.pointer p)) (hu : P.underlying t = some (.pointer te)) (k : Q (.bool p.isNone) V G) :
    Opr P n X L V G ⟨ds, .binOp .eql t x (.const (.pointer none)) u, ty, pos, af, gd⟩ Q := by
  refine op_eqg hx rfl (by cases p <;> rfl) (fun w => by simp [eqGuard]) (fun w => ?_) k
  show (Op.equalIn (9999 + 1) t _ _).run P w = _
  unfold Op.equalIn
  rw [Sem.run_bind, run_underlying hu]
  cases p <;> rfl
theorem op_neqSelf {t u te : TypeId} {x y : Operand} {p : Addr} {j : TypeInfo} (hx : ev L x = some (.pointer (some p))) (hy : ev L y = some (.pointer (some p))) (hu : P.underlying t = some (.pointer te)) (hj : P.info? te = some j) (k : Q (.bool false) V G) :
    Opr P n X L V G ⟨ds, .binOp .neq t x y u, ty, pos, af, gd⟩ Q := by
  refine op_neg' (b := true) hx hy rfl (fun w => by simp [eqGuard]) (fun w => ?_) k
  have h : ∀ d : Nat, (Op.equalIn (d + 1) t (.pointer (some p)) (.pointer (some p))).run P w = .ok true w := fun d => by
    simp [Op.equalIn, run_underlying hu, Go.sizeOf, typeInfo, hj, run_sameAddr_same]
  exact h 9999
theorem op_toUnsafe {src dst t e : TypeId} {x : Operand} {b off : Nat} {cs : Array Value} {fr : Nat × Nat} {j : TypeInfo} (hx : ev L x = some (.pointer (some ⟨b, off, none⟩))) (hs : P.underlying src = some (.pointer t)) (hd : P.underlying dst = some .unsafePointer) (ht : P.info? t = some j) (hj : (j.size == 0) = false)
    (hA : At V G b (.cells cs e fr)) (ho : off < cs.size) (k : Q (.pointer (some ⟨b, off, none⟩)) V G) : Opr P n X L V G ⟨ds, .convert src dst x, ty, pos, af, gd⟩ Q := fun a ha w hw => by
  have hb := hA.heap hw
  have hr := Lib.run_to_unsafe (P := P) w (e := e) (cells := cs.size) ⟨b, off, none⟩ hs hd ht (by simpa using hj) (by simp [World.shape?, hb]) ho
  exact .inl ⟨_, w, V, G, .inl (by simp [execOp, ha.ev hx, hr]), k, hw⟩
theorem op_fromUnsafe {src dst u e : TypeId} {x : Operand} {b off : Nat} {cs : Array Value} {fr : Nat × Nat} {j : TypeInfo} (hx : ev L x = some (.pointer (some ⟨b, off, none⟩))) (hs : P.underlying src = some .unsafePointer) (hd : P.underlying dst = some (.pointer u)) (hu : P.info? u = some j)
    (hA : At V G b (.cells cs e fr)) (hl : liesAt P P.depth e (cs.size / P.cellsOf e) off u 1 = true) (k : Q (.pointer (some ⟨b, off, none⟩)) V G) : Opr P n X L V G ⟨ds, .convert src dst x, ty, pos, af, gd⟩ Q := fun a ha w hw => by
  have hb := hA.heap hw
  have hr := Lib.run_from_unsafe (P := P) w (e := e) (cells := cs.size) ⟨b, off, none⟩ hs hd hu (by simp [World.shape?, hb]) hl
  exact .inl ⟨_, w, V, G, .inl (by simp [execOp, ha.ev hx, hr]), k, hw⟩

theorem info_some {t : TypeId} (h : (P.info? t).isSome = true) : ∃ j, P.info? t = some j := Option.isSome_iff_exists.1 h
theorem op_neqSelf' {t u te : TypeId} {x y : Operand} {p : Addr} (hx : ev L x = some (.pointer (some p))) (hy : ev L y = some (.pointer (some p))) (hu : P.underlying t = some (.pointer te)) (hj : (P.info? te).isSome = true) (k : Q (.bool false) V G) :
    Opr P n X L V G ⟨ds, .binOp .neq t x y u, ty, pos, af, gd⟩ Q := (info_some hj).elim fun _ h => op_neqSelf hx hy hu h k
theorem op_toUnsafe' {src dst t e m : TypeId} {x : Operand} {b off : Nat} {cs : List Value} {fr : Nat × Nat} (hx : ev L x = some (.pointer (some ⟨b, off, none⟩))) (hs : P.underlying src = some (.pointer t)) (hd : P.underlying dst = some .unsafePointer) (ht : ((P.info? t).map fun j => j.size == 0) = some false)
    (hA : At V G b (.cells cs.toArray e fr)) (hm : cs.length = m) (ho : off < m) (k : Q (.pointer (some ⟨b, off, none⟩)) V G) : Opr P n X L V G ⟨ds, .convert src dst x, ty, pos, af, gd⟩ Q := by
  cases h : P.info? t with
  | none => rw [h] at ht; cases ht
  | some j => rw [h] at ht; exact op_toUnsafe hx hs hd h (by simpa using ht) hA (by simpa [hm] using ho) k
theorem op_fromUnsafe' {src dst u e m : TypeId} {x : Operand} {b off : Nat} {cs : List Value} {fr : Nat × Nat} (hx : ev L x = some (.pointer (some ⟨b, off, none⟩))) (hs : P.underlying src = some .unsafePointer) (hd : P.underlying dst = some (.pointer u)) (hu : (P.info? u).isSome = true)
    (hA : At V G b (.cells cs.toArray e fr)) (hm : cs.length = m) (hl : liesAt P P.depth e (m / P.cellsOf e) off u 1 = true) (k : Q (.pointer (some ⟨b, off, none⟩)) V G) : Opr P n X L V G ⟨ds, .convert src dst x, ty, pos, af, gd⟩ Q :=
  (info_some hu).elim fun _ h => op_fromUnsafe hx hs hd h hA (by simpa [hm] using hl) k
theorem op_nilCheck {x : Operand} {p : Addr} (hx : ev L x = some (.pointer (some p))) (k : Q (.pointer (some p)) V G) : Opr P n X L V G ⟨ds, .nilCheck x, ty, pos, af, gd⟩ Q :=
  opr_run (fun a w ha => by simp [execOp, ha.ev hx]) k

/-! ### Bytes appended -/
def bytesV (s : List UInt8) : List Value := s.map fun c => .int .u8 (c.toNat : Int)
theorem run_append_room_str (w : World) (t tx ty e : TypeId) (i : TypeInfo) (ht : P.underlying t = some (.slice e)) (htx : P.underlying tx = some .string) (hi : P.info? e = some i) (hz : i.size = 1)
    (g sLen sCap : Nat) (cur : Array Value) (hg : w.heap[g]? = some (.cells cur e (0, 0))) (s : ByteArray) (hroom : sLen + s.size ≤ sCap) (hfit : sLen + s.size ≤ cur.size) :
    (Builtin.append_ #[t, tx] ty #[.slice (some ⟨g, 0, none⟩) sLen sCap, .string s]).run P w =
      .ok (.slice (some ⟨g, 0, none⟩) (sLen + s.size) sCap) (w.setRow g (cur.toList.take sLen ++ byteCells s ++ cur.toList.drop (sLen + (byteCells s).length)).toArray) := by
  have hl := byteCells_length s
  have hf := firstCells_string (P := P) s w
  have hst := run_storeCells_at P g sLen e (byteCells s) 0 cur w hg (by rw [hl]; simpa using hfit) (fun u hu => by
    obtain ⟨_, _, rfl⟩ := List.mem_map.1 hu
    rfl)
  simp only [Nat.add_zero] at hst
  simp [Builtin.append_, run_underlying ht, run_underlying htx, Go.sizeOf, typeInfo, hi, hz, Builtin.lenOf, hroom, hf, Addr.add_lit, hst]
theorem Row.parts {e : TypeId} {v : Value} {Gr : Own} {m : Nat} {xs : List Value} (h : Row e 1 v Gr m xs) : (v = .slice none 0 0 ∧ Gr = [] ∧ m = 0 ∧ xs = []) ∨ ∃ (g cap : Nat) (cur : Array Value), v = .slice (Option.some ⟨g, 0, none⟩) m cap ∧ Gr = [(g, .cells cur e (0, 0))] ∧ m ≤ cap ∧ cap ≤ maxLen ∧ cur.size = cap ∧ cur.toList.take m = xs := by
  cases h with
  | nil => exact .inl ⟨rfl, rfl, rfl, rfl⟩
  | @some g m cap cur xs hm hc hs ht => exact .inr ⟨g, cap, cur, rfl, rfl, hm, hc, by simpa using hs, by simpa using ht⟩
theorem Row.app0 {e : TypeId} {v : Value} {Gr : Own} {m : Nat} {xs : List Value} (h : Row e 1 v Gr m xs) : Row e 1 v Gr (m + 0) (xs ++ []) := by simpa using h
theorem op_appendStr (T : Tabs P) {t tx e m : Nat} {x y : Operand} {v : Value} {Gr G1 : Own} {xs : List Value} {s : ByteArray} (hx : ev L x = some v) (hy : ev L y = some (.string s)) (hE : T.el t = some (e, 1)) (htx : P.underlying tx = some .string) (hb : P.bytesOf e ≤ 256) {z : List Value} (hz : T.ze e = some z) (hzl : z.length = 1)
    (hR : Row e 1 v Gr m xs) (hp : G.Perm (Gr ++ G1)) (hmm : m + s.size ≤ 549755813888)
    (k' : ∀ v' Gr', Row e 1 v' Gr' (m + s.size) (xs ++ byteCells s) → (s.size = 0 → v' = v ∧ Gr' = Gr) → Q v' V (Gr' ++ G1)) : Opr P n X L V G ⟨ds, .call { callee := .builtin .append, args := #[x, y], argTypes := #[t, tx] }, ty, pos, af, gd⟩ Q := fun a ha w hw => by
  obtain ⟨hu, g, hT⟩ := El_und (T.el_ok _ _ hE)
  have hq := hw.perm hp
  have hze := T.ze_ok _ _ hz
  unfold Ze at hze
  split at hze
  · rename_i i hi
    cases hz0 : i.zero with
    | none => simp [hz0] at hze
    | some zv =>
    simp only [hz0, Option.map_some, Option.some.injEq] at hze
    have hzs : zv.cells.size = 1 := by rw [← hzl, ← hze]; simp
    have hsz : i.size = 1 := by have := (Ty_run hT w).2.2; simpa [hi] using this
    have hby : i.bytes ≤ 256 := by simpa [Program.bytesOf, hi] using hb
    have hmul : ∀ q, q ≤ 549755813888 → q * i.bytes ≤ 140737488355328 := fun q hq => by
      have : q * i.bytes ≤ 549755813888 * 256 := Nat.mul_le_mul hq hby
      omega
    have hbl := byteCells_length s
    have hsrc := fun w => (by have := Src.ofString (P := P) w htx s; rw [← hsz] at this; exact this : Src P i.size tx (.string s) s.size (byteCells s) w)
    have fin : ∀ (v' : Value) (w' : World) (Gr' : Own), (Builtin.append_ #[t, tx] ty #[v, .string s]).run P w = .ok v' w' → Row e 1 v' Gr' (m + s.size) (xs ++ byteCells s) → (s.size = 0 → v' = v ∧ Gr' = Gr) → Holds X V (Gr' ++ G1) w' →
        ∃ v w'' V' G', ((execOp a.eval ⟨ds, .call { callee := .builtin .append, args := #[x, y], argTypes := #[t, tx] }, ty, pos, af, gd⟩).run P w = .ok (.value v) w'' ∨ ((execOp a.eval ⟨ds, .call { callee := .builtin .append, args := #[x, y], argTypes := #[t, tx] }, ty, pos, af, gd⟩).run P w = .ok .skip w'' ∧ v = undef)) ∧ Q v V' G' ∧ Holds X V' G' w'' :=
      fun v' w' Gr' hr hR' hn hh => ⟨v', w', V, _, .inl (by simp [execOp, resolve, invoke, builtin, ha.ev hx, ha.ev hy, hr]), k' v' Gr' hR' hn, hh⟩
    refine .inl ?_
    by_cases h0 : s.size = 0
    · have hbn : byteCells s = [] := List.eq_nil_of_length_eq_zero (by rw [hbl, h0])
      have hs0 := hsrc w
      rw [h0, hbn] at hs0
      cases hR with
      | nil =>
        have hr := run_append_nothing (P := P) w t tx ty e i hu hi none 0 0 (Nat.le_refl _) (.string s) hs0
        refine fin _ _ [] hr (by rw [h0, hbn]; exact .nil) (fun _ => ⟨rfl, rfl⟩) hq
      | @some g m cap cur xs hm hc hs ht =>
        have hr := run_append_nothing (P := P) w t tx ty e i hu hi (Option.some ⟨g, 0, none⟩) m cap hm (.string s) hs0
        refine fin _ _ _ hr (by rw [h0, hbn]; exact (Row.some hm hc hs ht).app0) (fun _ => ⟨rfl, rfl⟩) hq
    · cases hR with
      | nil =>
        have hr := run_append_grow_src (P := P) w t tx ty e i zv hu hi hz0 none 0 0 [] (run_firstCells_none _ _ _ _ _) (.string s) s.size (byteCells s) (hsrc w) (by omega) (by omega) (growslice_fits (by omega) (hmul _ (by omega)))
        have hge := grownCap_ge w (0 + s.size) 0 e
        have hrow : Row e 1 (.slice (some ⟨w.heap.size, 0, none⟩) (0 + s.size) (grownCap w (0 + s.size) 0 e)) [(w.heap.size, .cells (([] ++ byteCells s).toArray ++ Builtin.zeroCells zv.cells (grownCap w (0 + s.size) 0 e - (0 + s.size))) e (0, 0))] (0 + s.size) ([] ++ byteCells s) := by
          refine .some (by omega) (grownCap_le_maxLen w (0 + s.size) 0 e (by unfold maxLen; omega)) ?_ ?_
          · simp only [Array.size_append, List.size_toArray, size_zeroCells, hzs, List.nil_append, hbl]
            omega
          · simp only [Array.toList_append, List.nil_append, Nat.zero_add, Nat.mul_one, ← hbl]
            exact List.take_left
        exact fin _ _ _ hr hrow (fun h => absurd h h0) ((hq.drew).alloc _)
      | @some g m cap cur xs hm hc hs ht =>
        have hrl := (Row.some (e := e) (g := g) hm hc hs ht).len
        have hg : w.heap[g]? = some (.cells cur e (0, 0)) := hq.own (g, .cells cur e (0, 0)) (by simp)
        by_cases hroom : m + s.size ≤ cap
        · have hr := run_append_room_str (P := P) w t tx ty e i hu htx hi hsz g m cap cur hg s hroom (by omega)
          rw [setRow_eq w g cur _ e hg] at hr
          refine fin _ _ _ hr (.some (g := g) (cur := (cur.toList.take m ++ byteCells s ++ cur.toList.drop (m + (byteCells s).length)).toArray) hroom hc ?_ ?_) (fun h => absurd h h0) (hq.upd .here)
          · simp only [List.size_toArray, List.length_append, List.length_take, List.length_drop, Array.length_toList]
            omega
          · simp only [Nat.mul_one] at ht ⊢
            rw [ht]
            have : (xs ++ byteCells s).length = m + s.size := by rw [List.length_append, hrl, hbl, Nat.mul_one]
            rw [← this, List.take_left]
        · have hlt : cap < m + s.size := by omega
          have hold : ∀ j u, xs[j]? = some u → w.drew.cell? ((⟨g, 0, none⟩ : Addr).add j) = some u := fun j u hj => by
            rw [addr_add, World.cell?_drew, cell_of hg, Nat.zero_add]
            rw [← ht, List.getElem?_take] at hj
            split at hj
            · simpa using hj
            · cases hj
          have hr := run_append_grow_src (P := P) w t tx ty e i zv hu hi hz0 (Option.some ⟨g, 0, none⟩) m cap xs (run_firstCells_some (P := P) w.drew i.size m ⟨g, 0, none⟩ m cap xs (by rw [hsz]; exact hrl) hold) (.string s) s.size (byteCells s) (hsrc w) hlt (by omega) (growslice_fits hlt (hmul _ (by omega)))
          have hge := grownCap_ge w (m + s.size) cap e
          have hrow : Row e 1 (.slice (some ⟨w.heap.size, 0, none⟩) (m + s.size) (grownCap w (m + s.size) cap e)) [(w.heap.size, .cells ((xs ++ byteCells s).toArray ++ Builtin.zeroCells zv.cells (grownCap w (m + s.size) cap e - (m + s.size))) e (0, 0))] (m + s.size) (xs ++ byteCells s) := by
            refine .some (by omega) (grownCap_le_maxLen w (m + s.size) cap e (by unfold maxLen; omega)) ?_ ?_
            · simp only [Array.size_append, List.size_toArray, size_zeroCells, hzs, List.length_append, hbl, hrl]
              omega
            · have : (xs ++ byteCells s).length = (m + s.size) * 1 := by rw [List.length_append, hrl, hbl]; omega
              simp only [Array.toList_append, ← this]
              exact List.take_left
          refine fin _ _ _ hr hrow (fun h => absurd h h0) (((hq.drew).alloc _).sublist ?_)
          simp
  · cases hze

/-! ### A text of a row's bytes -/
theorem op_sliceData0 {x : Operand} {l c : Nat} {ts : Array TypeId} (hx : ev L x = some (.slice none l c)) (k : Q (.pointer none) V G) : Opr P n X L V G ⟨ds, .call { callee := .builtin .unsafeSliceData, args := #[x], argTypes := ts }, ty, pos, af, gd⟩ Q :=
  opr_run (fun a w ha => by simp [execOp, resolve, invoke, builtin, ha.ev hx, Lib.run_unsafeSliceData_nil]) k
theorem op_sliceData {x : Operand} {a : Addr} {l c : Nat} {ts : Array TypeId} (hx : ev L x = some (.slice (some a) l c)) (hc : c ≠ 0) (k : Q (.pointer (some a)) V G) : Opr P n X L V G ⟨ds, .call { callee := .builtin .unsafeSliceData, args := #[x], argTypes := ts }, ty, pos, af, gd⟩ Q :=
  opr_run (fun a' w ha => by simp [execOp, resolve, invoke, builtin, ha.ev hx, Lib.run_unsafeSliceData_row w _ _ _ _ _ hc]) k
theorem op_unsafeString0 {x y : Operand} {p : Option Addr} {t1 t2 : TypeId} (hx : ev L x = some (.pointer p)) (hy : ev L y = some (.int .i64 0)) (k : Q (.string .empty) V G) : Opr P n X L V G ⟨ds, .call { callee := .builtin .unsafeString, args := #[x, y], argTypes := #[t1, t2] }, ty, pos, af, gd⟩ Q :=
  opr_run (fun a' w ha => by simp [execOp, resolve, invoke, builtin, ha.ev hx, ha.ev hy, Lib.run_unsafeString_none]) k
theorem freeze_eq (w : World) (g m : Nat) (cur : Array Value) (e : TypeId) (h : w.heap[g]? = some (.cells cur e (0, 0))) (hm : m ≠ 0) : w.freeze ⟨g, 0, none⟩ m = { w with heap := w.heap.setIfInBounds g (.cells cur e (0, m)) } := by
  unfold World.freeze
  rw [if_neg hm]
  congr 1
  apply Array.ext
  · simp
  · intro k h1 h2
    have hlt : g < w.heap.size := (Array.getElem?_eq_some_iff.1 h).1
    have hv : w.heap[g] = .cells cur e (0, 0) := (Array.getElem?_eq_some_iff.1 h).2
    simp only [Array.getElem_modify]
    split
    · rename_i hk
      subst hk
      simp [hv]
    · rename_i hk
      rw [Array.getElem_setIfInBounds_ne (h := hk)]
theorem op_unsafeString {x y : Operand} {g e t1 t2 : Nat} {cur : Array Value} {s : List UInt8} {z : Int} {G' : Own} (hx : ev L x = some (.pointer (some ⟨g, 0, none⟩))) (hy : ev L y = some (.int .i64 z)) (hz : z = s.length) (h0 : s ≠ []) (hl : s.length ≤ cur.size) (h63 : s.length ≤ 9223372036854775807) (ht : cur.toList.take s.length = bytesV s)
    (hp : P.underlying t1 = some (.pointer e)) (hc : P.cellsOf e = 1) (hu : Upd G g (.cells cur e (0, 0)) (.cells cur e (0, s.length)) G') (k : Q (.string ⟨s.toArray⟩) V G') : Opr P n X L V G ⟨ds, .call { callee := .builtin .unsafeString, args := #[x, y], argTypes := #[t1, t2] }, ty, pos, af, gd⟩ Q := fun a ha w hw => by
  have hg := hw.own _ hu.has.mem
  have hlz : s.length ≠ 0 := by simpa using h0
  have hr := Lib.run_unsafeString_row (P := P) w t1 t2 ty e hp hc g cur.size (by simp [World.shape?, hg]) s h0 hl h63 (fun j u hj => by
    rw [addr_add, cell_of hg, Nat.zero_add]
    have hlt : j < s.length := (List.getElem?_eq_some_iff.1 hj).1
    have : (cur.toList.take s.length)[j]? = some (.int .u8 (u.toNat : Int)) := by rw [ht]; simp [bytesV, hj]
    rw [List.getElem?_take, if_pos hlt] at this
    simpa using this)
  rw [freeze_eq w g _ cur e hg hlz] at hr
  refine .inl ⟨_, _, V, G', .inl ?_, k, hw.upd hu⟩
  subst hz
  simp [execOp, resolve, invoke, builtin, ha.ev hx, ha.ev hy, hr]
/-- A slice just made is not written any more: in a call that may write some blocks that were there. -/
theorem op_buildSliceW (T : Tabs P) {t e k m : Nat} {z r : List Value} {parts : List (Nat × Operand)} (_hM : ∀ r, X.M r → r < X.w0.heap.size) (hE : T.el t = some (e, k)) (hz : T.ze e = some z) (hm : parts.length = m) (hs : m * k ≤ 16777216) (hc : Cat L k 0 parts r)
    (k' : ∀ b, V b = none → Q (.slice (some ⟨b, 0, none⟩) m m) (addV V b (.cells r.toArray e (0, 0))) G) : Opr P n X L V G ⟨ds, .buildSlice t m parts.toArray, ty, pos, af, gd⟩ Q := fun a ha w hw => by
  refine .inl ⟨_, _, addV V w.heap.size (.cells r.toArray e (0, 0)), G, .inl ?_, k' w.heap.size ?_, (hw.alloc (.cells r.toArray e (0, 0))).freeze⟩
  · exact bs_run T hE hz hm hs hc ha w
  · cases h : V w.heap.size with
    | none => rfl
    | some o => exact absurd (hw.vlt (r := w.heap.size) (by simp [h])) (by omega)
/-- A slice of that view. -/
theorem Sl.made {V : View} {b m k : Nat} {r : List Value} {e : TypeId} (h : V b = none) (hr : r.length = m * k) (hm : m ≤ 16777216) : Sl k (addV V b (.cells r.toArray e (0, 0))) (.slice (some ⟨b, 0, none⟩) m m) r :=
  ⟨_, m, m, rfl, Nat.le_refl _, by unfold maxLen; omega, hr, .inr ⟨b, 0, rfl, fun i c hi => ⟨r.toArray, e, (0, 0), by simp, by simpa using hi⟩⟩⟩
end
end Fly
