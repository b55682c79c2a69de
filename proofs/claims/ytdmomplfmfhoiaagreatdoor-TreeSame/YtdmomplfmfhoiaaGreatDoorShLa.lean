/-
  Trees and what they stand for; a statement reads its arguments as trees. No condition.
-/
import Derived.Test.YtdmomplfmfhoiaaGreatDoorShD
import Derived.ChangeSame
import Derived.ChangeOld
import Derived.DataReads
namespace Sh
open Go Fly
def isGroup (P : Program) (t : Nat) : Bool := match P.underlying t with
  | some (.struct _) => true
  | _ => false
def tiles (P : Program) (S : List Nat) (n : Nat) : Nat → List Field → Bool
  | o, [] => Nat.beq o n
  | o, f :: fs => Nat.beq f.offset o && (S.contains f.type && tiles P S n (o + P.cellsOf f.type) fs)
/-- Types whose values are trees. -/
def okTy (P : Program) (S : List Nat) (t : Nat) : Bool := match P.underlying t with
  | some .bool => Nat.beq (P.cellsOf t) 1
  | some (.int _) => Nat.beq (P.cellsOf t) 1
  | some (.float _) => Nat.beq (P.cellsOf t) 1
  | some .string => Nat.beq (P.cellsOf t) 1
  | some (.slice e) => Nat.beq (P.cellsOf t) 1 && (S.contains e && Nat.blt 0 (P.cellsOf e))
  | some (.struct fs) => tiles P S (P.cellsOf t) 0 fs.toList
  | _ => false
inductive All2 {α β : Type} (R : α → β → Prop) : List α → List β → Prop
  | nil : All2 R [] []
  | cons {a : α} {b : β} {l : List α} {m : List β} (h : R a b) (h' : All2 R l m) : All2 R (a :: l) (b :: m)
/-- What a tree of a type looks like. -/
def Shp (P : Program) : Nat → Nat → List T → Prop
  | 0, _, _ => False
  | fuel + 1, t, xs => match P.underlying t with
    | some .bool => ∃ b, xs = [.s (.bool b)]
    | some (.int k) => ∃ n, xs = [.s (.int k n)] ∧ (Lit.int k n).wf = true
    | some (.float k) => ∃ b, xs = [.s (.float k b)] ∧ (Lit.float k b).wf = true
    | some .string => ∃ s, xs = [.s (.string s)] ∧ s.size ≤ maxLen
    | some (.slice e) => ∃ l, xs = [.sl (P.cellsOf e) l] ∧ l.length ≤ maxLen ∧ ∀ x ∈ l, x.isAgg = isGroup P e ∧ Shp P fuel e x.cells
    | some (.struct fs) => ∃ parts : List (List T), xs = parts.flatten ∧ All2 (fun (f : Field) p => Shp P fuel f.type p) fs.toList parts
    | _ => False
def hv (w : World) : View := fun b => w.heap[b]?
theorem add_add {a : Addr} {m n : Nat} (h : n ≠ 0 ∨ m = 0 ∨ a.spot = none) : (a.add m).add n = a.add (m + n) := by
  unfold Addr.add
  by_cases hn : n = 0
  · subst hn; simp
  · by_cases hm : m = 0
    · subst hm; simp [hn]
    · simp [hn, hm, Nat.add_assoc]
theorem rd_of_cell {w : World} {a : Addr} {v : Value} (h : w.cell? a = some v) : a.spot = none ∧ rd (hv w) a.block a.off v := by
  unfold World.cell? at h
  split at h
  · rename_i c e f hb
    cases hs : a.spot with
    | some s => rw [hs] at h; simp at h
    | none => rw [hs] at h; exact ⟨rfl, c, e, f, hb, by simpa using h⟩
  · simp at h
theorem add_off (a : Addr) (n : Nat) : (a.add n).off = a.off + n ∧ (a.add n).block = a.block := by
  unfold Addr.add; split
  · rename_i h; subst h; exact ⟨rfl, rfl⟩
  · exact ⟨rfl, rfl⟩
/-- Rows one behind another. -/
theorem rows_rd {w : World} {a : Addr} {k : Nat} (hk : 0 < k) : ∀ (css : List (List Value)) (s : Nat), (∀ i cs, css[i]? = some cs → w.cells? 0 (a.add ((s + i) * k)) k = some cs) → ∀ j c, css.flatten[j]? = some c → rd (hv w) a.block (a.off + s * k + j) c ∧ w.cell? (a.add (s * k + j)) = some c
  | [], s, h, j, c, hj => by simp at hj
  | c0 :: css, s, h, j, c, hj => by
    obtain ⟨_, hl, hc⟩ := World.cells?_some (h 0 c0 rfl)
    simp only [Nat.add_zero] at hc
    rw [List.flatten_cons] at hj
    rcases Nat.lt_or_ge j k with hjk | hjk
    · rw [List.getElem?_append_left (by omega)] at hj
      have h1 := hc j hjk
      rw [hj] at h1
      have h3 : w.cell? (a.add (s * k + j)) = some c := by
        by_cases hj0 : j = 0
        · subst hj0
          have : (a.add (s * k)).add 0 = a.add (s * k) := by unfold Addr.add; simp
          rw [this] at h1; exact h1
        · rw [add_add (.inl hj0)] at h1; exact h1
      obtain ⟨_, h2⟩ := rd_of_cell h3
      rw [(add_off _ _).1, (add_off _ _).2] at h2
      exact ⟨by rw [Nat.add_assoc]; exact h2, h3⟩
    · rw [List.getElem?_append_right (by omega), hl] at hj
      have h2 := rows_rd hk css (s + 1) (fun i cs hi => by
        have := h (i + 1) cs (by simpa using hi)
        rw [show s + 1 + i = s + (i + 1) by omega]; exact this) (j - k) c hj
      have e1 : (s + 1) * k + (j - k) = s * k + j := by rw [Nat.add_mul]; omega
      rw [Nat.add_assoc, e1] at h2
      exact ⟨by rw [Nat.add_assoc]; exact h2.1, h2.2⟩
end Sh
