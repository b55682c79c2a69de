/-
  Trees and what they stand for; a statement reads its arguments as trees. No condition.
-/
import Derived.Test.YtdmomplfmfhoiaaGreatDoorShB
namespace Sh
inductive Bt (α : Type) where
  | nil
  | node (l : Bt α) (k : Nat) (v : α) (r : Bt α)
noncomputable def Bt.get {α : Type} (b : Bt α) (t : Nat) : Option α :=
  Bt.rec none (fun _ k v _ il ir => Bool.rec (Bool.rec ir il (Nat.blt t k)) (some v) (Nat.beq t k)) b
def Bt.all {α : Type} (p : Nat → α → Bool) : Bt α → Bool
  | .nil => true
  | .node l k v r => p k v && (l.all p && r.all p)
end Sh
