/-
  No cell of these rows narrows 'for every input' (looked for: loops, veiled, ifaces, maps, wideKeys, modest, calm, conditions, laid).
  DERIVED. THE GIVEN ROWS OF THIS SEAT. 9 by the template 'for every input the law returns true; each argument reads behind the call as it read before'; 0 by the template 'total and deterministic' (their statements: YtfckjjffdfkelaaGreatTotals.lean).
  GIVEN WITH THE SEED: the statements are not yours to turn. If you find one false, say at which input.
  Laid BY PROGRAM, IN A SANDBOX (cutbox-rows.mjs): the forced cells as the released guide's own fill.sh prints them over the translation a8870d91b1266c45… (all of the seat's roots in one cut). By AI agents, Wed Nov 11 2026. No macro, syntax, notation, axiom, sorry.
-/
import Derived.Test.YtfckjjffdfkelaaGreatChecked
import GoSem.Claim
import GoSem.ClaimJoined
import GoSem.ClaimMapViews
import Derived.JoinedTies
import Derived.KernelRfl
namespace Go.Proofs.YtfckjjffdfkelaaGreat
/- THE CELL 'sum', in the pinned program and in every row, IS THE sha256 OF THE DUMP (.gsa) THAT YtfckjjffdfkelaaGreatProg.lean LOADS. Nothing in Lean hashes anything: it is a label: what it is worth is what the hold of that sum in a sandbox is worth. -/
noncomputable def Tryz.pinned : Pinned := { name := "ytfckjjffdfkelaagreat", sum := "a8870d91b1266c45e6d422daf0fcf6b08c3cbf1f33e5cf6ab528370d5092bac1", checked := Tryz.checked }
namespace Rows
def none {H : Type} : Left H := { results := [], args := [] }

/-- 'flyballlaw22.StateNear': WHATEVER THE INPUT: true; the input reads as it did. -/
def stateNearSpec : ChangeSpec := { name := "stateNear", fn := fun _ => fun
  | [d1, d2, d3, d4, d5] => { results := [.lit (.bool true)], args := [d1, d2, d3, d4, d5] }
  | _ => none }
def stateNearRow : OpenClaim := { program := "ytfckjjffdfkelaagreat", sum := "a8870d91b1266c45e6d422daf0fcf6b08c3cbf1f33e5cf6ab528370d5092bac1", func := "flyball/flyballlaw22.StateNear", spec := "stateNear", inPlace := ["math/bits.Add64", "math/bits.Sub64"], unfollowed := true, recurses := true, apart := false }
def StateNearSaid : Prop := stateNearRow.holds Tryz.pinned (OpenSpec.ofChange stateNearSpec)

/-- ITS FALSE NEIGHBOUR: 'it returns false'. Refute it at one input. -/
def stateNearWrong : ChangeSpec := { name := "stateNear", fn := fun _ => fun
  | [d1, d2, d3, d4, d5] => { results := [.lit (.bool false)], args := [d1, d2, d3, d4, d5] }
  | _ => none }
def StateNearWrongFalsely : Prop := stateNearRow.holds Tryz.pinned (OpenSpec.ofChange stateNearWrong)

/-- 'flyballlaw22.StateInside': WHATEVER THE INPUT: true; the input reads as it did. -/
def stateInsideSpec : ChangeSpec := { name := "stateInside", fn := fun _ => fun
  | [d1, d2, d3, d4, d5, d6] => { results := [.lit (.bool true)], args := [d1, d2, d3, d4, d5, d6] }
  | _ => none }
def stateInsideRow : OpenClaim := { program := "ytfckjjffdfkelaagreat", sum := "a8870d91b1266c45e6d422daf0fcf6b08c3cbf1f33e5cf6ab528370d5092bac1", func := "flyball/flyballlaw22.StateInside", spec := "stateInside", inPlace := ["math/bits.Add64", "math/bits.Sub64"], unfollowed := true, recurses := true, apart := false }
def StateInsideSaid : Prop := stateInsideRow.holds Tryz.pinned (OpenSpec.ofChange stateInsideSpec)

/-- ITS FALSE NEIGHBOUR: 'it returns false'. Refute it at one input. -/
def stateInsideWrong : ChangeSpec := { name := "stateInside", fn := fun _ => fun
  | [d1, d2, d3, d4, d5, d6] => { results := [.lit (.bool false)], args := [d1, d2, d3, d4, d5, d6] }
  | _ => none }
def StateInsideWrongFalsely : Prop := stateInsideRow.holds Tryz.pinned (OpenSpec.ofChange stateInsideWrong)

/-- 'flyballlaw22.StateBegins': WHATEVER THE INPUT: true; the input reads as it did. -/
def stateBeginsSpec : ChangeSpec := { name := "stateBegins", fn := fun _ => fun
  | [d1, d2, d3, d4] => { results := [.lit (.bool true)], args := [d1, d2, d3, d4] }
  | _ => none }
def stateBeginsRow : OpenClaim := { program := "ytfckjjffdfkelaagreat", sum := "a8870d91b1266c45e6d422daf0fcf6b08c3cbf1f33e5cf6ab528370d5092bac1", func := "flyball/flyballlaw22.StateBegins", spec := "stateBegins", inPlace := ["math/bits.Add64", "math/bits.Sub64"], unfollowed := true, recurses := true, apart := false }
def StateBeginsSaid : Prop := stateBeginsRow.holds Tryz.pinned (OpenSpec.ofChange stateBeginsSpec)

/-- ITS FALSE NEIGHBOUR: 'it returns false'. Refute it at one input. -/
def stateBeginsWrong : ChangeSpec := { name := "stateBegins", fn := fun _ => fun
  | [d1, d2, d3, d4] => { results := [.lit (.bool false)], args := [d1, d2, d3, d4] }
  | _ => none }
def StateBeginsWrongFalsely : Prop := stateBeginsRow.holds Tryz.pinned (OpenSpec.ofChange stateBeginsWrong)

/-- 'flyballlaw22.StateOrder': WHATEVER THE INPUT: true; the input reads as it did. -/
def stateOrderSpec : ChangeSpec := { name := "stateOrder", fn := fun _ => fun
  | [d1, d2, d3] => { results := [.lit (.bool true)], args := [d1, d2, d3] }
  | _ => none }
def stateOrderRow : OpenClaim := { program := "ytfckjjffdfkelaagreat", sum := "a8870d91b1266c45e6d422daf0fcf6b08c3cbf1f33e5cf6ab528370d5092bac1", func := "flyball/flyballlaw22.StateOrder", spec := "stateOrder", inPlace := ["math/bits.Add64", "math/bits.Sub64"], unfollowed := true, recurses := true, apart := false }
def StateOrderSaid : Prop := stateOrderRow.holds Tryz.pinned (OpenSpec.ofChange stateOrderSpec)

/-- ITS FALSE NEIGHBOUR: 'it returns false'. Refute it at one input. -/
def stateOrderWrong : ChangeSpec := { name := "stateOrder", fn := fun _ => fun
  | [d1, d2, d3] => { results := [.lit (.bool false)], args := [d1, d2, d3] }
  | _ => none }
def StateOrderWrongFalsely : Prop := stateOrderRow.holds Tryz.pinned (OpenSpec.ofChange stateOrderWrong)

/-- 'flyballlaw22.StateInputs': WHATEVER THE INPUT: true; the input reads as it did. -/
def stateInputsSpec : ChangeSpec := { name := "stateInputs", fn := fun _ => fun
  | [d1, d2, d3, d4, d5] => { results := [.lit (.bool true)], args := [d1, d2, d3, d4, d5] }
  | _ => none }
def stateInputsRow : OpenClaim := { program := "ytfckjjffdfkelaagreat", sum := "a8870d91b1266c45e6d422daf0fcf6b08c3cbf1f33e5cf6ab528370d5092bac1", func := "flyball/flyballlaw22.StateInputs", spec := "stateInputs", inPlace := ["math/bits.Add64", "math/bits.Sub64"], unfollowed := true, recurses := true, apart := false }
def StateInputsSaid : Prop := stateInputsRow.holds Tryz.pinned (OpenSpec.ofChange stateInputsSpec)

/-- ITS FALSE NEIGHBOUR: 'it returns false'. Refute it at one input. -/
def stateInputsWrong : ChangeSpec := { name := "stateInputs", fn := fun _ => fun
  | [d1, d2, d3, d4, d5] => { results := [.lit (.bool false)], args := [d1, d2, d3, d4, d5] }
  | _ => none }
def StateInputsWrongFalsely : Prop := stateInputsRow.holds Tryz.pinned (OpenSpec.ofChange stateInputsWrong)

/-- 'flyballlaw22.StateKeeps': WHATEVER THE INPUT: true; the input reads as it did. -/
def stateKeepsSpec : ChangeSpec := { name := "stateKeeps", fn := fun _ => fun
  | [d1, d2, d3, d4] => { results := [.lit (.bool true)], args := [d1, d2, d3, d4] }
  | _ => none }
def stateKeepsRow : OpenClaim := { program := "ytfckjjffdfkelaagreat", sum := "a8870d91b1266c45e6d422daf0fcf6b08c3cbf1f33e5cf6ab528370d5092bac1", func := "flyball/flyballlaw22.StateKeeps", spec := "stateKeeps", inPlace := ["math/bits.Add64", "math/bits.Sub64"], unfollowed := true, recurses := true, apart := false }
def StateKeepsSaid : Prop := stateKeepsRow.holds Tryz.pinned (OpenSpec.ofChange stateKeepsSpec)

/-- ITS FALSE NEIGHBOUR: 'it returns false'. Refute it at one input. -/
def stateKeepsWrong : ChangeSpec := { name := "stateKeeps", fn := fun _ => fun
  | [d1, d2, d3, d4] => { results := [.lit (.bool false)], args := [d1, d2, d3, d4] }
  | _ => none }
def StateKeepsWrongFalsely : Prop := stateKeepsRow.holds Tryz.pinned (OpenSpec.ofChange stateKeepsWrong)

/-- 'flyballlaw18.AffineSound': WHATEVER THE INPUT: true; the input reads as it did. -/
def affineSoundSpec : ChangeSpec := { name := "affineSound", fn := fun _ => fun
  | [d1, d2, d3, d4, d5] => { results := [.lit (.bool true)], args := [d1, d2, d3, d4, d5] }
  | _ => none }
def affineSoundRow : OpenClaim := { program := "ytfckjjffdfkelaagreat", sum := "a8870d91b1266c45e6d422daf0fcf6b08c3cbf1f33e5cf6ab528370d5092bac1", func := "flyball/flyballlaw18.AffineSound", spec := "affineSound", inPlace := ["math/bits.Add64", "math/bits.Sub64"], unfollowed := true, recurses := true, apart := false }
def AffineSoundSaid : Prop := affineSoundRow.holds Tryz.pinned (OpenSpec.ofChange affineSoundSpec)

/-- ITS FALSE NEIGHBOUR: 'it returns false'. Refute it at one input. -/
def affineSoundWrong : ChangeSpec := { name := "affineSound", fn := fun _ => fun
  | [d1, d2, d3, d4, d5] => { results := [.lit (.bool false)], args := [d1, d2, d3, d4, d5] }
  | _ => none }
def AffineSoundWrongFalsely : Prop := affineSoundRow.holds Tryz.pinned (OpenSpec.ofChange affineSoundWrong)

/-- 'flyballlaw18.AffineCovers': WHATEVER THE INPUT: true; the input reads as it did. -/
def affineCoversSpec : ChangeSpec := { name := "affineCovers", fn := fun _ => fun
  | [d1, d2, d3, d4, d5, d6] => { results := [.lit (.bool true)], args := [d1, d2, d3, d4, d5, d6] }
  | _ => none }
def affineCoversRow : OpenClaim := { program := "ytfckjjffdfkelaagreat", sum := "a8870d91b1266c45e6d422daf0fcf6b08c3cbf1f33e5cf6ab528370d5092bac1", func := "flyball/flyballlaw18.AffineCovers", spec := "affineCovers", inPlace := ["math/bits.Add64", "math/bits.Sub64"], unfollowed := true, recurses := true, apart := false }
def AffineCoversSaid : Prop := affineCoversRow.holds Tryz.pinned (OpenSpec.ofChange affineCoversSpec)

/-- ITS FALSE NEIGHBOUR: 'it returns false'. Refute it at one input. -/
def affineCoversWrong : ChangeSpec := { name := "affineCovers", fn := fun _ => fun
  | [d1, d2, d3, d4, d5, d6] => { results := [.lit (.bool false)], args := [d1, d2, d3, d4, d5, d6] }
  | _ => none }
def AffineCoversWrongFalsely : Prop := affineCoversRow.holds Tryz.pinned (OpenSpec.ofChange affineCoversWrong)

/-- 'flyballlaw18.AffineOf': WHATEVER THE INPUT: true; the input reads as it did. -/
def affineOfSpec : ChangeSpec := { name := "affineOf", fn := fun _ => fun
  | [d1, d2, d3, d4] => { results := [.lit (.bool true)], args := [d1, d2, d3, d4] }
  | _ => none }
def affineOfRow : OpenClaim := { program := "ytfckjjffdfkelaagreat", sum := "a8870d91b1266c45e6d422daf0fcf6b08c3cbf1f33e5cf6ab528370d5092bac1", func := "flyball/flyballlaw18.AffineOf", spec := "affineOf", inPlace := ["math/bits.Add64", "math/bits.Sub64"], unfollowed := true, recurses := true, apart := false }
def AffineOfSaid : Prop := affineOfRow.holds Tryz.pinned (OpenSpec.ofChange affineOfSpec)

/-- ITS FALSE NEIGHBOUR: 'it returns false'. Refute it at one input. -/
def affineOfWrong : ChangeSpec := { name := "affineOf", fn := fun _ => fun
  | [d1, d2, d3, d4] => { results := [.lit (.bool false)], args := [d1, d2, d3, d4] }
  | _ => none }
def AffineOfWrongFalsely : Prop := affineOfRow.holds Tryz.pinned (OpenSpec.ofChange affineOfWrong)

/- THE SECOND FORM. 'bulk': how many values and letters a reading holds, each counted each time it is reached (what is shared counts as often as it is met; a slice's spare places count too). A statement '..UptoSaid' is the law's where the arguments, and the package variables that the reading takes, are together of bulk at most 1048576: NARROWER than '..Said'. Prove '..Said' where nothing that the law and all that it calls make is longer than what came in: it says more and counts as full. Else prove '..UptoSaid'. A law counts once. -/
mutual
def uptoBulk {H : Type} : DataW H → Nat
  | .lit (.string bytes) => bytes.length + 1
  | .lit _ => 1
  | .nil => 1
  | .ptr d => uptoBulk d + 1
  | .slice elems spare => uptoBulkAll elems + uptoBulkAll spare + 1
  | .agg parts => uptoBulkAll parts + 1
  | .iface _ d => uptoBulk d + 1
  | .map entries => uptoBulkEntries entries + 1
  | .held _ => 1
def uptoBulkAll {H : Type} : List (DataW H) → Nat
  | [] => 0
  | d :: r => uptoBulk d + uptoBulkAll r
def uptoBulkEntries {H : Type} : List (Lit × DataW H) → Nat
  | [] => 0
  | x :: r => uptoBulkEntry x + uptoBulkEntries r
def uptoBulkEntry {H : Type} : Lit × DataW H → Nat
  | (.string bytes, d) => bytes.length + uptoBulk d + 1
  | (_, d) => uptoBulk d + 1
 end
def uptoSmall : (H : Type) → List (DataW H) → Bool := fun _ ds => decide (uptoBulkAll ds ≤ 1048576)
def OpenSpec.upto (s : _root_.Go.ChangeSpec) : _root_.Go.OpenSpec := { _root_.Go.OpenSpec.ofChange s with cond := some uptoSmall }

/-- 'flyballlaw22.StateNear', WHERE WHAT IT READS IS OF BULK AT MOST 1048576: true; the input reads as it did. -/
def stateNearUptoRow : OpenClaim := { program := "ytfckjjffdfkelaagreat", sum := "a8870d91b1266c45e6d422daf0fcf6b08c3cbf1f33e5cf6ab528370d5092bac1", func := "flyball/flyballlaw22.StateNear", spec := "stateNear", inPlace := ["math/bits.Add64", "math/bits.Sub64"], unfollowed := true, recurses := true, apart := false, narrowed := true }
def StateNearUptoSaid : Prop := stateNearUptoRow.holds Tryz.pinned (OpenSpec.upto stateNearSpec)

/-- 'flyballlaw22.StateInside', WHERE WHAT IT READS IS OF BULK AT MOST 1048576: true; the input reads as it did. -/
def stateInsideUptoRow : OpenClaim := { program := "ytfckjjffdfkelaagreat", sum := "a8870d91b1266c45e6d422daf0fcf6b08c3cbf1f33e5cf6ab528370d5092bac1", func := "flyball/flyballlaw22.StateInside", spec := "stateInside", inPlace := ["math/bits.Add64", "math/bits.Sub64"], unfollowed := true, recurses := true, apart := false, narrowed := true }
def StateInsideUptoSaid : Prop := stateInsideUptoRow.holds Tryz.pinned (OpenSpec.upto stateInsideSpec)

/-- 'flyballlaw22.StateBegins', WHERE WHAT IT READS IS OF BULK AT MOST 1048576: true; the input reads as it did. -/
def stateBeginsUptoRow : OpenClaim := { program := "ytfckjjffdfkelaagreat", sum := "a8870d91b1266c45e6d422daf0fcf6b08c3cbf1f33e5cf6ab528370d5092bac1", func := "flyball/flyballlaw22.StateBegins", spec := "stateBegins", inPlace := ["math/bits.Add64", "math/bits.Sub64"], unfollowed := true, recurses := true, apart := false, narrowed := true }
def StateBeginsUptoSaid : Prop := stateBeginsUptoRow.holds Tryz.pinned (OpenSpec.upto stateBeginsSpec)

/-- 'flyballlaw22.StateOrder', WHERE WHAT IT READS IS OF BULK AT MOST 1048576: true; the input reads as it did. -/
def stateOrderUptoRow : OpenClaim := { program := "ytfckjjffdfkelaagreat", sum := "a8870d91b1266c45e6d422daf0fcf6b08c3cbf1f33e5cf6ab528370d5092bac1", func := "flyball/flyballlaw22.StateOrder", spec := "stateOrder", inPlace := ["math/bits.Add64", "math/bits.Sub64"], unfollowed := true, recurses := true, apart := false, narrowed := true }
def StateOrderUptoSaid : Prop := stateOrderUptoRow.holds Tryz.pinned (OpenSpec.upto stateOrderSpec)

/-- 'flyballlaw22.StateInputs', WHERE WHAT IT READS IS OF BULK AT MOST 1048576: true; the input reads as it did. -/
def stateInputsUptoRow : OpenClaim := { program := "ytfckjjffdfkelaagreat", sum := "a8870d91b1266c45e6d422daf0fcf6b08c3cbf1f33e5cf6ab528370d5092bac1", func := "flyball/flyballlaw22.StateInputs", spec := "stateInputs", inPlace := ["math/bits.Add64", "math/bits.Sub64"], unfollowed := true, recurses := true, apart := false, narrowed := true }
def StateInputsUptoSaid : Prop := stateInputsUptoRow.holds Tryz.pinned (OpenSpec.upto stateInputsSpec)

/-- 'flyballlaw22.StateKeeps', WHERE WHAT IT READS IS OF BULK AT MOST 1048576: true; the input reads as it did. -/
def stateKeepsUptoRow : OpenClaim := { program := "ytfckjjffdfkelaagreat", sum := "a8870d91b1266c45e6d422daf0fcf6b08c3cbf1f33e5cf6ab528370d5092bac1", func := "flyball/flyballlaw22.StateKeeps", spec := "stateKeeps", inPlace := ["math/bits.Add64", "math/bits.Sub64"], unfollowed := true, recurses := true, apart := false, narrowed := true }
def StateKeepsUptoSaid : Prop := stateKeepsUptoRow.holds Tryz.pinned (OpenSpec.upto stateKeepsSpec)

/-- 'flyballlaw18.AffineSound', WHERE WHAT IT READS IS OF BULK AT MOST 1048576: true; the input reads as it did. -/
def affineSoundUptoRow : OpenClaim := { program := "ytfckjjffdfkelaagreat", sum := "a8870d91b1266c45e6d422daf0fcf6b08c3cbf1f33e5cf6ab528370d5092bac1", func := "flyball/flyballlaw18.AffineSound", spec := "affineSound", inPlace := ["math/bits.Add64", "math/bits.Sub64"], unfollowed := true, recurses := true, apart := false, narrowed := true }
def AffineSoundUptoSaid : Prop := affineSoundUptoRow.holds Tryz.pinned (OpenSpec.upto affineSoundSpec)

/-- 'flyballlaw18.AffineCovers', WHERE WHAT IT READS IS OF BULK AT MOST 1048576: true; the input reads as it did. -/
def affineCoversUptoRow : OpenClaim := { program := "ytfckjjffdfkelaagreat", sum := "a8870d91b1266c45e6d422daf0fcf6b08c3cbf1f33e5cf6ab528370d5092bac1", func := "flyball/flyballlaw18.AffineCovers", spec := "affineCovers", inPlace := ["math/bits.Add64", "math/bits.Sub64"], unfollowed := true, recurses := true, apart := false, narrowed := true }
def AffineCoversUptoSaid : Prop := affineCoversUptoRow.holds Tryz.pinned (OpenSpec.upto affineCoversSpec)

/-- 'flyballlaw18.AffineOf', WHERE WHAT IT READS IS OF BULK AT MOST 1048576: true; the input reads as it did. -/
def affineOfUptoRow : OpenClaim := { program := "ytfckjjffdfkelaagreat", sum := "a8870d91b1266c45e6d422daf0fcf6b08c3cbf1f33e5cf6ab528370d5092bac1", func := "flyball/flyballlaw18.AffineOf", spec := "affineOf", inPlace := ["math/bits.Add64", "math/bits.Sub64"], unfollowed := true, recurses := true, apart := false, narrowed := true }
def AffineOfUptoSaid : Prop := affineOfUptoRow.holds Tryz.pinned (OpenSpec.upto affineOfSpec)

end Rows
end Go.Proofs.YtfckjjffdfkelaaGreat
