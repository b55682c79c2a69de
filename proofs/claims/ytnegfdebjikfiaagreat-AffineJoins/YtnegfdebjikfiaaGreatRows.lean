/-
  No cell of these rows narrows 'for every input' (looked for: loops, veiled, ifaces, maps, wideKeys, modest, calm, conditions, laid).
  DERIVED. THE GIVEN ROWS OF THIS SEAT. 5 by the template 'for every input the law returns true; each argument reads behind the call as it read before'; 0 by the template 'total and deterministic' (their statements: YtnegfdebjikfiaaGreatTotals.lean).
  GIVEN WITH THE SEED: the statements are not yours to turn. If you find one false, say at which input.
  Laid BY PROGRAM, IN A SANDBOX (cutbox-rows.mjs): the forced cells as the released guide's own fill.sh prints them over the translation 133256c2821a0642… (all of the seat's roots in one cut). By AI agents, Wed Nov 11 2026. No macro, syntax, notation, axiom, sorry.
-/
import Derived.Test.YtnegfdebjikfiaaGreatChecked
import GoSem.Claim
import GoSem.ClaimJoined
import GoSem.ClaimMapViews
import Derived.JoinedTies
import Derived.KernelRfl
namespace Go.Proofs.YtnegfdebjikfiaaGreat
/- THE CELL 'sum', in the pinned program and in every row, IS THE sha256 OF THE DUMP (.gsa) THAT YtnegfdebjikfiaaGreatProg.lean LOADS. Nothing in Lean hashes anything: it is a label: what it is worth is what the hold of that sum in a sandbox is worth. -/
noncomputable def Tryz.pinned : Pinned := { name := "ytnegfdebjikfiaagreat", sum := "133256c2821a0642b0b186dadb859cf4309b3a5f554d3ea447e80e5b2124455d", checked := Tryz.checked }
namespace Rows
def none {H : Type} : Left H := { results := [], args := [] }

/-- 'flyballlaw18.AffineMakes': WHATEVER THE INPUT: true; the input reads as it did. -/
def affineMakesSpec : ChangeSpec := { name := "affineMakes", fn := fun _ => fun
  | [d1, d2, d3, d4, d5] => { results := [.lit (.bool true)], args := [d1, d2, d3, d4, d5] }
  | _ => none }
def affineMakesRow : OpenClaim := { program := "ytnegfdebjikfiaagreat", sum := "133256c2821a0642b0b186dadb859cf4309b3a5f554d3ea447e80e5b2124455d", func := "flyball/flyballlaw18.AffineMakes", spec := "affineMakes", inPlace := ["math/bits.Add64", "math/bits.Sub64"], unfollowed := true, recurses := true, apart := false }
def AffineMakesSaid : Prop := affineMakesRow.holds Tryz.pinned (OpenSpec.ofChange affineMakesSpec)

/-- ITS FALSE NEIGHBOUR: 'it returns false'. Refute it at one input. -/
def affineMakesWrong : ChangeSpec := { name := "affineMakes", fn := fun _ => fun
  | [d1, d2, d3, d4, d5] => { results := [.lit (.bool false)], args := [d1, d2, d3, d4, d5] }
  | _ => none }
def AffineMakesWrongFalsely : Prop := affineMakesRow.holds Tryz.pinned (OpenSpec.ofChange affineMakesWrong)

/-- 'flyballlaw18.AffineSums': WHATEVER THE INPUT: true; the input reads as it did. -/
def affineSumsSpec : ChangeSpec := { name := "affineSums", fn := fun _ => fun
  | [d1, d2] => { results := [.lit (.bool true)], args := [d1, d2] }
  | _ => none }
def affineSumsRow : OpenClaim := { program := "ytnegfdebjikfiaagreat", sum := "133256c2821a0642b0b186dadb859cf4309b3a5f554d3ea447e80e5b2124455d", func := "flyball/flyballlaw18.AffineSums", spec := "affineSums", inPlace := ["math/bits.Add64", "math/bits.Sub64"], unfollowed := true, recurses := true, apart := false }
def AffineSumsSaid : Prop := affineSumsRow.holds Tryz.pinned (OpenSpec.ofChange affineSumsSpec)

/-- ITS FALSE NEIGHBOUR: 'it returns false'. Refute it at one input. -/
def affineSumsWrong : ChangeSpec := { name := "affineSums", fn := fun _ => fun
  | [d1, d2] => { results := [.lit (.bool false)], args := [d1, d2] }
  | _ => none }
def AffineSumsWrongFalsely : Prop := affineSumsRow.holds Tryz.pinned (OpenSpec.ofChange affineSumsWrong)

/-- 'flyballlaw18.AffineProducts': WHATEVER THE INPUT: true; the input reads as it did. -/
def affineProductsSpec : ChangeSpec := { name := "affineProducts", fn := fun _ => fun
  | [d1, d2] => { results := [.lit (.bool true)], args := [d1, d2] }
  | _ => none }
def affineProductsRow : OpenClaim := { program := "ytnegfdebjikfiaagreat", sum := "133256c2821a0642b0b186dadb859cf4309b3a5f554d3ea447e80e5b2124455d", func := "flyball/flyballlaw18.AffineProducts", spec := "affineProducts", inPlace := ["math/bits.Add64", "math/bits.Sub64"], unfollowed := true, recurses := true, apart := false }
def AffineProductsSaid : Prop := affineProductsRow.holds Tryz.pinned (OpenSpec.ofChange affineProductsSpec)

/-- ITS FALSE NEIGHBOUR: 'it returns false'. Refute it at one input. -/
def affineProductsWrong : ChangeSpec := { name := "affineProducts", fn := fun _ => fun
  | [d1, d2] => { results := [.lit (.bool false)], args := [d1, d2] }
  | _ => none }
def AffineProductsWrongFalsely : Prop := affineProductsRow.holds Tryz.pinned (OpenSpec.ofChange affineProductsWrong)

/-- 'flyballlaw18.AffineJoins': WHATEVER THE INPUT: true; the input reads as it did. -/
def affineJoinsSpec : ChangeSpec := { name := "affineJoins", fn := fun _ => fun
  | [d1, d2, d3] => { results := [.lit (.bool true)], args := [d1, d2, d3] }
  | _ => none }
def affineJoinsRow : OpenClaim := { program := "ytnegfdebjikfiaagreat", sum := "133256c2821a0642b0b186dadb859cf4309b3a5f554d3ea447e80e5b2124455d", func := "flyball/flyballlaw18.AffineJoins", spec := "affineJoins", inPlace := ["math/bits.Add64", "math/bits.Sub64"], unfollowed := true, recurses := true, apart := false }
def AffineJoinsSaid : Prop := affineJoinsRow.holds Tryz.pinned (OpenSpec.ofChange affineJoinsSpec)

/-- ITS FALSE NEIGHBOUR: 'it returns false'. Refute it at one input. -/
def affineJoinsWrong : ChangeSpec := { name := "affineJoins", fn := fun _ => fun
  | [d1, d2, d3] => { results := [.lit (.bool false)], args := [d1, d2, d3] }
  | _ => none }
def AffineJoinsWrongFalsely : Prop := affineJoinsRow.holds Tryz.pinned (OpenSpec.ofChange affineJoinsWrong)

/-- 'flyballlaw18.AffineCancels': WHATEVER THE INPUT: true; the input reads as it did. -/
def affineCancelsSpec : ChangeSpec := { name := "affineCancels", fn := fun _ => fun
  | [d] => { results := [.lit (.bool true)], args := [d] }
  | _ => none }
def affineCancelsRow : OpenClaim := { program := "ytnegfdebjikfiaagreat", sum := "133256c2821a0642b0b186dadb859cf4309b3a5f554d3ea447e80e5b2124455d", func := "flyball/flyballlaw18.AffineCancels", spec := "affineCancels", inPlace := ["math/bits.Add64", "math/bits.Sub64"], unfollowed := true, recurses := true, apart := false }
def AffineCancelsSaid : Prop := affineCancelsRow.holds Tryz.pinned (OpenSpec.ofChange affineCancelsSpec)

/-- ITS FALSE NEIGHBOUR: 'it returns false'. Refute it at one input. -/
def affineCancelsWrong : ChangeSpec := { name := "affineCancels", fn := fun _ => fun
  | [d] => { results := [.lit (.bool false)], args := [d] }
  | _ => none }
def AffineCancelsWrongFalsely : Prop := affineCancelsRow.holds Tryz.pinned (OpenSpec.ofChange affineCancelsWrong)

/- THE SECOND FORM. 'bulk': how many values and letters a reading holds, each counted each time it is reached (what is shared counts as often as it is met; a slice's spare places count too). A statement '..UptoSaid' is the law's where the arguments, and the package variables that the reading takes, are together of bulk at most 1048576: NARROWER than '..Said'. Prove '..Said' where nothing that the law and all that it calls make is longer than what came in: it says more and counts as full. Else prove '..UptoSaid'. A law counts once. -/
mutual
def uptoBulk {H : Type} : DataW H → Nat
  | .lit (.string bytes) => bytes.length + 1
  | .lit _ => 1
  | .nil => 1
  | .ptr d => uptoBulk d + 1
  | .slice elems spare => uptoBulkAll elems + uptoBulkAll spare + 1
  | .agg parts => uptoBulkAll parts + 1
  | .iface _ d => uptoBulk d + 1
  | .map entries => uptoBulkEntries entries + 1
  | .held _ => 1
def uptoBulkAll {H : Type} : List (DataW H) → Nat
  | [] => 0
  | d :: r => uptoBulk d + uptoBulkAll r
def uptoBulkEntries {H : Type} : List (Lit × DataW H) → Nat
  | [] => 0
  | x :: r => uptoBulkEntry x + uptoBulkEntries r
def uptoBulkEntry {H : Type} : Lit × DataW H → Nat
  | (.string bytes, d) => bytes.length + uptoBulk d + 1
  | (_, d) => uptoBulk d + 1
 end
def uptoSmall : (H : Type) → List (DataW H) → Bool := fun _ ds => decide (uptoBulkAll ds ≤ 1048576)
def OpenSpec.upto (s : _root_.Go.ChangeSpec) : _root_.Go.OpenSpec := { _root_.Go.OpenSpec.ofChange s with cond := some uptoSmall }

/-- 'flyballlaw18.AffineMakes', WHERE WHAT IT READS IS OF BULK AT MOST 1048576: true; the input reads as it did. -/
def affineMakesUptoRow : OpenClaim := { program := "ytnegfdebjikfiaagreat", sum := "133256c2821a0642b0b186dadb859cf4309b3a5f554d3ea447e80e5b2124455d", func := "flyball/flyballlaw18.AffineMakes", spec := "affineMakes", inPlace := ["math/bits.Add64", "math/bits.Sub64"], unfollowed := true, recurses := true, apart := false, narrowed := true }
def AffineMakesUptoSaid : Prop := affineMakesUptoRow.holds Tryz.pinned (OpenSpec.upto affineMakesSpec)

/-- 'flyballlaw18.AffineSums', WHERE WHAT IT READS IS OF BULK AT MOST 1048576: true; the input reads as it did. -/
def affineSumsUptoRow : OpenClaim := { program := "ytnegfdebjikfiaagreat", sum := "133256c2821a0642b0b186dadb859cf4309b3a5f554d3ea447e80e5b2124455d", func := "flyball/flyballlaw18.AffineSums", spec := "affineSums", inPlace := ["math/bits.Add64", "math/bits.Sub64"], unfollowed := true, recurses := true, apart := false, narrowed := true }
def AffineSumsUptoSaid : Prop := affineSumsUptoRow.holds Tryz.pinned (OpenSpec.upto affineSumsSpec)

/-- 'flyballlaw18.AffineProducts', WHERE WHAT IT READS IS OF BULK AT MOST 1048576: true; the input reads as it did. -/
def affineProductsUptoRow : OpenClaim := { program := "ytnegfdebjikfiaagreat", sum := "133256c2821a0642b0b186dadb859cf4309b3a5f554d3ea447e80e5b2124455d", func := "flyball/flyballlaw18.AffineProducts", spec := "affineProducts", inPlace := ["math/bits.Add64", "math/bits.Sub64"], unfollowed := true, recurses := true, apart := false, narrowed := true }
def AffineProductsUptoSaid : Prop := affineProductsUptoRow.holds Tryz.pinned (OpenSpec.upto affineProductsSpec)

/-- 'flyballlaw18.AffineJoins', WHERE WHAT IT READS IS OF BULK AT MOST 1048576: true; the input reads as it did. -/
def affineJoinsUptoRow : OpenClaim := { program := "ytnegfdebjikfiaagreat", sum := "133256c2821a0642b0b186dadb859cf4309b3a5f554d3ea447e80e5b2124455d", func := "flyball/flyballlaw18.AffineJoins", spec := "affineJoins", inPlace := ["math/bits.Add64", "math/bits.Sub64"], unfollowed := true, recurses := true, apart := false, narrowed := true }
def AffineJoinsUptoSaid : Prop := affineJoinsUptoRow.holds Tryz.pinned (OpenSpec.upto affineJoinsSpec)

/-- 'flyballlaw18.AffineCancels', WHERE WHAT IT READS IS OF BULK AT MOST 1048576: true; the input reads as it did. -/
def affineCancelsUptoRow : OpenClaim := { program := "ytnegfdebjikfiaagreat", sum := "133256c2821a0642b0b186dadb859cf4309b3a5f554d3ea447e80e5b2124455d", func := "flyball/flyballlaw18.AffineCancels", spec := "affineCancels", inPlace := ["math/bits.Add64", "math/bits.Sub64"], unfollowed := true, recurses := true, apart := false, narrowed := true }
def AffineCancelsUptoSaid : Prop := affineCancelsUptoRow.holds Tryz.pinned (OpenSpec.upto affineCancelsSpec)

end Rows
end Go.Proofs.YtnegfdebjikfiaaGreat
