/-
  No cell of these rows narrows 'for every input' (looked for: loops, veiled, ifaces, maps, wideKeys, modest, calm, conditions, laid).
  DERIVED. THE GIVEN ROWS OF THIS SEAT. 2 by the template 'for every input the law returns true; each argument reads behind the call as it read before'; 0 by the template 'total and deterministic' (their statements: YthnhpmbmadmmhaaGreatTotals.lean).
  GIVEN WITH THE SEED: the statements are not yours to turn. If you find one false, say at which input.
  Laid BY PROGRAM, IN A SANDBOX (cutbox-rows.mjs): the forced cells as the released guide's own fill.sh prints them over the translation 4725020f153b1ecb… (all of the seat's roots in one cut). By AI agents, Wed Nov 11 2026. No macro, syntax, notation, axiom, sorry.
-/
import Derived.Test.YthnhpmbmadmmhaaGreatChecked
import GoSem.Claim
import GoSem.ClaimJoined
import GoSem.ClaimMapViews
import Derived.JoinedTies
import Derived.KernelRfl
namespace Go.Proofs.YthnhpmbmadmmhaaGreat
/- THE CELL 'sum', in the pinned program and in every row, IS THE sha256 OF THE DUMP (.gsa) THAT YthnhpmbmadmmhaaGreatProg.lean LOADS. Nothing in Lean hashes anything: it is a label: what it is worth is what the hold of that sum in a sandbox is worth. -/
noncomputable def Tryz.pinned : Pinned := { name := "ythnhpmbmadmmhaagreat", sum := "4725020f153b1ecb3a79ab780787c325314c5e32713ade142fef89359db33bbe", checked := Tryz.checked }
namespace Rows
def none {H : Type} : Left H := { results := [], args := [] }

/-- 'warplaw18.SorterNil': WHATEVER THE INPUT: true; the input reads as it did. -/
def sorterNilSpec : ChangeSpec := { name := "sorterNil", fn := fun _ => fun
  | [d] => { results := [.lit (.bool true)], args := [d] }
  | _ => none }
def sorterNilRow : OpenClaim := { program := "ythnhpmbmadmmhaagreat", sum := "4725020f153b1ecb3a79ab780787c325314c5e32713ade142fef89359db33bbe", func := "warp/warplaw18.SorterNil", spec := "sorterNil", unfollowed := true, recurses := true, apart := false }
def SorterNilSaid : Prop := sorterNilRow.holds Tryz.pinned (OpenSpec.ofChange sorterNilSpec)

/-- ITS FALSE NEIGHBOUR: 'it returns false'. Refute it at one input. -/
def sorterNilWrong : ChangeSpec := { name := "sorterNil", fn := fun _ => fun
  | [d] => { results := [.lit (.bool false)], args := [d] }
  | _ => none }
def SorterNilWrongFalsely : Prop := sorterNilRow.holds Tryz.pinned (OpenSpec.ofChange sorterNilWrong)

/-- 'warplaw18.SorterCounts': WHATEVER THE INPUT: true; the input reads as it did. -/
def sorterCountsSpec : ChangeSpec := { name := "sorterCounts", fn := fun _ => fun
  | [d1, d2, d3, d4] => { results := [.lit (.bool true)], args := [d1, d2, d3, d4] }
  | _ => none }
def sorterCountsRow : OpenClaim := { program := "ythnhpmbmadmmhaagreat", sum := "4725020f153b1ecb3a79ab780787c325314c5e32713ade142fef89359db33bbe", func := "warp/warplaw18.SorterCounts", spec := "sorterCounts", unfollowed := true, recurses := true, apart := false }
def SorterCountsSaid : Prop := sorterCountsRow.holds Tryz.pinned (OpenSpec.ofChange sorterCountsSpec)

/-- ITS FALSE NEIGHBOUR: 'it returns false'. Refute it at one input. -/
def sorterCountsWrong : ChangeSpec := { name := "sorterCounts", fn := fun _ => fun
  | [d1, d2, d3, d4] => { results := [.lit (.bool false)], args := [d1, d2, d3, d4] }
  | _ => none }
def SorterCountsWrongFalsely : Prop := sorterCountsRow.holds Tryz.pinned (OpenSpec.ofChange sorterCountsWrong)

/- THE SECOND FORM. 'bulk': how many values and letters a reading holds, each counted each time it is reached (what is shared counts as often as it is met; a slice's spare places count too). A statement '..UptoSaid' is the law's where the arguments, and the package variables that the reading takes, are together of bulk at most 1048576: NARROWER than '..Said'. Prove '..Said' where nothing that the law and all that it calls make is longer than what came in: it says more and counts as full. Else prove '..UptoSaid'. A law counts once. -/
mutual
def uptoBulk {H : Type} : DataW H → Nat
  | .lit (.string bytes) => bytes.length + 1
  | .lit _ => 1
  | .nil => 1
  | .ptr d => uptoBulk d + 1
  | .slice elems spare => uptoBulkAll elems + uptoBulkAll spare + 1
  | .agg parts => uptoBulkAll parts + 1
  | .iface _ d => uptoBulk d + 1
  | .map entries => uptoBulkEntries entries + 1
  | .held _ => 1
def uptoBulkAll {H : Type} : List (DataW H) → Nat
  | [] => 0
  | d :: r => uptoBulk d + uptoBulkAll r
def uptoBulkEntries {H : Type} : List (Lit × DataW H) → Nat
  | [] => 0
  | x :: r => uptoBulkEntry x + uptoBulkEntries r
def uptoBulkEntry {H : Type} : Lit × DataW H → Nat
  | (.string bytes, d) => bytes.length + uptoBulk d + 1
  | (_, d) => uptoBulk d + 1
 end
def uptoSmall : (H : Type) → List (DataW H) → Bool := fun _ ds => decide (uptoBulkAll ds ≤ 1048576)
def OpenSpec.upto (s : _root_.Go.ChangeSpec) : _root_.Go.OpenSpec := { _root_.Go.OpenSpec.ofChange s with cond := some uptoSmall }

/-- 'warplaw18.SorterNil', WHERE WHAT IT READS IS OF BULK AT MOST 1048576: true; the input reads as it did. -/
def sorterNilUptoRow : OpenClaim := { program := "ythnhpmbmadmmhaagreat", sum := "4725020f153b1ecb3a79ab780787c325314c5e32713ade142fef89359db33bbe", func := "warp/warplaw18.SorterNil", spec := "sorterNil", unfollowed := true, recurses := true, apart := false, narrowed := true }
def SorterNilUptoSaid : Prop := sorterNilUptoRow.holds Tryz.pinned (OpenSpec.upto sorterNilSpec)

/-- 'warplaw18.SorterCounts', WHERE WHAT IT READS IS OF BULK AT MOST 1048576: true; the input reads as it did. -/
def sorterCountsUptoRow : OpenClaim := { program := "ythnhpmbmadmmhaagreat", sum := "4725020f153b1ecb3a79ab780787c325314c5e32713ade142fef89359db33bbe", func := "warp/warplaw18.SorterCounts", spec := "sorterCounts", unfollowed := true, recurses := true, apart := false, narrowed := true }
def SorterCountsUptoSaid : Prop := sorterCountsUptoRow.holds Tryz.pinned (OpenSpec.upto sorterCountsSpec)

end Rows
end Go.Proofs.YthnhpmbmadmmhaaGreat
