/-
  No cell of these rows narrows 'for every input' (looked for: loops, veiled, ifaces, maps, wideKeys, modest, calm, conditions, laid).
  DERIVED. THE GIVEN ROWS OF THIS SEAT. 5 by the template 'for every input the law returns true; each argument reads behind the call as it read before'; 0 by the template 'total and deterministic' (their statements: YtfgolglgogmniaaTotals.lean).
  GIVEN WITH THE SEED: the statements are not yours to turn. If you find one false, say at which input.
  Laid BY PROGRAM, IN A SANDBOX (cutbox-rows.mjs): the forced cells as the released guide's own fill.sh prints them over the translation f420f84b5762024e… (all of the seat's roots in one cut). By AI agents, Wed Nov 11 2026. No macro, syntax, notation, axiom, sorry.
-/
import Derived.Test.YtfgolglgogmniaaChecked
import GoSem.Claim
import GoSem.ClaimJoined
import GoSem.ClaimMapViews
import Derived.JoinedTies
import Derived.KernelRfl
namespace Go.Proofs.Ytfgolglgogmniaa
/- THE CELL 'sum', in the pinned program and in every row, IS THE sha256 OF THE DUMP (.gsa) THAT YtfgolglgogmniaaProg.lean LOADS. Nothing in Lean hashes anything: it is a label: what it is worth is what the hold of that sum in a sandbox is worth. -/
noncomputable def Try.pinned : Pinned := { name := "ytfgolglgogmniaa", sum := "f420f84b5762024e543613bb2433bfff8c050820da633f493c13d12928be80b7", checked := Try.checked }
namespace Rows
def none {H : Type} : Left H := { results := [], args := [] }

/-- 'quaysidelaw39.LeaseRestarts': WHATEVER THE INPUT: true; the input reads as it did. -/
def leaseRestartsSpec : ChangeSpec := { name := "leaseRestarts", fn := fun _ => fun
  | [d1, d2, d3] => { results := [.lit (.bool true)], args := [d1, d2, d3] }
  | _ => none }
def leaseRestartsRow : OpenClaim := { program := "ytfgolglgogmniaa", sum := "f420f84b5762024e543613bb2433bfff8c050820da633f493c13d12928be80b7", func := "quayside/quaysidelaw39.LeaseRestarts", spec := "leaseRestarts", apart := false }
def LeaseRestartsSaid : Prop := leaseRestartsRow.holds Try.pinned (OpenSpec.ofChange leaseRestartsSpec)

/-- ITS FALSE NEIGHBOUR: 'it returns false'. Refute it at one input. -/
def leaseRestartsWrong : ChangeSpec := { name := "leaseRestarts", fn := fun _ => fun
  | [d1, d2, d3] => { results := [.lit (.bool false)], args := [d1, d2, d3] }
  | _ => none }
def LeaseRestartsWrongFalsely : Prop := leaseRestartsRow.holds Try.pinned (OpenSpec.ofChange leaseRestartsWrong)

/-- 'quaysidelaw39.LeaseEnds': WHATEVER THE INPUT: true; the input reads as it did. -/
def leaseEndsSpec : ChangeSpec := { name := "leaseEnds", fn := fun _ => fun
  | [d1, d2, d3] => { results := [.lit (.bool true)], args := [d1, d2, d3] }
  | _ => none }
def leaseEndsRow : OpenClaim := { program := "ytfgolglgogmniaa", sum := "f420f84b5762024e543613bb2433bfff8c050820da633f493c13d12928be80b7", func := "quayside/quaysidelaw39.LeaseEnds", spec := "leaseEnds", apart := false }
def LeaseEndsSaid : Prop := leaseEndsRow.holds Try.pinned (OpenSpec.ofChange leaseEndsSpec)

/-- ITS FALSE NEIGHBOUR: 'it returns false'. Refute it at one input. -/
def leaseEndsWrong : ChangeSpec := { name := "leaseEnds", fn := fun _ => fun
  | [d1, d2, d3] => { results := [.lit (.bool false)], args := [d1, d2, d3] }
  | _ => none }
def LeaseEndsWrongFalsely : Prop := leaseEndsRow.holds Try.pinned (OpenSpec.ofChange leaseEndsWrong)

/-- 'quaysidelaw39.LeaseSafe': WHATEVER THE INPUT: true; the input reads as it did. -/
def leaseSafeSpec : ChangeSpec := { name := "leaseSafe", fn := fun _ => fun
  | [d1, d2, d3] => { results := [.lit (.bool true)], args := [d1, d2, d3] }
  | _ => none }
def leaseSafeRow : OpenClaim := { program := "ytfgolglgogmniaa", sum := "f420f84b5762024e543613bb2433bfff8c050820da633f493c13d12928be80b7", func := "quayside/quaysidelaw39.LeaseSafe", spec := "leaseSafe", apart := false }
def LeaseSafeSaid : Prop := leaseSafeRow.holds Try.pinned (OpenSpec.ofChange leaseSafeSpec)

/-- ITS FALSE NEIGHBOUR: 'it returns false'. Refute it at one input. -/
def leaseSafeWrong : ChangeSpec := { name := "leaseSafe", fn := fun _ => fun
  | [d1, d2, d3] => { results := [.lit (.bool false)], args := [d1, d2, d3] }
  | _ => none }
def LeaseSafeWrongFalsely : Prop := leaseSafeRow.holds Try.pinned (OpenSpec.ofChange leaseSafeWrong)

/-- 'quaysidelaw39.LeaseFrees': WHATEVER THE INPUT: true; the input reads as it did. -/
def leaseFreesSpec : ChangeSpec := { name := "leaseFrees", fn := fun _ => fun
  | [d1, d2, d3] => { results := [.lit (.bool true)], args := [d1, d2, d3] }
  | _ => none }
def leaseFreesRow : OpenClaim := { program := "ytfgolglgogmniaa", sum := "f420f84b5762024e543613bb2433bfff8c050820da633f493c13d12928be80b7", func := "quayside/quaysidelaw39.LeaseFrees", spec := "leaseFrees", apart := false }
def LeaseFreesSaid : Prop := leaseFreesRow.holds Try.pinned (OpenSpec.ofChange leaseFreesSpec)

/-- ITS FALSE NEIGHBOUR: 'it returns false'. Refute it at one input. -/
def leaseFreesWrong : ChangeSpec := { name := "leaseFrees", fn := fun _ => fun
  | [d1, d2, d3] => { results := [.lit (.bool false)], args := [d1, d2, d3] }
  | _ => none }
def LeaseFreesWrongFalsely : Prop := leaseFreesRow.holds Try.pinned (OpenSpec.ofChange leaseFreesWrong)

/-- 'quaysidelaw39.LeaseNone': WHATEVER THE INPUT: true; the input reads as it did. -/
def leaseNoneSpec : ChangeSpec := { name := "leaseNone", fn := fun _ => fun
  | [d] => { results := [.lit (.bool true)], args := [d] }
  | _ => none }
def leaseNoneRow : OpenClaim := { program := "ytfgolglgogmniaa", sum := "f420f84b5762024e543613bb2433bfff8c050820da633f493c13d12928be80b7", func := "quayside/quaysidelaw39.LeaseNone", spec := "leaseNone", apart := false }
def LeaseNoneSaid : Prop := leaseNoneRow.holds Try.pinned (OpenSpec.ofChange leaseNoneSpec)

/-- ITS FALSE NEIGHBOUR: 'it returns false'. Refute it at one input. -/
def leaseNoneWrong : ChangeSpec := { name := "leaseNone", fn := fun _ => fun
  | [d] => { results := [.lit (.bool false)], args := [d] }
  | _ => none }
def LeaseNoneWrongFalsely : Prop := leaseNoneRow.holds Try.pinned (OpenSpec.ofChange leaseNoneWrong)

/- THE SECOND FORM. 'bulk': how many values and letters a reading holds, each counted each time it is reached (what is shared counts as often as it is met; a slice's spare places count too). A statement '..UptoSaid' is the law's where the arguments, and the package variables that the reading takes, are together of bulk at most 1048576: NARROWER than '..Said'. Prove '..Said' where nothing that the law and all that it calls make is longer than what came in: it says more and counts as full. Else prove '..UptoSaid'. A law counts once. -/
mutual
def uptoBulk {H : Type} : DataW H → Nat
  | .lit (.string bytes) => bytes.length + 1
  | .lit _ => 1
  | .nil => 1
  | .ptr d => uptoBulk d + 1
  | .slice elems spare => uptoBulkAll elems + uptoBulkAll spare + 1
  | .agg parts => uptoBulkAll parts + 1
  | .iface _ d => uptoBulk d + 1
  | .map entries => uptoBulkEntries entries + 1
  | .held _ => 1
def uptoBulkAll {H : Type} : List (DataW H) → Nat
  | [] => 0
  | d :: r => uptoBulk d + uptoBulkAll r
def uptoBulkEntries {H : Type} : List (Lit × DataW H) → Nat
  | [] => 0
  | x :: r => uptoBulkEntry x + uptoBulkEntries r
def uptoBulkEntry {H : Type} : Lit × DataW H → Nat
  | (.string bytes, d) => bytes.length + uptoBulk d + 1
  | (_, d) => uptoBulk d + 1
 end
def uptoSmall : (H : Type) → List (DataW H) → Bool := fun _ ds => decide (uptoBulkAll ds ≤ 1048576)
def OpenSpec.upto (s : _root_.Go.ChangeSpec) : _root_.Go.OpenSpec := { _root_.Go.OpenSpec.ofChange s with cond := some uptoSmall }

/-- 'quaysidelaw39.LeaseRestarts', WHERE WHAT IT READS IS OF BULK AT MOST 1048576: true; the input reads as it did. -/
def leaseRestartsUptoRow : OpenClaim := { program := "ytfgolglgogmniaa", sum := "f420f84b5762024e543613bb2433bfff8c050820da633f493c13d12928be80b7", func := "quayside/quaysidelaw39.LeaseRestarts", spec := "leaseRestarts", apart := false, narrowed := true }
def LeaseRestartsUptoSaid : Prop := leaseRestartsUptoRow.holds Try.pinned (OpenSpec.upto leaseRestartsSpec)

/-- 'quaysidelaw39.LeaseEnds', WHERE WHAT IT READS IS OF BULK AT MOST 1048576: true; the input reads as it did. -/
def leaseEndsUptoRow : OpenClaim := { program := "ytfgolglgogmniaa", sum := "f420f84b5762024e543613bb2433bfff8c050820da633f493c13d12928be80b7", func := "quayside/quaysidelaw39.LeaseEnds", spec := "leaseEnds", apart := false, narrowed := true }
def LeaseEndsUptoSaid : Prop := leaseEndsUptoRow.holds Try.pinned (OpenSpec.upto leaseEndsSpec)

/-- 'quaysidelaw39.LeaseSafe', WHERE WHAT IT READS IS OF BULK AT MOST 1048576: true; the input reads as it did. -/
def leaseSafeUptoRow : OpenClaim := { program := "ytfgolglgogmniaa", sum := "f420f84b5762024e543613bb2433bfff8c050820da633f493c13d12928be80b7", func := "quayside/quaysidelaw39.LeaseSafe", spec := "leaseSafe", apart := false, narrowed := true }
def LeaseSafeUptoSaid : Prop := leaseSafeUptoRow.holds Try.pinned (OpenSpec.upto leaseSafeSpec)

/-- 'quaysidelaw39.LeaseFrees', WHERE WHAT IT READS IS OF BULK AT MOST 1048576: true; the input reads as it did. -/
def leaseFreesUptoRow : OpenClaim := { program := "ytfgolglgogmniaa", sum := "f420f84b5762024e543613bb2433bfff8c050820da633f493c13d12928be80b7", func := "quayside/quaysidelaw39.LeaseFrees", spec := "leaseFrees", apart := false, narrowed := true }
def LeaseFreesUptoSaid : Prop := leaseFreesUptoRow.holds Try.pinned (OpenSpec.upto leaseFreesSpec)

/-- 'quaysidelaw39.LeaseNone', WHERE WHAT IT READS IS OF BULK AT MOST 1048576: true; the input reads as it did. -/
def leaseNoneUptoRow : OpenClaim := { program := "ytfgolglgogmniaa", sum := "f420f84b5762024e543613bb2433bfff8c050820da633f493c13d12928be80b7", func := "quayside/quaysidelaw39.LeaseNone", spec := "leaseNone", apart := false, narrowed := true }
def LeaseNoneUptoSaid : Prop := leaseNoneUptoRow.holds Try.pinned (OpenSpec.upto leaseNoneSpec)

end Rows
end Go.Proofs.Ytfgolglgogmniaa
