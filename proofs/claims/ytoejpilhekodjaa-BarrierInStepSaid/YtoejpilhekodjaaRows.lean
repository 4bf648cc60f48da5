/-
  No cell of these rows narrows 'for every input' (looked for: loops, veiled, ifaces, maps, wideKeys, modest, calm, conditions, laid).
  DERIVED. THE GIVEN ROWS OF THIS SEAT. 8 by the template 'for every input the law returns true; each argument reads behind the call as it read before'; 0 by the template 'total and deterministic' (their statements: YtoejpilhekodjaaTotals.lean).
  GIVEN WITH THE SEED: the statements are not yours to turn. If you find one false, say at which input.
  Laid BY PROGRAM, IN A SANDBOX (cutbox-rows.mjs): the forced cells as the released guide's own fill.sh prints them over the translation 818000fc0465845d… (all of the seat's roots in one cut). By AI agents, Wed Nov 11 2026. No macro, syntax, notation, axiom, sorry.
-/
import Derived.Test.YtoejpilhekodjaaChecked
import GoSem.Claim
import GoSem.ClaimJoined
import GoSem.ClaimMapViews
import Derived.JoinedTies
import Derived.KernelRfl
namespace Go.Proofs.Ytoejpilhekodjaa
/- THE CELL 'sum', in the pinned program and in every row, IS THE sha256 OF THE DUMP (.gsa) THAT YtoejpilhekodjaaProg.lean LOADS. Nothing in Lean hashes anything: it is a label: what it is worth is what the hold of that sum in a sandbox is worth. -/
noncomputable def Try.pinned : Pinned := { name := "ytoejpilhekodjaa", sum := "818000fc0465845dda0c085f15ca0b35aff88cddd7cec0069995adf77a8f22f4", checked := Try.checked }
namespace Rows
def none {H : Type} : Left H := { results := [], args := [] }

/-- 'nurserylaw20.BarrierStates': WHATEVER THE INPUT: true; the input reads as it did. -/
def barrierStatesSpec : ChangeSpec := { name := "barrierStates", fn := fun _ => fun
  | [d1, d2] => { results := [.lit (.bool true)], args := [d1, d2] }
  | _ => none }
def barrierStatesRow : OpenClaim := { program := "ytoejpilhekodjaa", sum := "818000fc0465845dda0c085f15ca0b35aff88cddd7cec0069995adf77a8f22f4", func := "nursery/nurserylaw20.BarrierStates", spec := "barrierStates", unfollowed := true, recurses := true, apart := false }
def BarrierStatesSaid : Prop := barrierStatesRow.holds Try.pinned (OpenSpec.ofChange barrierStatesSpec)

/-- ITS FALSE NEIGHBOUR: 'it returns false'. Refute it at one input. -/
def barrierStatesWrong : ChangeSpec := { name := "barrierStates", fn := fun _ => fun
  | [d1, d2] => { results := [.lit (.bool false)], args := [d1, d2] }
  | _ => none }
def BarrierStatesWrongFalsely : Prop := barrierStatesRow.holds Try.pinned (OpenSpec.ofChange barrierStatesWrong)

/-- 'nurserylaw20.BarrierMeets': WHATEVER THE INPUT: true; the input reads as it did. -/
def barrierMeetsSpec : ChangeSpec := { name := "barrierMeets", fn := fun _ => fun
  | [d1, d2, d3] => { results := [.lit (.bool true)], args := [d1, d2, d3] }
  | _ => none }
def barrierMeetsRow : OpenClaim := { program := "ytoejpilhekodjaa", sum := "818000fc0465845dda0c085f15ca0b35aff88cddd7cec0069995adf77a8f22f4", func := "nursery/nurserylaw20.BarrierMeets", spec := "barrierMeets", unfollowed := true, recurses := true, apart := false }
def BarrierMeetsSaid : Prop := barrierMeetsRow.holds Try.pinned (OpenSpec.ofChange barrierMeetsSpec)

/-- ITS FALSE NEIGHBOUR: 'it returns false'. Refute it at one input. -/
def barrierMeetsWrong : ChangeSpec := { name := "barrierMeets", fn := fun _ => fun
  | [d1, d2, d3] => { results := [.lit (.bool false)], args := [d1, d2, d3] }
  | _ => none }
def BarrierMeetsWrongFalsely : Prop := barrierMeetsRow.holds Try.pinned (OpenSpec.ofChange barrierMeetsWrong)

/-- 'nurserylaw20.BarrierInStep': WHATEVER THE INPUT: true; the input reads as it did. -/
def barrierInStepSpec : ChangeSpec := { name := "barrierInStep", fn := fun _ => fun
  | [d1, d2] => { results := [.lit (.bool true)], args := [d1, d2] }
  | _ => none }
def barrierInStepRow : OpenClaim := { program := "ytoejpilhekodjaa", sum := "818000fc0465845dda0c085f15ca0b35aff88cddd7cec0069995adf77a8f22f4", func := "nursery/nurserylaw20.BarrierInStep", spec := "barrierInStep", unfollowed := true, recurses := true, apart := false }
def BarrierInStepSaid : Prop := barrierInStepRow.holds Try.pinned (OpenSpec.ofChange barrierInStepSpec)

/-- ITS FALSE NEIGHBOUR: 'it returns false'. Refute it at one input. -/
def barrierInStepWrong : ChangeSpec := { name := "barrierInStep", fn := fun _ => fun
  | [d1, d2] => { results := [.lit (.bool false)], args := [d1, d2] }
  | _ => none }
def BarrierInStepWrongFalsely : Prop := barrierInStepRow.holds Try.pinned (OpenSpec.ofChange barrierInStepWrong)

/-- 'nurserylaw20.BarrierApply': WHATEVER THE INPUT: true; the input reads as it did. -/
def barrierApplySpec : ChangeSpec := { name := "barrierApply", fn := fun _ => fun
  | [d1, d2, d3] => { results := [.lit (.bool true)], args := [d1, d2, d3] }
  | _ => none }
def barrierApplyRow : OpenClaim := { program := "ytoejpilhekodjaa", sum := "818000fc0465845dda0c085f15ca0b35aff88cddd7cec0069995adf77a8f22f4", func := "nursery/nurserylaw20.BarrierApply", spec := "barrierApply", unfollowed := true, recurses := true, apart := false }
def BarrierApplySaid : Prop := barrierApplyRow.holds Try.pinned (OpenSpec.ofChange barrierApplySpec)

/-- ITS FALSE NEIGHBOUR: 'it returns false'. Refute it at one input. -/
def barrierApplyWrong : ChangeSpec := { name := "barrierApply", fn := fun _ => fun
  | [d1, d2, d3] => { results := [.lit (.bool false)], args := [d1, d2, d3] }
  | _ => none }
def BarrierApplyWrongFalsely : Prop := barrierApplyRow.holds Try.pinned (OpenSpec.ofChange barrierApplyWrong)

/-- 'nurserylaw20.BarrierWithdraw': WHATEVER THE INPUT: true; the input reads as it did. -/
def barrierWithdrawSpec : ChangeSpec := { name := "barrierWithdraw", fn := fun _ => fun
  | [d1, d2, d3] => { results := [.lit (.bool true)], args := [d1, d2, d3] }
  | _ => none }
def barrierWithdrawRow : OpenClaim := { program := "ytoejpilhekodjaa", sum := "818000fc0465845dda0c085f15ca0b35aff88cddd7cec0069995adf77a8f22f4", func := "nursery/nurserylaw20.BarrierWithdraw", spec := "barrierWithdraw", unfollowed := true, recurses := true, apart := false }
def BarrierWithdrawSaid : Prop := barrierWithdrawRow.holds Try.pinned (OpenSpec.ofChange barrierWithdrawSpec)

/-- ITS FALSE NEIGHBOUR: 'it returns false'. Refute it at one input. -/
def barrierWithdrawWrong : ChangeSpec := { name := "barrierWithdraw", fn := fun _ => fun
  | [d1, d2, d3] => { results := [.lit (.bool false)], args := [d1, d2, d3] }
  | _ => none }
def BarrierWithdrawWrongFalsely : Prop := barrierWithdrawRow.holds Try.pinned (OpenSpec.ofChange barrierWithdrawWrong)

/-- 'nurserylaw20.BarrierCounts': WHATEVER THE INPUT: true; the input reads as it did. -/
def barrierCountsSpec : ChangeSpec := { name := "barrierCounts", fn := fun _ => fun
  | [d1, d2] => { results := [.lit (.bool true)], args := [d1, d2] }
  | _ => none }
def barrierCountsRow : OpenClaim := { program := "ytoejpilhekodjaa", sum := "818000fc0465845dda0c085f15ca0b35aff88cddd7cec0069995adf77a8f22f4", func := "nursery/nurserylaw20.BarrierCounts", spec := "barrierCounts", unfollowed := true, recurses := true, apart := false }
def BarrierCountsSaid : Prop := barrierCountsRow.holds Try.pinned (OpenSpec.ofChange barrierCountsSpec)

/-- ITS FALSE NEIGHBOUR: 'it returns false'. Refute it at one input. -/
def barrierCountsWrong : ChangeSpec := { name := "barrierCounts", fn := fun _ => fun
  | [d1, d2] => { results := [.lit (.bool false)], args := [d1, d2] }
  | _ => none }
def BarrierCountsWrongFalsely : Prop := barrierCountsRow.holds Try.pinned (OpenSpec.ofChange barrierCountsWrong)

/-- 'nurserylaw20.BarrierWithdraws': WHATEVER THE INPUT: true; the input reads as it did. -/
def barrierWithdrawsSpec : ChangeSpec := { name := "barrierWithdraws", fn := fun _ => fun
  | [d1, d2, d3, d4] => { results := [.lit (.bool true)], args := [d1, d2, d3, d4] }
  | _ => none }
def barrierWithdrawsRow : OpenClaim := { program := "ytoejpilhekodjaa", sum := "818000fc0465845dda0c085f15ca0b35aff88cddd7cec0069995adf77a8f22f4", func := "nursery/nurserylaw20.BarrierWithdraws", spec := "barrierWithdraws", unfollowed := true, recurses := true, apart := false }
def BarrierWithdrawsSaid : Prop := barrierWithdrawsRow.holds Try.pinned (OpenSpec.ofChange barrierWithdrawsSpec)

/-- ITS FALSE NEIGHBOUR: 'it returns false'. Refute it at one input. -/
def barrierWithdrawsWrong : ChangeSpec := { name := "barrierWithdraws", fn := fun _ => fun
  | [d1, d2, d3, d4] => { results := [.lit (.bool false)], args := [d1, d2, d3, d4] }
  | _ => none }
def BarrierWithdrawsWrongFalsely : Prop := barrierWithdrawsRow.holds Try.pinned (OpenSpec.ofChange barrierWithdrawsWrong)

/-- 'nurserylaw20.BarrierValid': WHATEVER THE INPUT: true; the input reads as it did. -/
def barrierValidSpec : ChangeSpec := { name := "barrierValid", fn := fun _ => fun
  | [d1, d2, d3] => { results := [.lit (.bool true)], args := [d1, d2, d3] }
  | _ => none }
def barrierValidRow : OpenClaim := { program := "ytoejpilhekodjaa", sum := "818000fc0465845dda0c085f15ca0b35aff88cddd7cec0069995adf77a8f22f4", func := "nursery/nurserylaw20.BarrierValid", spec := "barrierValid", unfollowed := true, recurses := true, apart := false }
def BarrierValidSaid : Prop := barrierValidRow.holds Try.pinned (OpenSpec.ofChange barrierValidSpec)

/-- ITS FALSE NEIGHBOUR: 'it returns false'. Refute it at one input. -/
def barrierValidWrong : ChangeSpec := { name := "barrierValid", fn := fun _ => fun
  | [d1, d2, d3] => { results := [.lit (.bool false)], args := [d1, d2, d3] }
  | _ => none }
def BarrierValidWrongFalsely : Prop := barrierValidRow.holds Try.pinned (OpenSpec.ofChange barrierValidWrong)

/- THE SECOND FORM. 'bulk': how many values and letters a reading holds, each counted each time it is reached (what is shared counts as often as it is met; a slice's spare places count too). A statement '..UptoSaid' is the law's where the arguments, and the package variables that the reading takes, are together of bulk at most 1048576: NARROWER than '..Said'. Prove '..Said' where nothing that the law and all that it calls make is longer than what came in: it says more and counts as full. Else prove '..UptoSaid'. A law counts once. -/
mutual
def uptoBulk {H : Type} : DataW H → Nat
  | .lit (.string bytes) => bytes.length + 1
  | .lit _ => 1
  | .nil => 1
  | .ptr d => uptoBulk d + 1
  | .slice elems spare => uptoBulkAll elems + uptoBulkAll spare + 1
  | .agg parts => uptoBulkAll parts + 1
  | .iface _ d => uptoBulk d + 1
  | .map entries => uptoBulkEntries entries + 1
  | .held _ => 1
def uptoBulkAll {H : Type} : List (DataW H) → Nat
  | [] => 0
  | d :: r => uptoBulk d + uptoBulkAll r
def uptoBulkEntries {H : Type} : List (Lit × DataW H) → Nat
  | [] => 0
  | x :: r => uptoBulkEntry x + uptoBulkEntries r
def uptoBulkEntry {H : Type} : Lit × DataW H → Nat
  | (.string bytes, d) => bytes.length + uptoBulk d + 1
  | (_, d) => uptoBulk d + 1
 end
def uptoSmall : (H : Type) → List (DataW H) → Bool := fun _ ds => decide (uptoBulkAll ds ≤ 1048576)
def OpenSpec.upto (s : _root_.Go.ChangeSpec) : _root_.Go.OpenSpec := { _root_.Go.OpenSpec.ofChange s with cond := some uptoSmall }

/-- 'nurserylaw20.BarrierStates', WHERE WHAT IT READS IS OF BULK AT MOST 1048576: true; the input reads as it did. -/
def barrierStatesUptoRow : OpenClaim := { program := "ytoejpilhekodjaa", sum := "818000fc0465845dda0c085f15ca0b35aff88cddd7cec0069995adf77a8f22f4", func := "nursery/nurserylaw20.BarrierStates", spec := "barrierStates", unfollowed := true, recurses := true, apart := false, narrowed := true }
def BarrierStatesUptoSaid : Prop := barrierStatesUptoRow.holds Try.pinned (OpenSpec.upto barrierStatesSpec)

/-- 'nurserylaw20.BarrierMeets', WHERE WHAT IT READS IS OF BULK AT MOST 1048576: true; the input reads as it did. -/
def barrierMeetsUptoRow : OpenClaim := { program := "ytoejpilhekodjaa", sum := "818000fc0465845dda0c085f15ca0b35aff88cddd7cec0069995adf77a8f22f4", func := "nursery/nurserylaw20.BarrierMeets", spec := "barrierMeets", unfollowed := true, recurses := true, apart := false, narrowed := true }
def BarrierMeetsUptoSaid : Prop := barrierMeetsUptoRow.holds Try.pinned (OpenSpec.upto barrierMeetsSpec)

/-- 'nurserylaw20.BarrierInStep', WHERE WHAT IT READS IS OF BULK AT MOST 1048576: true; the input reads as it did. -/
def barrierInStepUptoRow : OpenClaim := { program := "ytoejpilhekodjaa", sum := "818000fc0465845dda0c085f15ca0b35aff88cddd7cec0069995adf77a8f22f4", func := "nursery/nurserylaw20.BarrierInStep", spec := "barrierInStep", unfollowed := true, recurses := true, apart := false, narrowed := true }
def BarrierInStepUptoSaid : Prop := barrierInStepUptoRow.holds Try.pinned (OpenSpec.upto barrierInStepSpec)

/-- 'nurserylaw20.BarrierApply', WHERE WHAT IT READS IS OF BULK AT MOST 1048576: true; the input reads as it did. -/
def barrierApplyUptoRow : OpenClaim := { program := "ytoejpilhekodjaa", sum := "818000fc0465845dda0c085f15ca0b35aff88cddd7cec0069995adf77a8f22f4", func := "nursery/nurserylaw20.BarrierApply", spec := "barrierApply", unfollowed := true, recurses := true, apart := false, narrowed := true }
def BarrierApplyUptoSaid : Prop := barrierApplyUptoRow.holds Try.pinned (OpenSpec.upto barrierApplySpec)

/-- 'nurserylaw20.BarrierWithdraw', WHERE WHAT IT READS IS OF BULK AT MOST 1048576: true; the input reads as it did. -/
def barrierWithdrawUptoRow : OpenClaim := { program := "ytoejpilhekodjaa", sum := "818000fc0465845dda0c085f15ca0b35aff88cddd7cec0069995adf77a8f22f4", func := "nursery/nurserylaw20.BarrierWithdraw", spec := "barrierWithdraw", unfollowed := true, recurses := true, apart := false, narrowed := true }
def BarrierWithdrawUptoSaid : Prop := barrierWithdrawUptoRow.holds Try.pinned (OpenSpec.upto barrierWithdrawSpec)

/-- 'nurserylaw20.BarrierCounts', WHERE WHAT IT READS IS OF BULK AT MOST 1048576: true; the input reads as it did. -/
def barrierCountsUptoRow : OpenClaim := { program := "ytoejpilhekodjaa", sum := "818000fc0465845dda0c085f15ca0b35aff88cddd7cec0069995adf77a8f22f4", func := "nursery/nurserylaw20.BarrierCounts", spec := "barrierCounts", unfollowed := true, recurses := true, apart := false, narrowed := true }
def BarrierCountsUptoSaid : Prop := barrierCountsUptoRow.holds Try.pinned (OpenSpec.upto barrierCountsSpec)

/-- 'nurserylaw20.BarrierWithdraws', WHERE WHAT IT READS IS OF BULK AT MOST 1048576: true; the input reads as it did. -/
def barrierWithdrawsUptoRow : OpenClaim := { program := "ytoejpilhekodjaa", sum := "818000fc0465845dda0c085f15ca0b35aff88cddd7cec0069995adf77a8f22f4", func := "nursery/nurserylaw20.BarrierWithdraws", spec := "barrierWithdraws", unfollowed := true, recurses := true, apart := false, narrowed := true }
def BarrierWithdrawsUptoSaid : Prop := barrierWithdrawsUptoRow.holds Try.pinned (OpenSpec.upto barrierWithdrawsSpec)

/-- 'nurserylaw20.BarrierValid', WHERE WHAT IT READS IS OF BULK AT MOST 1048576: true; the input reads as it did. -/
def barrierValidUptoRow : OpenClaim := { program := "ytoejpilhekodjaa", sum := "818000fc0465845dda0c085f15ca0b35aff88cddd7cec0069995adf77a8f22f4", func := "nursery/nurserylaw20.BarrierValid", spec := "barrierValid", unfollowed := true, recurses := true, apart := false, narrowed := true }
def BarrierValidUptoSaid : Prop := barrierValidUptoRow.holds Try.pinned (OpenSpec.upto barrierValidSpec)

end Rows
end Go.Proofs.Ytoejpilhekodjaa
