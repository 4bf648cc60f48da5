/-
  No cell of these rows narrows 'for every input' (looked for: loops, veiled, ifaces, maps, wideKeys, modest, calm, conditions, laid).
  DERIVED. THE GIVEN ROWS OF THIS SEAT. 9 by the template 'for every input the law returns true; each argument reads behind the call as it read before'; 0 by the template 'total and deterministic' (their statements: YtpbjbnaijbokoaaTotals.lean).
  GIVEN WITH THE SEED: the statements are not yours to turn. If you find one false, say at which input.
  Laid BY PROGRAM, IN A SANDBOX (cutbox-rows.mjs): the forced cells as the released guide's own fill.sh prints them over the translation f4e1a7da7a5643ad… (all of the seat's roots in one cut). By AI agents, Wed Nov 11 2026. No macro, syntax, notation, axiom, sorry.
-/
import Derived.Test.YtpbjbnaijbokoaaChecked
import GoSem.Claim
import GoSem.ClaimJoined
import GoSem.ClaimMapViews
import Derived.JoinedTies
import Derived.KernelRfl
namespace Go.Proofs.Ytpbjbnaijbokoaa
/- THE CELL 'sum', in the pinned program and in every row, IS THE sha256 OF THE DUMP (.gsa) THAT YtpbjbnaijbokoaaProg.lean LOADS. Nothing in Lean hashes anything: it is a label: what it is worth is what the hold of that sum in a sandbox is worth. -/
noncomputable def Try.pinned : Pinned := { name := "ytpbjbnaijbokoaa", sum := "f4e1a7da7a5643ad31f85d2e8ad8ffc90ae4ab47baa1f601f74f09d5f32d3c0f", checked := Try.checked }
namespace Rows
def none {H : Type} : Left H := { results := [], args := [] }

/-- 'nurserylaw18.CondvarApply': WHATEVER THE INPUT: true; the input reads as it did. -/
def condvarApplySpec : ChangeSpec := { name := "condvarApply", fn := fun _ => fun
  | [d1, d2, d3] => { results := [.lit (.bool true)], args := [d1, d2, d3] }
  | _ => none }
def condvarApplyRow : OpenClaim := { program := "ytpbjbnaijbokoaa", sum := "f4e1a7da7a5643ad31f85d2e8ad8ffc90ae4ab47baa1f601f74f09d5f32d3c0f", func := "nursery/nurserylaw18.CondvarApply", spec := "condvarApply", unfollowed := true, recurses := true, apart := false }
def CondvarApplySaid : Prop := condvarApplyRow.holds Try.pinned (OpenSpec.ofChange condvarApplySpec)

/-- ITS FALSE NEIGHBOUR: 'it returns false'. Refute it at one input. -/
def condvarApplyWrong : ChangeSpec := { name := "condvarApply", fn := fun _ => fun
  | [d1, d2, d3] => { results := [.lit (.bool false)], args := [d1, d2, d3] }
  | _ => none }
def CondvarApplyWrongFalsely : Prop := condvarApplyRow.holds Try.pinned (OpenSpec.ofChange condvarApplyWrong)

/-- 'nurserylaw18.CondvarStates': WHATEVER THE INPUT: true; the input reads as it did. -/
def condvarStatesSpec : ChangeSpec := { name := "condvarStates", fn := fun _ => fun
  | [d1, d2] => { results := [.lit (.bool true)], args := [d1, d2] }
  | _ => none }
def condvarStatesRow : OpenClaim := { program := "ytpbjbnaijbokoaa", sum := "f4e1a7da7a5643ad31f85d2e8ad8ffc90ae4ab47baa1f601f74f09d5f32d3c0f", func := "nursery/nurserylaw18.CondvarStates", spec := "condvarStates", unfollowed := true, recurses := true, apart := false }
def CondvarStatesSaid : Prop := condvarStatesRow.holds Try.pinned (OpenSpec.ofChange condvarStatesSpec)

/-- ITS FALSE NEIGHBOUR: 'it returns false'. Refute it at one input. -/
def condvarStatesWrong : ChangeSpec := { name := "condvarStates", fn := fun _ => fun
  | [d1, d2] => { results := [.lit (.bool false)], args := [d1, d2] }
  | _ => none }
def CondvarStatesWrongFalsely : Prop := condvarStatesRow.holds Try.pinned (OpenSpec.ofChange condvarStatesWrong)

/-- 'nurserylaw18.CondvarMemory': WHATEVER THE INPUT: true; the input reads as it did. -/
def condvarMemorySpec : ChangeSpec := { name := "condvarMemory", fn := fun _ => fun
  | [d1, d2, d3] => { results := [.lit (.bool true)], args := [d1, d2, d3] }
  | _ => none }
def condvarMemoryRow : OpenClaim := { program := "ytpbjbnaijbokoaa", sum := "f4e1a7da7a5643ad31f85d2e8ad8ffc90ae4ab47baa1f601f74f09d5f32d3c0f", func := "nursery/nurserylaw18.CondvarMemory", spec := "condvarMemory", unfollowed := true, recurses := true, apart := false }
def CondvarMemorySaid : Prop := condvarMemoryRow.holds Try.pinned (OpenSpec.ofChange condvarMemorySpec)

/-- ITS FALSE NEIGHBOUR: 'it returns false'. Refute it at one input. -/
def condvarMemoryWrong : ChangeSpec := { name := "condvarMemory", fn := fun _ => fun
  | [d1, d2, d3] => { results := [.lit (.bool false)], args := [d1, d2, d3] }
  | _ => none }
def CondvarMemoryWrongFalsely : Prop := condvarMemoryRow.holds Try.pinned (OpenSpec.ofChange condvarMemoryWrong)

/-- 'nurserylaw18.CondvarSignal': WHATEVER THE INPUT: true; the input reads as it did. -/
def condvarSignalSpec : ChangeSpec := { name := "condvarSignal", fn := fun _ => fun
  | [d1, d2] => { results := [.lit (.bool true)], args := [d1, d2] }
  | _ => none }
def condvarSignalRow : OpenClaim := { program := "ytpbjbnaijbokoaa", sum := "f4e1a7da7a5643ad31f85d2e8ad8ffc90ae4ab47baa1f601f74f09d5f32d3c0f", func := "nursery/nurserylaw18.CondvarSignal", spec := "condvarSignal", unfollowed := true, recurses := true, apart := false }
def CondvarSignalSaid : Prop := condvarSignalRow.holds Try.pinned (OpenSpec.ofChange condvarSignalSpec)

/-- ITS FALSE NEIGHBOUR: 'it returns false'. Refute it at one input. -/
def condvarSignalWrong : ChangeSpec := { name := "condvarSignal", fn := fun _ => fun
  | [d1, d2] => { results := [.lit (.bool false)], args := [d1, d2] }
  | _ => none }
def CondvarSignalWrongFalsely : Prop := condvarSignalRow.holds Try.pinned (OpenSpec.ofChange condvarSignalWrong)

/-- 'nurserylaw18.CondvarWithdraw': WHATEVER THE INPUT: true; the input reads as it did. -/
def condvarWithdrawSpec : ChangeSpec := { name := "condvarWithdraw", fn := fun _ => fun
  | [d1, d2, d3] => { results := [.lit (.bool true)], args := [d1, d2, d3] }
  | _ => none }
def condvarWithdrawRow : OpenClaim := { program := "ytpbjbnaijbokoaa", sum := "f4e1a7da7a5643ad31f85d2e8ad8ffc90ae4ab47baa1f601f74f09d5f32d3c0f", func := "nursery/nurserylaw18.CondvarWithdraw", spec := "condvarWithdraw", unfollowed := true, recurses := true, apart := false }
def CondvarWithdrawSaid : Prop := condvarWithdrawRow.holds Try.pinned (OpenSpec.ofChange condvarWithdrawSpec)

/-- ITS FALSE NEIGHBOUR: 'it returns false'. Refute it at one input. -/
def condvarWithdrawWrong : ChangeSpec := { name := "condvarWithdraw", fn := fun _ => fun
  | [d1, d2, d3] => { results := [.lit (.bool false)], args := [d1, d2, d3] }
  | _ => none }
def CondvarWithdrawWrongFalsely : Prop := condvarWithdrawRow.holds Try.pinned (OpenSpec.ofChange condvarWithdrawWrong)

/-- 'nurserylaw18.CondvarValid': WHATEVER THE INPUT: true; the input reads as it did. -/
def condvarValidSpec : ChangeSpec := { name := "condvarValid", fn := fun _ => fun
  | [d1, d2, d3, d4] => { results := [.lit (.bool true)], args := [d1, d2, d3, d4] }
  | _ => none }
def condvarValidRow : OpenClaim := { program := "ytpbjbnaijbokoaa", sum := "f4e1a7da7a5643ad31f85d2e8ad8ffc90ae4ab47baa1f601f74f09d5f32d3c0f", func := "nursery/nurserylaw18.CondvarValid", spec := "condvarValid", unfollowed := true, recurses := true, apart := false }
def CondvarValidSaid : Prop := condvarValidRow.holds Try.pinned (OpenSpec.ofChange condvarValidSpec)

/-- ITS FALSE NEIGHBOUR: 'it returns false'. Refute it at one input. -/
def condvarValidWrong : ChangeSpec := { name := "condvarValid", fn := fun _ => fun
  | [d1, d2, d3, d4] => { results := [.lit (.bool false)], args := [d1, d2, d3, d4] }
  | _ => none }
def CondvarValidWrongFalsely : Prop := condvarValidRow.holds Try.pinned (OpenSpec.ofChange condvarValidWrong)

/-- 'nurserylaw18.CondvarWithdraws': WHATEVER THE INPUT: true; the input reads as it did. -/
def condvarWithdrawsSpec : ChangeSpec := { name := "condvarWithdraws", fn := fun _ => fun
  | [d1, d2, d3] => { results := [.lit (.bool true)], args := [d1, d2, d3] }
  | _ => none }
def condvarWithdrawsRow : OpenClaim := { program := "ytpbjbnaijbokoaa", sum := "f4e1a7da7a5643ad31f85d2e8ad8ffc90ae4ab47baa1f601f74f09d5f32d3c0f", func := "nursery/nurserylaw18.CondvarWithdraws", spec := "condvarWithdraws", unfollowed := true, recurses := true, apart := false }
def CondvarWithdrawsSaid : Prop := condvarWithdrawsRow.holds Try.pinned (OpenSpec.ofChange condvarWithdrawsSpec)

/-- ITS FALSE NEIGHBOUR: 'it returns false'. Refute it at one input. -/
def condvarWithdrawsWrong : ChangeSpec := { name := "condvarWithdraws", fn := fun _ => fun
  | [d1, d2, d3] => { results := [.lit (.bool false)], args := [d1, d2, d3] }
  | _ => none }
def CondvarWithdrawsWrongFalsely : Prop := condvarWithdrawsRow.holds Try.pinned (OpenSpec.ofChange condvarWithdrawsWrong)

/-- 'nurserylaw18.CondvarOrder': WHATEVER THE INPUT: true; the input reads as it did. -/
def condvarOrderSpec : ChangeSpec := { name := "condvarOrder", fn := fun _ => fun
  | [d] => { results := [.lit (.bool true)], args := [d] }
  | _ => none }
def condvarOrderRow : OpenClaim := { program := "ytpbjbnaijbokoaa", sum := "f4e1a7da7a5643ad31f85d2e8ad8ffc90ae4ab47baa1f601f74f09d5f32d3c0f", func := "nursery/nurserylaw18.CondvarOrder", spec := "condvarOrder", unfollowed := true, recurses := true, apart := false }
def CondvarOrderSaid : Prop := condvarOrderRow.holds Try.pinned (OpenSpec.ofChange condvarOrderSpec)

/-- ITS FALSE NEIGHBOUR: 'it returns false'. Refute it at one input. -/
def condvarOrderWrong : ChangeSpec := { name := "condvarOrder", fn := fun _ => fun
  | [d] => { results := [.lit (.bool false)], args := [d] }
  | _ => none }
def CondvarOrderWrongFalsely : Prop := condvarOrderRow.holds Try.pinned (OpenSpec.ofChange condvarOrderWrong)

/-- 'nurserylaw18.CondvarBroadcast': WHATEVER THE INPUT: true; the input reads as it did. -/
def condvarBroadcastSpec : ChangeSpec := { name := "condvarBroadcast", fn := fun _ => fun
  | [d1, d2] => { results := [.lit (.bool true)], args := [d1, d2] }
  | _ => none }
def condvarBroadcastRow : OpenClaim := { program := "ytpbjbnaijbokoaa", sum := "f4e1a7da7a5643ad31f85d2e8ad8ffc90ae4ab47baa1f601f74f09d5f32d3c0f", func := "nursery/nurserylaw18.CondvarBroadcast", spec := "condvarBroadcast", unfollowed := true, recurses := true, apart := false }
def CondvarBroadcastSaid : Prop := condvarBroadcastRow.holds Try.pinned (OpenSpec.ofChange condvarBroadcastSpec)

/-- ITS FALSE NEIGHBOUR: 'it returns false'. Refute it at one input. -/
def condvarBroadcastWrong : ChangeSpec := { name := "condvarBroadcast", fn := fun _ => fun
  | [d1, d2] => { results := [.lit (.bool false)], args := [d1, d2] }
  | _ => none }
def CondvarBroadcastWrongFalsely : Prop := condvarBroadcastRow.holds Try.pinned (OpenSpec.ofChange condvarBroadcastWrong)

/- THE SECOND FORM. 'bulk': how many values and letters a reading holds, each counted each time it is reached (what is shared counts as often as it is met; a slice's spare places count too). A statement '..UptoSaid' is the law's where the arguments, and the package variables that the reading takes, are together of bulk at most 1048576: NARROWER than '..Said'. Prove '..Said' where nothing that the law and all that it calls make is longer than what came in: it says more and counts as full. Else prove '..UptoSaid'. A law counts once. -/
mutual
def uptoBulk {H : Type} : DataW H → Nat
  | .lit (.string bytes) => bytes.length + 1
  | .lit _ => 1
  | .nil => 1
  | .ptr d => uptoBulk d + 1
  | .slice elems spare => uptoBulkAll elems + uptoBulkAll spare + 1
  | .agg parts => uptoBulkAll parts + 1
  | .iface _ d => uptoBulk d + 1
  | .map entries => uptoBulkEntries entries + 1
  | .held _ => 1
def uptoBulkAll {H : Type} : List (DataW H) → Nat
  | [] => 0
  | d :: r => uptoBulk d + uptoBulkAll r
def uptoBulkEntries {H : Type} : List (Lit × DataW H) → Nat
  | [] => 0
  | x :: r => uptoBulkEntry x + uptoBulkEntries r
def uptoBulkEntry {H : Type} : Lit × DataW H → Nat
  | (.string bytes, d) => bytes.length + uptoBulk d + 1
  | (_, d) => uptoBulk d + 1
 end
def uptoSmall : (H : Type) → List (DataW H) → Bool := fun _ ds => decide (uptoBulkAll ds ≤ 1048576)
def OpenSpec.upto (s : _root_.Go.ChangeSpec) : _root_.Go.OpenSpec := { _root_.Go.OpenSpec.ofChange s with cond := some uptoSmall }

/-- 'nurserylaw18.CondvarApply', WHERE WHAT IT READS IS OF BULK AT MOST 1048576: true; the input reads as it did. -/
def condvarApplyUptoRow : OpenClaim := { program := "ytpbjbnaijbokoaa", sum := "f4e1a7da7a5643ad31f85d2e8ad8ffc90ae4ab47baa1f601f74f09d5f32d3c0f", func := "nursery/nurserylaw18.CondvarApply", spec := "condvarApply", unfollowed := true, recurses := true, apart := false, narrowed := true }
def CondvarApplyUptoSaid : Prop := condvarApplyUptoRow.holds Try.pinned (OpenSpec.upto condvarApplySpec)

/-- 'nurserylaw18.CondvarStates', WHERE WHAT IT READS IS OF BULK AT MOST 1048576: true; the input reads as it did. -/
def condvarStatesUptoRow : OpenClaim := { program := "ytpbjbnaijbokoaa", sum := "f4e1a7da7a5643ad31f85d2e8ad8ffc90ae4ab47baa1f601f74f09d5f32d3c0f", func := "nursery/nurserylaw18.CondvarStates", spec := "condvarStates", unfollowed := true, recurses := true, apart := false, narrowed := true }
def CondvarStatesUptoSaid : Prop := condvarStatesUptoRow.holds Try.pinned (OpenSpec.upto condvarStatesSpec)

/-- 'nurserylaw18.CondvarMemory', WHERE WHAT IT READS IS OF BULK AT MOST 1048576: true; the input reads as it did. -/
def condvarMemoryUptoRow : OpenClaim := { program := "ytpbjbnaijbokoaa", sum := "f4e1a7da7a5643ad31f85d2e8ad8ffc90ae4ab47baa1f601f74f09d5f32d3c0f", func := "nursery/nurserylaw18.CondvarMemory", spec := "condvarMemory", unfollowed := true, recurses := true, apart := false, narrowed := true }
def CondvarMemoryUptoSaid : Prop := condvarMemoryUptoRow.holds Try.pinned (OpenSpec.upto condvarMemorySpec)

/-- 'nurserylaw18.CondvarSignal', WHERE WHAT IT READS IS OF BULK AT MOST 1048576: true; the input reads as it did. -/
def condvarSignalUptoRow : OpenClaim := { program := "ytpbjbnaijbokoaa", sum := "f4e1a7da7a5643ad31f85d2e8ad8ffc90ae4ab47baa1f601f74f09d5f32d3c0f", func := "nursery/nurserylaw18.CondvarSignal", spec := "condvarSignal", unfollowed := true, recurses := true, apart := false, narrowed := true }
def CondvarSignalUptoSaid : Prop := condvarSignalUptoRow.holds Try.pinned (OpenSpec.upto condvarSignalSpec)

/-- 'nurserylaw18.CondvarWithdraw', WHERE WHAT IT READS IS OF BULK AT MOST 1048576: true; the input reads as it did. -/
def condvarWithdrawUptoRow : OpenClaim := { program := "ytpbjbnaijbokoaa", sum := "f4e1a7da7a5643ad31f85d2e8ad8ffc90ae4ab47baa1f601f74f09d5f32d3c0f", func := "nursery/nurserylaw18.CondvarWithdraw", spec := "condvarWithdraw", unfollowed := true, recurses := true, apart := false, narrowed := true }
def CondvarWithdrawUptoSaid : Prop := condvarWithdrawUptoRow.holds Try.pinned (OpenSpec.upto condvarWithdrawSpec)

/-- 'nurserylaw18.CondvarValid', WHERE WHAT IT READS IS OF BULK AT MOST 1048576: true; the input reads as it did. -/
def condvarValidUptoRow : OpenClaim := { program := "ytpbjbnaijbokoaa", sum := "f4e1a7da7a5643ad31f85d2e8ad8ffc90ae4ab47baa1f601f74f09d5f32d3c0f", func := "nursery/nurserylaw18.CondvarValid", spec := "condvarValid", unfollowed := true, recurses := true, apart := false, narrowed := true }
def CondvarValidUptoSaid : Prop := condvarValidUptoRow.holds Try.pinned (OpenSpec.upto condvarValidSpec)

/-- 'nurserylaw18.CondvarWithdraws', WHERE WHAT IT READS IS OF BULK AT MOST 1048576: true; the input reads as it did. -/
def condvarWithdrawsUptoRow : OpenClaim := { program := "ytpbjbnaijbokoaa", sum := "f4e1a7da7a5643ad31f85d2e8ad8ffc90ae4ab47baa1f601f74f09d5f32d3c0f", func := "nursery/nurserylaw18.CondvarWithdraws", spec := "condvarWithdraws", unfollowed := true, recurses := true, apart := false, narrowed := true }
def CondvarWithdrawsUptoSaid : Prop := condvarWithdrawsUptoRow.holds Try.pinned (OpenSpec.upto condvarWithdrawsSpec)

/-- 'nurserylaw18.CondvarOrder', WHERE WHAT IT READS IS OF BULK AT MOST 1048576: true; the input reads as it did. -/
def condvarOrderUptoRow : OpenClaim := { program := "ytpbjbnaijbokoaa", sum := "f4e1a7da7a5643ad31f85d2e8ad8ffc90ae4ab47baa1f601f74f09d5f32d3c0f", func := "nursery/nurserylaw18.CondvarOrder", spec := "condvarOrder", unfollowed := true, recurses := true, apart := false, narrowed := true }
def CondvarOrderUptoSaid : Prop := condvarOrderUptoRow.holds Try.pinned (OpenSpec.upto condvarOrderSpec)

/-- 'nurserylaw18.CondvarBroadcast', WHERE WHAT IT READS IS OF BULK AT MOST 1048576: true; the input reads as it did. -/
def condvarBroadcastUptoRow : OpenClaim := { program := "ytpbjbnaijbokoaa", sum := "f4e1a7da7a5643ad31f85d2e8ad8ffc90ae4ab47baa1f601f74f09d5f32d3c0f", func := "nursery/nurserylaw18.CondvarBroadcast", spec := "condvarBroadcast", unfollowed := true, recurses := true, apart := false, narrowed := true }
def CondvarBroadcastUptoSaid : Prop := condvarBroadcastUptoRow.holds Try.pinned (OpenSpec.upto condvarBroadcastSpec)

end Rows
end Go.Proofs.Ytpbjbnaijbokoaa
