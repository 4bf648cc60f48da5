/-
  No cell of these rows narrows 'for every input' (looked for: loops, veiled, ifaces, maps, wideKeys, modest, calm, conditions, laid).
  DERIVED. THE GIVEN ROWS OF THIS SEAT. 6 by the template 'for every input the law returns true; each argument reads behind the call as it read before'; 0 by the template 'total and deterministic' (their statements: YtcejdpnaobkidaaTotals.lean).
  GIVEN WITH THE SEED: the statements are not yours to turn. If you find one false, say at which input.
  Laid BY PROGRAM, IN A SANDBOX (cutbox-rows.mjs): the forced cells as the released guide's own fill.sh prints them over the translation d87523b76c98bb84… (all of the seat's roots in one cut). By AI agents, Wed Nov 11 2026. No macro, syntax, notation, axiom, sorry.
-/
import Derived.Test.YtcejdpnaobkidaaChecked
import GoSem.Claim
import GoSem.ClaimJoined
import GoSem.ClaimMapViews
import Derived.JoinedTies
import Derived.KernelRfl
namespace Go.Proofs.Ytcejdpnaobkidaa
/- THE CELL 'sum', in the pinned program and in every row, IS THE sha256 OF THE DUMP (.gsa) THAT YtcejdpnaobkidaaProg.lean LOADS. Nothing in Lean hashes anything: it is a label: what it is worth is what the hold of that sum in a sandbox is worth. -/
noncomputable def Try.pinned : Pinned := { name := "ytcejdpnaobkidaa", sum := "d87523b76c98bb84ee71d95b4c9ccf6808ef0e16367d2793e7e03509518f416d", checked := Try.checked }
namespace Rows
def none {H : Type} : Left H := { results := [], args := [] }

/-- 'nurserylaw25.FutureApply': WHATEVER THE INPUT: true; the input reads as it did. -/
def futureApplySpec : ChangeSpec := { name := "futureApply", fn := fun _ => fun
  | [d1, d2, d3] => { results := [.lit (.bool true)], args := [d1, d2, d3] }
  | _ => none }
def futureApplyRow : OpenClaim := { program := "ytcejdpnaobkidaa", sum := "d87523b76c98bb84ee71d95b4c9ccf6808ef0e16367d2793e7e03509518f416d", func := "nursery/nurserylaw25.FutureApply", spec := "futureApply", apart := false }
def FutureApplySaid : Prop := futureApplyRow.holds Try.pinned (OpenSpec.ofChange futureApplySpec)

/-- ITS FALSE NEIGHBOUR: 'it returns false'. Refute it at one input. -/
def futureApplyWrong : ChangeSpec := { name := "futureApply", fn := fun _ => fun
  | [d1, d2, d3] => { results := [.lit (.bool false)], args := [d1, d2, d3] }
  | _ => none }
def FutureApplyWrongFalsely : Prop := futureApplyRow.holds Try.pinned (OpenSpec.ofChange futureApplyWrong)

/-- 'nurserylaw25.FutureOnce': WHATEVER THE INPUT: true; the input reads as it did. -/
def futureOnceSpec : ChangeSpec := { name := "futureOnce", fn := fun _ => fun
  | [d1, d2, d3] => { results := [.lit (.bool true)], args := [d1, d2, d3] }
  | _ => none }
def futureOnceRow : OpenClaim := { program := "ytcejdpnaobkidaa", sum := "d87523b76c98bb84ee71d95b4c9ccf6808ef0e16367d2793e7e03509518f416d", func := "nursery/nurserylaw25.FutureOnce", spec := "futureOnce", apart := false }
def FutureOnceSaid : Prop := futureOnceRow.holds Try.pinned (OpenSpec.ofChange futureOnceSpec)

/-- ITS FALSE NEIGHBOUR: 'it returns false'. Refute it at one input. -/
def futureOnceWrong : ChangeSpec := { name := "futureOnce", fn := fun _ => fun
  | [d1, d2, d3] => { results := [.lit (.bool false)], args := [d1, d2, d3] }
  | _ => none }
def FutureOnceWrongFalsely : Prop := futureOnceRow.holds Try.pinned (OpenSpec.ofChange futureOnceWrong)

/-- 'nurserylaw25.FutureValid': WHATEVER THE INPUT: true; the input reads as it did. -/
def futureValidSpec : ChangeSpec := { name := "futureValid", fn := fun _ => fun
  | [d1, d2] => { results := [.lit (.bool true)], args := [d1, d2] }
  | _ => none }
def futureValidRow : OpenClaim := { program := "ytcejdpnaobkidaa", sum := "d87523b76c98bb84ee71d95b4c9ccf6808ef0e16367d2793e7e03509518f416d", func := "nursery/nurserylaw25.FutureValid", spec := "futureValid", unfollowed := true, recurses := true, apart := false }
def FutureValidSaid : Prop := futureValidRow.holds Try.pinned (OpenSpec.ofChange futureValidSpec)

/-- ITS FALSE NEIGHBOUR: 'it returns false'. Refute it at one input. -/
def futureValidWrong : ChangeSpec := { name := "futureValid", fn := fun _ => fun
  | [d1, d2] => { results := [.lit (.bool false)], args := [d1, d2] }
  | _ => none }
def FutureValidWrongFalsely : Prop := futureValidRow.holds Try.pinned (OpenSpec.ofChange futureValidWrong)

/-- 'nurserylaw25.FutureUndo': WHATEVER THE INPUT: true; the input reads as it did. -/
def futureUndoSpec : ChangeSpec := { name := "futureUndo", fn := fun _ => fun
  | [d1, d2, d3] => { results := [.lit (.bool true)], args := [d1, d2, d3] }
  | _ => none }
def futureUndoRow : OpenClaim := { program := "ytcejdpnaobkidaa", sum := "d87523b76c98bb84ee71d95b4c9ccf6808ef0e16367d2793e7e03509518f416d", func := "nursery/nurserylaw25.FutureUndo", spec := "futureUndo", unfollowed := true, recurses := true, apart := false }
def FutureUndoSaid : Prop := futureUndoRow.holds Try.pinned (OpenSpec.ofChange futureUndoSpec)

/-- ITS FALSE NEIGHBOUR: 'it returns false'. Refute it at one input. -/
def futureUndoWrong : ChangeSpec := { name := "futureUndo", fn := fun _ => fun
  | [d1, d2, d3] => { results := [.lit (.bool false)], args := [d1, d2, d3] }
  | _ => none }
def FutureUndoWrongFalsely : Prop := futureUndoRow.holds Try.pinned (OpenSpec.ofChange futureUndoWrong)

/-- 'nurserylaw25.FutureWithdraw': WHATEVER THE INPUT: true; the input reads as it did. -/
def futureWithdrawSpec : ChangeSpec := { name := "futureWithdraw", fn := fun _ => fun
  | [d1, d2, d3] => { results := [.lit (.bool true)], args := [d1, d2, d3] }
  | _ => none }
def futureWithdrawRow : OpenClaim := { program := "ytcejdpnaobkidaa", sum := "d87523b76c98bb84ee71d95b4c9ccf6808ef0e16367d2793e7e03509518f416d", func := "nursery/nurserylaw25.FutureWithdraw", spec := "futureWithdraw", unfollowed := true, recurses := true, apart := false }
def FutureWithdrawSaid : Prop := futureWithdrawRow.holds Try.pinned (OpenSpec.ofChange futureWithdrawSpec)

/-- ITS FALSE NEIGHBOUR: 'it returns false'. Refute it at one input. -/
def futureWithdrawWrong : ChangeSpec := { name := "futureWithdraw", fn := fun _ => fun
  | [d1, d2, d3] => { results := [.lit (.bool false)], args := [d1, d2, d3] }
  | _ => none }
def FutureWithdrawWrongFalsely : Prop := futureWithdrawRow.holds Try.pinned (OpenSpec.ofChange futureWithdrawWrong)

/-- 'nurserylaw25.FutureAll': WHATEVER THE INPUT: true; the input reads as it did. -/
def futureAllSpec : ChangeSpec := { name := "futureAll", fn := fun _ => fun
  | [d1, d2, d3, d4] => { results := [.lit (.bool true)], args := [d1, d2, d3, d4] }
  | _ => none }
def futureAllRow : OpenClaim := { program := "ytcejdpnaobkidaa", sum := "d87523b76c98bb84ee71d95b4c9ccf6808ef0e16367d2793e7e03509518f416d", func := "nursery/nurserylaw25.FutureAll", spec := "futureAll", unfollowed := true, recurses := true, apart := false }
def FutureAllSaid : Prop := futureAllRow.holds Try.pinned (OpenSpec.ofChange futureAllSpec)

/-- ITS FALSE NEIGHBOUR: 'it returns false'. Refute it at one input. -/
def futureAllWrong : ChangeSpec := { name := "futureAll", fn := fun _ => fun
  | [d1, d2, d3, d4] => { results := [.lit (.bool false)], args := [d1, d2, d3, d4] }
  | _ => none }
def FutureAllWrongFalsely : Prop := futureAllRow.holds Try.pinned (OpenSpec.ofChange futureAllWrong)

/- THE SECOND FORM. 'bulk': how many values and letters a reading holds, each counted each time it is reached (what is shared counts as often as it is met; a slice's spare places count too). A statement '..UptoSaid' is the law's where the arguments, and the package variables that the reading takes, are together of bulk at most 1048576: NARROWER than '..Said'. Prove '..Said' where nothing that the law and all that it calls make is longer than what came in: it says more and counts as full. Else prove '..UptoSaid'. A law counts once. -/
mutual
def uptoBulk {H : Type} : DataW H → Nat
  | .lit (.string bytes) => bytes.length + 1
  | .lit _ => 1
  | .nil => 1
  | .ptr d => uptoBulk d + 1
  | .slice elems spare => uptoBulkAll elems + uptoBulkAll spare + 1
  | .agg parts => uptoBulkAll parts + 1
  | .iface _ d => uptoBulk d + 1
  | .map entries => uptoBulkEntries entries + 1
  | .held _ => 1
def uptoBulkAll {H : Type} : List (DataW H) → Nat
  | [] => 0
  | d :: r => uptoBulk d + uptoBulkAll r
def uptoBulkEntries {H : Type} : List (Lit × DataW H) → Nat
  | [] => 0
  | x :: r => uptoBulkEntry x + uptoBulkEntries r
def uptoBulkEntry {H : Type} : Lit × DataW H → Nat
  | (.string bytes, d) => bytes.length + uptoBulk d + 1
  | (_, d) => uptoBulk d + 1
 end
def uptoSmall : (H : Type) → List (DataW H) → Bool := fun _ ds => decide (uptoBulkAll ds ≤ 1048576)
def OpenSpec.upto (s : _root_.Go.ChangeSpec) : _root_.Go.OpenSpec := { _root_.Go.OpenSpec.ofChange s with cond := some uptoSmall }

/-- 'nurserylaw25.FutureApply', WHERE WHAT IT READS IS OF BULK AT MOST 1048576: true; the input reads as it did. -/
def futureApplyUptoRow : OpenClaim := { program := "ytcejdpnaobkidaa", sum := "d87523b76c98bb84ee71d95b4c9ccf6808ef0e16367d2793e7e03509518f416d", func := "nursery/nurserylaw25.FutureApply", spec := "futureApply", apart := false, narrowed := true }
def FutureApplyUptoSaid : Prop := futureApplyUptoRow.holds Try.pinned (OpenSpec.upto futureApplySpec)

/-- 'nurserylaw25.FutureOnce', WHERE WHAT IT READS IS OF BULK AT MOST 1048576: true; the input reads as it did. -/
def futureOnceUptoRow : OpenClaim := { program := "ytcejdpnaobkidaa", sum := "d87523b76c98bb84ee71d95b4c9ccf6808ef0e16367d2793e7e03509518f416d", func := "nursery/nurserylaw25.FutureOnce", spec := "futureOnce", apart := false, narrowed := true }
def FutureOnceUptoSaid : Prop := futureOnceUptoRow.holds Try.pinned (OpenSpec.upto futureOnceSpec)

/-- 'nurserylaw25.FutureValid', WHERE WHAT IT READS IS OF BULK AT MOST 1048576: true; the input reads as it did. -/
def futureValidUptoRow : OpenClaim := { program := "ytcejdpnaobkidaa", sum := "d87523b76c98bb84ee71d95b4c9ccf6808ef0e16367d2793e7e03509518f416d", func := "nursery/nurserylaw25.FutureValid", spec := "futureValid", unfollowed := true, recurses := true, apart := false, narrowed := true }
def FutureValidUptoSaid : Prop := futureValidUptoRow.holds Try.pinned (OpenSpec.upto futureValidSpec)

/-- 'nurserylaw25.FutureUndo', WHERE WHAT IT READS IS OF BULK AT MOST 1048576: true; the input reads as it did. -/
def futureUndoUptoRow : OpenClaim := { program := "ytcejdpnaobkidaa", sum := "d87523b76c98bb84ee71d95b4c9ccf6808ef0e16367d2793e7e03509518f416d", func := "nursery/nurserylaw25.FutureUndo", spec := "futureUndo", unfollowed := true, recurses := true, apart := false, narrowed := true }
def FutureUndoUptoSaid : Prop := futureUndoUptoRow.holds Try.pinned (OpenSpec.upto futureUndoSpec)

/-- 'nurserylaw25.FutureWithdraw', WHERE WHAT IT READS IS OF BULK AT MOST 1048576: true; the input reads as it did. -/
def futureWithdrawUptoRow : OpenClaim := { program := "ytcejdpnaobkidaa", sum := "d87523b76c98bb84ee71d95b4c9ccf6808ef0e16367d2793e7e03509518f416d", func := "nursery/nurserylaw25.FutureWithdraw", spec := "futureWithdraw", unfollowed := true, recurses := true, apart := false, narrowed := true }
def FutureWithdrawUptoSaid : Prop := futureWithdrawUptoRow.holds Try.pinned (OpenSpec.upto futureWithdrawSpec)

/-- 'nurserylaw25.FutureAll', WHERE WHAT IT READS IS OF BULK AT MOST 1048576: true; the input reads as it did. -/
def futureAllUptoRow : OpenClaim := { program := "ytcejdpnaobkidaa", sum := "d87523b76c98bb84ee71d95b4c9ccf6808ef0e16367d2793e7e03509518f416d", func := "nursery/nurserylaw25.FutureAll", spec := "futureAll", unfollowed := true, recurses := true, apart := false, narrowed := true }
def FutureAllUptoSaid : Prop := futureAllUptoRow.holds Try.pinned (OpenSpec.upto futureAllSpec)

end Rows
end Go.Proofs.Ytcejdpnaobkidaa
