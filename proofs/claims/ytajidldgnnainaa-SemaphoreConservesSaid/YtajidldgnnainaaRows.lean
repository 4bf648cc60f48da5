/-
  No cell of these rows narrows 'for every input' (looked for: loops, veiled, ifaces, maps, wideKeys, modest, calm, conditions, laid).
  DERIVED. THE GIVEN ROWS OF THIS SEAT. 8 by the template 'for every input the law returns true; each argument reads behind the call as it read before'; 0 by the template 'total and deterministic' (their statements: YtajidldgnnainaaTotals.lean).
  GIVEN WITH THE SEED: the statements are not yours to turn. If you find one false, say at which input.
  Laid BY PROGRAM, IN A SANDBOX (cutbox-rows.mjs): the forced cells as the released guide's own fill.sh prints them over the translation 101b8d144444835e… (all of the seat's roots in one cut). By AI agents, Wed Nov 11 2026. No macro, syntax, notation, axiom, sorry.
-/
import Derived.Test.YtajidldgnnainaaChecked
import GoSem.Claim
import GoSem.ClaimJoined
import GoSem.ClaimMapViews
import Derived.JoinedTies
import Derived.KernelRfl
namespace Go.Proofs.Ytajidldgnnainaa
/- THE CELL 'sum', in the pinned program and in every row, IS THE sha256 OF THE DUMP (.gsa) THAT YtajidldgnnainaaProg.lean LOADS. Nothing in Lean hashes anything: it is a label: what it is worth is what the hold of that sum in a sandbox is worth. -/
noncomputable def Try.pinned : Pinned := { name := "ytajidldgnnainaa", sum := "101b8d144444835e5361bcdef6b6787d301d4f5399f2118c48473083b40f1eb5", checked := Try.checked }
namespace Rows
def none {H : Type} : Left H := { results := [], args := [] }

/-- 'nurserylaw19.SemaphoreApply': WHATEVER THE INPUT: true; the input reads as it did. -/
def semaphoreApplySpec : ChangeSpec := { name := "semaphoreApply", fn := fun _ => fun
  | [d1, d2, d3] => { results := [.lit (.bool true)], args := [d1, d2, d3] }
  | _ => none }
def semaphoreApplyRow : OpenClaim := { program := "ytajidldgnnainaa", sum := "101b8d144444835e5361bcdef6b6787d301d4f5399f2118c48473083b40f1eb5", func := "nursery/nurserylaw19.SemaphoreApply", spec := "semaphoreApply", unfollowed := true, recurses := true, apart := false }
def SemaphoreApplySaid : Prop := semaphoreApplyRow.holds Try.pinned (OpenSpec.ofChange semaphoreApplySpec)

/-- ITS FALSE NEIGHBOUR: 'it returns false'. Refute it at one input. -/
def semaphoreApplyWrong : ChangeSpec := { name := "semaphoreApply", fn := fun _ => fun
  | [d1, d2, d3] => { results := [.lit (.bool false)], args := [d1, d2, d3] }
  | _ => none }
def SemaphoreApplyWrongFalsely : Prop := semaphoreApplyRow.holds Try.pinned (OpenSpec.ofChange semaphoreApplyWrong)

/-- 'nurserylaw19.SemaphoreConserves': WHATEVER THE INPUT: true; the input reads as it did. -/
def semaphoreConservesSpec : ChangeSpec := { name := "semaphoreConserves", fn := fun _ => fun
  | [d1, d2] => { results := [.lit (.bool true)], args := [d1, d2] }
  | _ => none }
def semaphoreConservesRow : OpenClaim := { program := "ytajidldgnnainaa", sum := "101b8d144444835e5361bcdef6b6787d301d4f5399f2118c48473083b40f1eb5", func := "nursery/nurserylaw19.SemaphoreConserves", spec := "semaphoreConserves", unfollowed := true, recurses := true, apart := false }
def SemaphoreConservesSaid : Prop := semaphoreConservesRow.holds Try.pinned (OpenSpec.ofChange semaphoreConservesSpec)

/-- ITS FALSE NEIGHBOUR: 'it returns false'. Refute it at one input. -/
def semaphoreConservesWrong : ChangeSpec := { name := "semaphoreConserves", fn := fun _ => fun
  | [d1, d2] => { results := [.lit (.bool false)], args := [d1, d2] }
  | _ => none }
def SemaphoreConservesWrongFalsely : Prop := semaphoreConservesRow.holds Try.pinned (OpenSpec.ofChange semaphoreConservesWrong)

/-- 'nurserylaw19.SemaphoreOrder': WHATEVER THE INPUT: true; the input reads as it did. -/
def semaphoreOrderSpec : ChangeSpec := { name := "semaphoreOrder", fn := fun _ => fun
  | [d1, d2] => { results := [.lit (.bool true)], args := [d1, d2] }
  | _ => none }
def semaphoreOrderRow : OpenClaim := { program := "ytajidldgnnainaa", sum := "101b8d144444835e5361bcdef6b6787d301d4f5399f2118c48473083b40f1eb5", func := "nursery/nurserylaw19.SemaphoreOrder", spec := "semaphoreOrder", unfollowed := true, recurses := true, apart := false }
def SemaphoreOrderSaid : Prop := semaphoreOrderRow.holds Try.pinned (OpenSpec.ofChange semaphoreOrderSpec)

/-- ITS FALSE NEIGHBOUR: 'it returns false'. Refute it at one input. -/
def semaphoreOrderWrong : ChangeSpec := { name := "semaphoreOrder", fn := fun _ => fun
  | [d1, d2] => { results := [.lit (.bool false)], args := [d1, d2] }
  | _ => none }
def SemaphoreOrderWrongFalsely : Prop := semaphoreOrderRow.holds Try.pinned (OpenSpec.ofChange semaphoreOrderWrong)

/-- 'nurserylaw19.SemaphoreTry': WHATEVER THE INPUT: true; the input reads as it did. -/
def semaphoreTrySpec : ChangeSpec := { name := "semaphoreTry", fn := fun _ => fun
  | [d1, d2, d3] => { results := [.lit (.bool true)], args := [d1, d2, d3] }
  | _ => none }
def semaphoreTryRow : OpenClaim := { program := "ytajidldgnnainaa", sum := "101b8d144444835e5361bcdef6b6787d301d4f5399f2118c48473083b40f1eb5", func := "nursery/nurserylaw19.SemaphoreTry", spec := "semaphoreTry", unfollowed := true, recurses := true, apart := false }
def SemaphoreTrySaid : Prop := semaphoreTryRow.holds Try.pinned (OpenSpec.ofChange semaphoreTrySpec)

/-- ITS FALSE NEIGHBOUR: 'it returns false'. Refute it at one input. -/
def semaphoreTryWrong : ChangeSpec := { name := "semaphoreTry", fn := fun _ => fun
  | [d1, d2, d3] => { results := [.lit (.bool false)], args := [d1, d2, d3] }
  | _ => none }
def SemaphoreTryWrongFalsely : Prop := semaphoreTryRow.holds Try.pinned (OpenSpec.ofChange semaphoreTryWrong)

/-- 'nurserylaw19.SemaphoreProgress': WHATEVER THE INPUT: true; the input reads as it did. -/
def semaphoreProgressSpec : ChangeSpec := { name := "semaphoreProgress", fn := fun _ => fun
  | [d1, d2, d3] => { results := [.lit (.bool true)], args := [d1, d2, d3] }
  | _ => none }
def semaphoreProgressRow : OpenClaim := { program := "ytajidldgnnainaa", sum := "101b8d144444835e5361bcdef6b6787d301d4f5399f2118c48473083b40f1eb5", func := "nursery/nurserylaw19.SemaphoreProgress", spec := "semaphoreProgress", unfollowed := true, recurses := true, apart := false }
def SemaphoreProgressSaid : Prop := semaphoreProgressRow.holds Try.pinned (OpenSpec.ofChange semaphoreProgressSpec)

/-- ITS FALSE NEIGHBOUR: 'it returns false'. Refute it at one input. -/
def semaphoreProgressWrong : ChangeSpec := { name := "semaphoreProgress", fn := fun _ => fun
  | [d1, d2, d3] => { results := [.lit (.bool false)], args := [d1, d2, d3] }
  | _ => none }
def SemaphoreProgressWrongFalsely : Prop := semaphoreProgressRow.holds Try.pinned (OpenSpec.ofChange semaphoreProgressWrong)

/-- 'nurserylaw19.SemaphoreUndo': WHATEVER THE INPUT: true; the input reads as it did. -/
def semaphoreUndoSpec : ChangeSpec := { name := "semaphoreUndo", fn := fun _ => fun
  | [d1, d2, d3] => { results := [.lit (.bool true)], args := [d1, d2, d3] }
  | _ => none }
def semaphoreUndoRow : OpenClaim := { program := "ytajidldgnnainaa", sum := "101b8d144444835e5361bcdef6b6787d301d4f5399f2118c48473083b40f1eb5", func := "nursery/nurserylaw19.SemaphoreUndo", spec := "semaphoreUndo", unfollowed := true, recurses := true, apart := false }
def SemaphoreUndoSaid : Prop := semaphoreUndoRow.holds Try.pinned (OpenSpec.ofChange semaphoreUndoSpec)

/-- ITS FALSE NEIGHBOUR: 'it returns false'. Refute it at one input. -/
def semaphoreUndoWrong : ChangeSpec := { name := "semaphoreUndo", fn := fun _ => fun
  | [d1, d2, d3] => { results := [.lit (.bool false)], args := [d1, d2, d3] }
  | _ => none }
def SemaphoreUndoWrongFalsely : Prop := semaphoreUndoRow.holds Try.pinned (OpenSpec.ofChange semaphoreUndoWrong)

/-- 'nurserylaw19.SemaphoreWithdraw': WHATEVER THE INPUT: true; the input reads as it did. -/
def semaphoreWithdrawSpec : ChangeSpec := { name := "semaphoreWithdraw", fn := fun _ => fun
  | [d1, d2, d3, d4] => { results := [.lit (.bool true)], args := [d1, d2, d3, d4] }
  | _ => none }
def semaphoreWithdrawRow : OpenClaim := { program := "ytajidldgnnainaa", sum := "101b8d144444835e5361bcdef6b6787d301d4f5399f2118c48473083b40f1eb5", func := "nursery/nurserylaw19.SemaphoreWithdraw", spec := "semaphoreWithdraw", unfollowed := true, recurses := true, apart := false }
def SemaphoreWithdrawSaid : Prop := semaphoreWithdrawRow.holds Try.pinned (OpenSpec.ofChange semaphoreWithdrawSpec)

/-- ITS FALSE NEIGHBOUR: 'it returns false'. Refute it at one input. -/
def semaphoreWithdrawWrong : ChangeSpec := { name := "semaphoreWithdraw", fn := fun _ => fun
  | [d1, d2, d3, d4] => { results := [.lit (.bool false)], args := [d1, d2, d3, d4] }
  | _ => none }
def SemaphoreWithdrawWrongFalsely : Prop := semaphoreWithdrawRow.holds Try.pinned (OpenSpec.ofChange semaphoreWithdrawWrong)

/-- 'nurserylaw19.SemaphoreValid': WHATEVER THE INPUT: true; the input reads as it did. -/
def semaphoreValidSpec : ChangeSpec := { name := "semaphoreValid", fn := fun _ => fun
  | [d1, d2, d3, d4] => { results := [.lit (.bool true)], args := [d1, d2, d3, d4] }
  | _ => none }
def semaphoreValidRow : OpenClaim := { program := "ytajidldgnnainaa", sum := "101b8d144444835e5361bcdef6b6787d301d4f5399f2118c48473083b40f1eb5", func := "nursery/nurserylaw19.SemaphoreValid", spec := "semaphoreValid", unfollowed := true, recurses := true, apart := false }
def SemaphoreValidSaid : Prop := semaphoreValidRow.holds Try.pinned (OpenSpec.ofChange semaphoreValidSpec)

/-- ITS FALSE NEIGHBOUR: 'it returns false'. Refute it at one input. -/
def semaphoreValidWrong : ChangeSpec := { name := "semaphoreValid", fn := fun _ => fun
  | [d1, d2, d3, d4] => { results := [.lit (.bool false)], args := [d1, d2, d3, d4] }
  | _ => none }
def SemaphoreValidWrongFalsely : Prop := semaphoreValidRow.holds Try.pinned (OpenSpec.ofChange semaphoreValidWrong)

/- THE SECOND FORM. 'bulk': how many values and letters a reading holds, each counted each time it is reached (what is shared counts as often as it is met; a slice's spare places count too). A statement '..UptoSaid' is the law's where the arguments, and the package variables that the reading takes, are together of bulk at most 1048576: NARROWER than '..Said'. Prove '..Said' where nothing that the law and all that it calls make is longer than what came in: it says more and counts as full. Else prove '..UptoSaid'. A law counts once. -/
mutual
def uptoBulk {H : Type} : DataW H → Nat
  | .lit (.string bytes) => bytes.length + 1
  | .lit _ => 1
  | .nil => 1
  | .ptr d => uptoBulk d + 1
  | .slice elems spare => uptoBulkAll elems + uptoBulkAll spare + 1
  | .agg parts => uptoBulkAll parts + 1
  | .iface _ d => uptoBulk d + 1
  | .map entries => uptoBulkEntries entries + 1
  | .held _ => 1
def uptoBulkAll {H : Type} : List (DataW H) → Nat
  | [] => 0
  | d :: r => uptoBulk d + uptoBulkAll r
def uptoBulkEntries {H : Type} : List (Lit × DataW H) → Nat
  | [] => 0
  | x :: r => uptoBulkEntry x + uptoBulkEntries r
def uptoBulkEntry {H : Type} : Lit × DataW H → Nat
  | (.string bytes, d) => bytes.length + uptoBulk d + 1
  | (_, d) => uptoBulk d + 1
 end
def uptoSmall : (H : Type) → List (DataW H) → Bool := fun _ ds => decide (uptoBulkAll ds ≤ 1048576)
def OpenSpec.upto (s : _root_.Go.ChangeSpec) : _root_.Go.OpenSpec := { _root_.Go.OpenSpec.ofChange s with cond := some uptoSmall }

/-- 'nurserylaw19.SemaphoreApply', WHERE WHAT IT READS IS OF BULK AT MOST 1048576: true; the input reads as it did. -/
def semaphoreApplyUptoRow : OpenClaim := { program := "ytajidldgnnainaa", sum := "101b8d144444835e5361bcdef6b6787d301d4f5399f2118c48473083b40f1eb5", func := "nursery/nurserylaw19.SemaphoreApply", spec := "semaphoreApply", unfollowed := true, recurses := true, apart := false, narrowed := true }
def SemaphoreApplyUptoSaid : Prop := semaphoreApplyUptoRow.holds Try.pinned (OpenSpec.upto semaphoreApplySpec)

/-- 'nurserylaw19.SemaphoreConserves', WHERE WHAT IT READS IS OF BULK AT MOST 1048576: true; the input reads as it did. -/
def semaphoreConservesUptoRow : OpenClaim := { program := "ytajidldgnnainaa", sum := "101b8d144444835e5361bcdef6b6787d301d4f5399f2118c48473083b40f1eb5", func := "nursery/nurserylaw19.SemaphoreConserves", spec := "semaphoreConserves", unfollowed := true, recurses := true, apart := false, narrowed := true }
def SemaphoreConservesUptoSaid : Prop := semaphoreConservesUptoRow.holds Try.pinned (OpenSpec.upto semaphoreConservesSpec)

/-- 'nurserylaw19.SemaphoreOrder', WHERE WHAT IT READS IS OF BULK AT MOST 1048576: true; the input reads as it did. -/
def semaphoreOrderUptoRow : OpenClaim := { program := "ytajidldgnnainaa", sum := "101b8d144444835e5361bcdef6b6787d301d4f5399f2118c48473083b40f1eb5", func := "nursery/nurserylaw19.SemaphoreOrder", spec := "semaphoreOrder", unfollowed := true, recurses := true, apart := false, narrowed := true }
def SemaphoreOrderUptoSaid : Prop := semaphoreOrderUptoRow.holds Try.pinned (OpenSpec.upto semaphoreOrderSpec)

/-- 'nurserylaw19.SemaphoreTry', WHERE WHAT IT READS IS OF BULK AT MOST 1048576: true; the input reads as it did. -/
def semaphoreTryUptoRow : OpenClaim := { program := "ytajidldgnnainaa", sum := "101b8d144444835e5361bcdef6b6787d301d4f5399f2118c48473083b40f1eb5", func := "nursery/nurserylaw19.SemaphoreTry", spec := "semaphoreTry", unfollowed := true, recurses := true, apart := false, narrowed := true }
def SemaphoreTryUptoSaid : Prop := semaphoreTryUptoRow.holds Try.pinned (OpenSpec.upto semaphoreTrySpec)

/-- 'nurserylaw19.SemaphoreProgress', WHERE WHAT IT READS IS OF BULK AT MOST 1048576: true; the input reads as it did. -/
def semaphoreProgressUptoRow : OpenClaim := { program := "ytajidldgnnainaa", sum := "101b8d144444835e5361bcdef6b6787d301d4f5399f2118c48473083b40f1eb5", func := "nursery/nurserylaw19.SemaphoreProgress", spec := "semaphoreProgress", unfollowed := true, recurses := true, apart := false, narrowed := true }
def SemaphoreProgressUptoSaid : Prop := semaphoreProgressUptoRow.holds Try.pinned (OpenSpec.upto semaphoreProgressSpec)

/-- 'nurserylaw19.SemaphoreUndo', WHERE WHAT IT READS IS OF BULK AT MOST 1048576: true; the input reads as it did. -/
def semaphoreUndoUptoRow : OpenClaim := { program := "ytajidldgnnainaa", sum := "101b8d144444835e5361bcdef6b6787d301d4f5399f2118c48473083b40f1eb5", func := "nursery/nurserylaw19.SemaphoreUndo", spec := "semaphoreUndo", unfollowed := true, recurses := true, apart := false, narrowed := true }
def SemaphoreUndoUptoSaid : Prop := semaphoreUndoUptoRow.holds Try.pinned (OpenSpec.upto semaphoreUndoSpec)

/-- 'nurserylaw19.SemaphoreWithdraw', WHERE WHAT IT READS IS OF BULK AT MOST 1048576: true; the input reads as it did. -/
def semaphoreWithdrawUptoRow : OpenClaim := { program := "ytajidldgnnainaa", sum := "101b8d144444835e5361bcdef6b6787d301d4f5399f2118c48473083b40f1eb5", func := "nursery/nurserylaw19.SemaphoreWithdraw", spec := "semaphoreWithdraw", unfollowed := true, recurses := true, apart := false, narrowed := true }
def SemaphoreWithdrawUptoSaid : Prop := semaphoreWithdrawUptoRow.holds Try.pinned (OpenSpec.upto semaphoreWithdrawSpec)

/-- 'nurserylaw19.SemaphoreValid', WHERE WHAT IT READS IS OF BULK AT MOST 1048576: true; the input reads as it did. -/
def semaphoreValidUptoRow : OpenClaim := { program := "ytajidldgnnainaa", sum := "101b8d144444835e5361bcdef6b6787d301d4f5399f2118c48473083b40f1eb5", func := "nursery/nurserylaw19.SemaphoreValid", spec := "semaphoreValid", unfollowed := true, recurses := true, apart := false, narrowed := true }
def SemaphoreValidUptoSaid : Prop := semaphoreValidUptoRow.holds Try.pinned (OpenSpec.upto semaphoreValidSpec)

end Rows
end Go.Proofs.Ytajidldgnnainaa
