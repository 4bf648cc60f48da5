/-
  No cell of these rows narrows 'for every input' (looked for: loops, veiled, ifaces, maps, wideKeys, modest, calm, conditions, laid).
  DERIVED. THE GIVEN ROWS OF THIS SEAT. 8 by the template 'for every input the law returns true; each argument reads behind the call as it read before'; 0 by the template 'total and deterministic' (their statements: YtapmdkfhppbblaaTotals.lean).
  GIVEN WITH THE SEED: the statements are not yours to turn. If you find one false, say at which input.
  Laid BY PROGRAM, IN A SANDBOX (cutbox-rows.mjs): the forced cells as the released guide's own fill.sh prints them over the translation 90448845cec91d3f… (all of the seat's roots in one cut). By AI agents, Wed Nov 11 2026. No macro, syntax, notation, axiom, sorry.
-/
import Derived.Test.YtapmdkfhppbblaaChecked
import GoSem.Claim
import GoSem.ClaimJoined
import GoSem.ClaimMapViews
import Derived.JoinedTies
import Derived.KernelRfl
namespace Go.Proofs.Ytapmdkfhppbblaa
/- THE CELL 'sum', in the pinned program and in every row, IS THE sha256 OF THE DUMP (.gsa) THAT YtapmdkfhppbblaaProg.lean LOADS. Nothing in Lean hashes anything: it is a label: what it is worth is what the hold of that sum in a sandbox is worth. -/
noncomputable def Try.pinned : Pinned := { name := "ytapmdkfhppbblaa", sum := "90448845cec91d3f5d813ba9733f9401d05cfb7ffa4929453bd8e8dc5d3fa8ae", checked := Try.checked }
namespace Rows
def none {H : Type} : Left H := { results := [], args := [] }

/-- 'nurserylaw07.WaitlistPush': WHATEVER THE INPUT: true; the input reads as it did. -/
def waitlistPushSpec : ChangeSpec := { name := "waitlistPush", fn := fun _ => fun
  | [d1, d2, d3] => { results := [.lit (.bool true)], args := [d1, d2, d3] }
  | _ => none }
def waitlistPushRow : OpenClaim := { program := "ytapmdkfhppbblaa", sum := "90448845cec91d3f5d813ba9733f9401d05cfb7ffa4929453bd8e8dc5d3fa8ae", func := "nursery/nurserylaw07.WaitlistPush", spec := "waitlistPush", unfollowed := true, recurses := true, apart := false }
def WaitlistPushSaid : Prop := waitlistPushRow.holds Try.pinned (OpenSpec.ofChange waitlistPushSpec)

/-- ITS FALSE NEIGHBOUR: 'it returns false'. Refute it at one input. -/
def waitlistPushWrong : ChangeSpec := { name := "waitlistPush", fn := fun _ => fun
  | [d1, d2, d3] => { results := [.lit (.bool false)], args := [d1, d2, d3] }
  | _ => none }
def WaitlistPushWrongFalsely : Prop := waitlistPushRow.holds Try.pinned (OpenSpec.ofChange waitlistPushWrong)

/-- 'nurserylaw07.WaitlistLists': WHATEVER THE INPUT: true; the input reads as it did. -/
def waitlistListsSpec : ChangeSpec := { name := "waitlistLists", fn := fun _ => fun
  | [d1, d2, d3, d4] => { results := [.lit (.bool true)], args := [d1, d2, d3, d4] }
  | _ => none }
def waitlistListsRow : OpenClaim := { program := "ytapmdkfhppbblaa", sum := "90448845cec91d3f5d813ba9733f9401d05cfb7ffa4929453bd8e8dc5d3fa8ae", func := "nursery/nurserylaw07.WaitlistLists", spec := "waitlistLists", unfollowed := true, recurses := true, apart := false }
def WaitlistListsSaid : Prop := waitlistListsRow.holds Try.pinned (OpenSpec.ofChange waitlistListsSpec)

/-- ITS FALSE NEIGHBOUR: 'it returns false'. Refute it at one input. -/
def waitlistListsWrong : ChangeSpec := { name := "waitlistLists", fn := fun _ => fun
  | [d1, d2, d3, d4] => { results := [.lit (.bool false)], args := [d1, d2, d3, d4] }
  | _ => none }
def WaitlistListsWrongFalsely : Prop := waitlistListsRow.holds Try.pinned (OpenSpec.ofChange waitlistListsWrong)

/-- 'nurserylaw07.WaitlistRemoval': WHATEVER THE INPUT: true; the input reads as it did. -/
def waitlistRemovalSpec : ChangeSpec := { name := "waitlistRemoval", fn := fun _ => fun
  | [d1, d2, d3] => { results := [.lit (.bool true)], args := [d1, d2, d3] }
  | _ => none }
def waitlistRemovalRow : OpenClaim := { program := "ytapmdkfhppbblaa", sum := "90448845cec91d3f5d813ba9733f9401d05cfb7ffa4929453bd8e8dc5d3fa8ae", func := "nursery/nurserylaw07.WaitlistRemoval", spec := "waitlistRemoval", unfollowed := true, recurses := true, apart := false }
def WaitlistRemovalSaid : Prop := waitlistRemovalRow.holds Try.pinned (OpenSpec.ofChange waitlistRemovalSpec)

/-- ITS FALSE NEIGHBOUR: 'it returns false'. Refute it at one input. -/
def waitlistRemovalWrong : ChangeSpec := { name := "waitlistRemoval", fn := fun _ => fun
  | [d1, d2, d3] => { results := [.lit (.bool false)], args := [d1, d2, d3] }
  | _ => none }
def WaitlistRemovalWrongFalsely : Prop := waitlistRemovalRow.holds Try.pinned (OpenSpec.ofChange waitlistRemovalWrong)

/-- 'nurserylaw07.WaitlistGrants': WHATEVER THE INPUT: true; the input reads as it did. -/
def waitlistGrantsSpec : ChangeSpec := { name := "waitlistGrants", fn := fun _ => fun
  | [d1, d2, d3] => { results := [.lit (.bool true)], args := [d1, d2, d3] }
  | _ => none }
def waitlistGrantsRow : OpenClaim := { program := "ytapmdkfhppbblaa", sum := "90448845cec91d3f5d813ba9733f9401d05cfb7ffa4929453bd8e8dc5d3fa8ae", func := "nursery/nurserylaw07.WaitlistGrants", spec := "waitlistGrants", unfollowed := true, recurses := true, apart := false }
def WaitlistGrantsSaid : Prop := waitlistGrantsRow.holds Try.pinned (OpenSpec.ofChange waitlistGrantsSpec)

/-- ITS FALSE NEIGHBOUR: 'it returns false'. Refute it at one input. -/
def waitlistGrantsWrong : ChangeSpec := { name := "waitlistGrants", fn := fun _ => fun
  | [d1, d2, d3] => { results := [.lit (.bool false)], args := [d1, d2, d3] }
  | _ => none }
def WaitlistGrantsWrongFalsely : Prop := waitlistGrantsRow.holds Try.pinned (OpenSpec.ofChange waitlistGrantsWrong)

/-- 'nurserylaw07.WaitlistTasks': WHATEVER THE INPUT: true; the input reads as it did. -/
def waitlistTasksSpec : ChangeSpec := { name := "waitlistTasks", fn := fun _ => fun
  | [d] => { results := [.lit (.bool true)], args := [d] }
  | _ => none }
def waitlistTasksRow : OpenClaim := { program := "ytapmdkfhppbblaa", sum := "90448845cec91d3f5d813ba9733f9401d05cfb7ffa4929453bd8e8dc5d3fa8ae", func := "nursery/nurserylaw07.WaitlistTasks", spec := "waitlistTasks", unfollowed := true, recurses := true, apart := false }
def WaitlistTasksSaid : Prop := waitlistTasksRow.holds Try.pinned (OpenSpec.ofChange waitlistTasksSpec)

/-- ITS FALSE NEIGHBOUR: 'it returns false'. Refute it at one input. -/
def waitlistTasksWrong : ChangeSpec := { name := "waitlistTasks", fn := fun _ => fun
  | [d] => { results := [.lit (.bool false)], args := [d] }
  | _ => none }
def WaitlistTasksWrongFalsely : Prop := waitlistTasksRow.holds Try.pinned (OpenSpec.ofChange waitlistTasksWrong)

/-- 'nurserylaw07.WaitlistArrival': WHATEVER THE INPUT: true; the input reads as it did. -/
def waitlistArrivalSpec : ChangeSpec := { name := "waitlistArrival", fn := fun _ => fun
  | [d1, d2, d3] => { results := [.lit (.bool true)], args := [d1, d2, d3] }
  | _ => none }
def waitlistArrivalRow : OpenClaim := { program := "ytapmdkfhppbblaa", sum := "90448845cec91d3f5d813ba9733f9401d05cfb7ffa4929453bd8e8dc5d3fa8ae", func := "nursery/nurserylaw07.WaitlistArrival", spec := "waitlistArrival", unfollowed := true, recurses := true, apart := false }
def WaitlistArrivalSaid : Prop := waitlistArrivalRow.holds Try.pinned (OpenSpec.ofChange waitlistArrivalSpec)

/-- ITS FALSE NEIGHBOUR: 'it returns false'. Refute it at one input. -/
def waitlistArrivalWrong : ChangeSpec := { name := "waitlistArrival", fn := fun _ => fun
  | [d1, d2, d3] => { results := [.lit (.bool false)], args := [d1, d2, d3] }
  | _ => none }
def WaitlistArrivalWrongFalsely : Prop := waitlistArrivalRow.holds Try.pinned (OpenSpec.ofChange waitlistArrivalWrong)

/-- 'nurserylaw07.WaitlistFair': WHATEVER THE INPUT: true; the input reads as it did. -/
def waitlistFairSpec : ChangeSpec := { name := "waitlistFair", fn := fun _ => fun
  | [d1, d2] => { results := [.lit (.bool true)], args := [d1, d2] }
  | _ => none }
def waitlistFairRow : OpenClaim := { program := "ytapmdkfhppbblaa", sum := "90448845cec91d3f5d813ba9733f9401d05cfb7ffa4929453bd8e8dc5d3fa8ae", func := "nursery/nurserylaw07.WaitlistFair", spec := "waitlistFair", unfollowed := true, recurses := true, apart := false }
def WaitlistFairSaid : Prop := waitlistFairRow.holds Try.pinned (OpenSpec.ofChange waitlistFairSpec)

/-- ITS FALSE NEIGHBOUR: 'it returns false'. Refute it at one input. -/
def waitlistFairWrong : ChangeSpec := { name := "waitlistFair", fn := fun _ => fun
  | [d1, d2] => { results := [.lit (.bool false)], args := [d1, d2] }
  | _ => none }
def WaitlistFairWrongFalsely : Prop := waitlistFairRow.holds Try.pinned (OpenSpec.ofChange waitlistFairWrong)

/-- 'nurserylaw07.WaitlistPriority': WHATEVER THE INPUT: true; the input reads as it did. -/
def waitlistPrioritySpec : ChangeSpec := { name := "waitlistPriority", fn := fun _ => fun
  | [d1, d2] => { results := [.lit (.bool true)], args := [d1, d2] }
  | _ => none }
def waitlistPriorityRow : OpenClaim := { program := "ytapmdkfhppbblaa", sum := "90448845cec91d3f5d813ba9733f9401d05cfb7ffa4929453bd8e8dc5d3fa8ae", func := "nursery/nurserylaw07.WaitlistPriority", spec := "waitlistPriority", unfollowed := true, recurses := true, apart := false }
def WaitlistPrioritySaid : Prop := waitlistPriorityRow.holds Try.pinned (OpenSpec.ofChange waitlistPrioritySpec)

/-- ITS FALSE NEIGHBOUR: 'it returns false'. Refute it at one input. -/
def waitlistPriorityWrong : ChangeSpec := { name := "waitlistPriority", fn := fun _ => fun
  | [d1, d2] => { results := [.lit (.bool false)], args := [d1, d2] }
  | _ => none }
def WaitlistPriorityWrongFalsely : Prop := waitlistPriorityRow.holds Try.pinned (OpenSpec.ofChange waitlistPriorityWrong)

/- THE SECOND FORM. 'bulk': how many values and letters a reading holds, each counted each time it is reached (what is shared counts as often as it is met; a slice's spare places count too). A statement '..UptoSaid' is the law's where the arguments, and the package variables that the reading takes, are together of bulk at most 1048576: NARROWER than '..Said'. Prove '..Said' where nothing that the law and all that it calls make is longer than what came in: it says more and counts as full. Else prove '..UptoSaid'. A law counts once. -/
mutual
def uptoBulk {H : Type} : DataW H → Nat
  | .lit (.string bytes) => bytes.length + 1
  | .lit _ => 1
  | .nil => 1
  | .ptr d => uptoBulk d + 1
  | .slice elems spare => uptoBulkAll elems + uptoBulkAll spare + 1
  | .agg parts => uptoBulkAll parts + 1
  | .iface _ d => uptoBulk d + 1
  | .map entries => uptoBulkEntries entries + 1
  | .held _ => 1
def uptoBulkAll {H : Type} : List (DataW H) → Nat
  | [] => 0
  | d :: r => uptoBulk d + uptoBulkAll r
def uptoBulkEntries {H : Type} : List (Lit × DataW H) → Nat
  | [] => 0
  | x :: r => uptoBulkEntry x + uptoBulkEntries r
def uptoBulkEntry {H : Type} : Lit × DataW H → Nat
  | (.string bytes, d) => bytes.length + uptoBulk d + 1
  | (_, d) => uptoBulk d + 1
 end
def uptoSmall : (H : Type) → List (DataW H) → Bool := fun _ ds => decide (uptoBulkAll ds ≤ 1048576)
def OpenSpec.upto (s : _root_.Go.ChangeSpec) : _root_.Go.OpenSpec := { _root_.Go.OpenSpec.ofChange s with cond := some uptoSmall }

/-- 'nurserylaw07.WaitlistPush', WHERE WHAT IT READS IS OF BULK AT MOST 1048576: true; the input reads as it did. -/
def waitlistPushUptoRow : OpenClaim := { program := "ytapmdkfhppbblaa", sum := "90448845cec91d3f5d813ba9733f9401d05cfb7ffa4929453bd8e8dc5d3fa8ae", func := "nursery/nurserylaw07.WaitlistPush", spec := "waitlistPush", unfollowed := true, recurses := true, apart := false, narrowed := true }
def WaitlistPushUptoSaid : Prop := waitlistPushUptoRow.holds Try.pinned (OpenSpec.upto waitlistPushSpec)

/-- 'nurserylaw07.WaitlistLists', WHERE WHAT IT READS IS OF BULK AT MOST 1048576: true; the input reads as it did. -/
def waitlistListsUptoRow : OpenClaim := { program := "ytapmdkfhppbblaa", sum := "90448845cec91d3f5d813ba9733f9401d05cfb7ffa4929453bd8e8dc5d3fa8ae", func := "nursery/nurserylaw07.WaitlistLists", spec := "waitlistLists", unfollowed := true, recurses := true, apart := false, narrowed := true }
def WaitlistListsUptoSaid : Prop := waitlistListsUptoRow.holds Try.pinned (OpenSpec.upto waitlistListsSpec)

/-- 'nurserylaw07.WaitlistRemoval', WHERE WHAT IT READS IS OF BULK AT MOST 1048576: true; the input reads as it did. -/
def waitlistRemovalUptoRow : OpenClaim := { program := "ytapmdkfhppbblaa", sum := "90448845cec91d3f5d813ba9733f9401d05cfb7ffa4929453bd8e8dc5d3fa8ae", func := "nursery/nurserylaw07.WaitlistRemoval", spec := "waitlistRemoval", unfollowed := true, recurses := true, apart := false, narrowed := true }
def WaitlistRemovalUptoSaid : Prop := waitlistRemovalUptoRow.holds Try.pinned (OpenSpec.upto waitlistRemovalSpec)

/-- 'nurserylaw07.WaitlistGrants', WHERE WHAT IT READS IS OF BULK AT MOST 1048576: true; the input reads as it did. -/
def waitlistGrantsUptoRow : OpenClaim := { program := "ytapmdkfhppbblaa", sum := "90448845cec91d3f5d813ba9733f9401d05cfb7ffa4929453bd8e8dc5d3fa8ae", func := "nursery/nurserylaw07.WaitlistGrants", spec := "waitlistGrants", unfollowed := true, recurses := true, apart := false, narrowed := true }
def WaitlistGrantsUptoSaid : Prop := waitlistGrantsUptoRow.holds Try.pinned (OpenSpec.upto waitlistGrantsSpec)

/-- 'nurserylaw07.WaitlistTasks', WHERE WHAT IT READS IS OF BULK AT MOST 1048576: true; the input reads as it did. -/
def waitlistTasksUptoRow : OpenClaim := { program := "ytapmdkfhppbblaa", sum := "90448845cec91d3f5d813ba9733f9401d05cfb7ffa4929453bd8e8dc5d3fa8ae", func := "nursery/nurserylaw07.WaitlistTasks", spec := "waitlistTasks", unfollowed := true, recurses := true, apart := false, narrowed := true }
def WaitlistTasksUptoSaid : Prop := waitlistTasksUptoRow.holds Try.pinned (OpenSpec.upto waitlistTasksSpec)

/-- 'nurserylaw07.WaitlistArrival', WHERE WHAT IT READS IS OF BULK AT MOST 1048576: true; the input reads as it did. -/
def waitlistArrivalUptoRow : OpenClaim := { program := "ytapmdkfhppbblaa", sum := "90448845cec91d3f5d813ba9733f9401d05cfb7ffa4929453bd8e8dc5d3fa8ae", func := "nursery/nurserylaw07.WaitlistArrival", spec := "waitlistArrival", unfollowed := true, recurses := true, apart := false, narrowed := true }
def WaitlistArrivalUptoSaid : Prop := waitlistArrivalUptoRow.holds Try.pinned (OpenSpec.upto waitlistArrivalSpec)

/-- 'nurserylaw07.WaitlistFair', WHERE WHAT IT READS IS OF BULK AT MOST 1048576: true; the input reads as it did. -/
def waitlistFairUptoRow : OpenClaim := { program := "ytapmdkfhppbblaa", sum := "90448845cec91d3f5d813ba9733f9401d05cfb7ffa4929453bd8e8dc5d3fa8ae", func := "nursery/nurserylaw07.WaitlistFair", spec := "waitlistFair", unfollowed := true, recurses := true, apart := false, narrowed := true }
def WaitlistFairUptoSaid : Prop := waitlistFairUptoRow.holds Try.pinned (OpenSpec.upto waitlistFairSpec)

/-- 'nurserylaw07.WaitlistPriority', WHERE WHAT IT READS IS OF BULK AT MOST 1048576: true; the input reads as it did. -/
def waitlistPriorityUptoRow : OpenClaim := { program := "ytapmdkfhppbblaa", sum := "90448845cec91d3f5d813ba9733f9401d05cfb7ffa4929453bd8e8dc5d3fa8ae", func := "nursery/nurserylaw07.WaitlistPriority", spec := "waitlistPriority", unfollowed := true, recurses := true, apart := false, narrowed := true }
def WaitlistPriorityUptoSaid : Prop := waitlistPriorityUptoRow.holds Try.pinned (OpenSpec.upto waitlistPrioritySpec)

end Rows
end Go.Proofs.Ytapmdkfhppbblaa
