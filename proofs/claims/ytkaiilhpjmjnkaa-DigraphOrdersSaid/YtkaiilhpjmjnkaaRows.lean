/-
  No cell of these rows narrows 'for every input' (looked for: loops, veiled, ifaces, maps, wideKeys, modest, calm, conditions, laid).
  DERIVED. THE GIVEN ROWS OF THIS SEAT. 8 by the template 'for every input the law returns true; each argument reads behind the call as it read before'; 0 by the template 'total and deterministic' (their statements: YtkaiilhpjmjnkaaTotals.lean).
  GIVEN WITH THE SEED: the statements are not yours to turn. If you find one false, say at which input.
  Laid BY PROGRAM, IN A SANDBOX (cutbox-rows.mjs): the forced cells as the released guide's own fill.sh prints them over the translation 48d9453a727f3c71… (all of the seat's roots in one cut). By AI agents, Wed Nov 11 2026. No macro, syntax, notation, axiom, sorry.
-/
import Derived.Test.YtkaiilhpjmjnkaaChecked
import GoSem.Claim
import GoSem.ClaimJoined
import GoSem.ClaimMapViews
import Derived.JoinedTies
import Derived.KernelRfl
namespace Go.Proofs.Ytkaiilhpjmjnkaa
/- THE CELL 'sum', in the pinned program and in every row, IS THE sha256 OF THE DUMP (.gsa) THAT YtkaiilhpjmjnkaaProg.lean LOADS. Nothing in Lean hashes anything: it is a label: what it is worth is what the hold of that sum in a sandbox is worth. -/
noncomputable def Try.pinned : Pinned := { name := "ytkaiilhpjmjnkaa", sum := "48d9453a727f3c7187f377d94450e275dde25891b9c04c4e14c8129586598c2e", checked := Try.checked }
namespace Rows
def none {H : Type} : Left H := { results := [], args := [] }

/-- 'nurserylaw03.DigraphReach': WHATEVER THE INPUT: true; the input reads as it did. -/
def digraphReachSpec : ChangeSpec := { name := "digraphReach", fn := fun _ => fun
  | [d1, d2, d3] => { results := [.lit (.bool true)], args := [d1, d2, d3] }
  | _ => none }
def digraphReachRow : OpenClaim := { program := "ytkaiilhpjmjnkaa", sum := "48d9453a727f3c7187f377d94450e275dde25891b9c04c4e14c8129586598c2e", func := "nursery/nurserylaw03.DigraphReach", spec := "digraphReach", unfollowed := true, recurses := true, apart := false }
def DigraphReachSaid : Prop := digraphReachRow.holds Try.pinned (OpenSpec.ofChange digraphReachSpec)

/-- ITS FALSE NEIGHBOUR: 'it returns false'. Refute it at one input. -/
def digraphReachWrong : ChangeSpec := { name := "digraphReach", fn := fun _ => fun
  | [d1, d2, d3] => { results := [.lit (.bool false)], args := [d1, d2, d3] }
  | _ => none }
def DigraphReachWrongFalsely : Prop := digraphReachRow.holds Try.pinned (OpenSpec.ofChange digraphReachWrong)

/-- 'nurserylaw03.DigraphRanks': WHATEVER THE INPUT: true; the input reads as it did. -/
def digraphRanksSpec : ChangeSpec := { name := "digraphRanks", fn := fun _ => fun
  | [d1, d2] => { results := [.lit (.bool true)], args := [d1, d2] }
  | _ => none }
def digraphRanksRow : OpenClaim := { program := "ytkaiilhpjmjnkaa", sum := "48d9453a727f3c7187f377d94450e275dde25891b9c04c4e14c8129586598c2e", func := "nursery/nurserylaw03.DigraphRanks", spec := "digraphRanks", unfollowed := true, recurses := true, apart := false }
def DigraphRanksSaid : Prop := digraphRanksRow.holds Try.pinned (OpenSpec.ofChange digraphRanksSpec)

/-- ITS FALSE NEIGHBOUR: 'it returns false'. Refute it at one input. -/
def digraphRanksWrong : ChangeSpec := { name := "digraphRanks", fn := fun _ => fun
  | [d1, d2] => { results := [.lit (.bool false)], args := [d1, d2] }
  | _ => none }
def DigraphRanksWrongFalsely : Prop := digraphRanksRow.holds Try.pinned (OpenSpec.ofChange digraphRanksWrong)

/-- 'nurserylaw03.DigraphClasses': WHATEVER THE INPUT: true; the input reads as it did. -/
def digraphClassesSpec : ChangeSpec := { name := "digraphClasses", fn := fun _ => fun
  | [d1, d2] => { results := [.lit (.bool true)], args := [d1, d2] }
  | _ => none }
def digraphClassesRow : OpenClaim := { program := "ytkaiilhpjmjnkaa", sum := "48d9453a727f3c7187f377d94450e275dde25891b9c04c4e14c8129586598c2e", func := "nursery/nurserylaw03.DigraphClasses", spec := "digraphClasses", unfollowed := true, recurses := true, apart := false }
def DigraphClassesSaid : Prop := digraphClassesRow.holds Try.pinned (OpenSpec.ofChange digraphClassesSpec)

/-- ITS FALSE NEIGHBOUR: 'it returns false'. Refute it at one input. -/
def digraphClassesWrong : ChangeSpec := { name := "digraphClasses", fn := fun _ => fun
  | [d1, d2] => { results := [.lit (.bool false)], args := [d1, d2] }
  | _ => none }
def DigraphClassesWrongFalsely : Prop := digraphClassesRow.holds Try.pinned (OpenSpec.ofChange digraphClassesWrong)

/-- 'nurserylaw03.DigraphCycles': WHATEVER THE INPUT: true; the input reads as it did. -/
def digraphCyclesSpec : ChangeSpec := { name := "digraphCycles", fn := fun _ => fun
  | [d1, d2] => { results := [.lit (.bool true)], args := [d1, d2] }
  | _ => none }
def digraphCyclesRow : OpenClaim := { program := "ytkaiilhpjmjnkaa", sum := "48d9453a727f3c7187f377d94450e275dde25891b9c04c4e14c8129586598c2e", func := "nursery/nurserylaw03.DigraphCycles", spec := "digraphCycles", unfollowed := true, recurses := true, apart := false }
def DigraphCyclesSaid : Prop := digraphCyclesRow.holds Try.pinned (OpenSpec.ofChange digraphCyclesSpec)

/-- ITS FALSE NEIGHBOUR: 'it returns false'. Refute it at one input. -/
def digraphCyclesWrong : ChangeSpec := { name := "digraphCycles", fn := fun _ => fun
  | [d1, d2] => { results := [.lit (.bool false)], args := [d1, d2] }
  | _ => none }
def DigraphCyclesWrongFalsely : Prop := digraphCyclesRow.holds Try.pinned (OpenSpec.ofChange digraphCyclesWrong)

/-- 'nurserylaw03.DigraphSorted': WHATEVER THE INPUT: true; the input reads as it did. -/
def digraphSortedSpec : ChangeSpec := { name := "digraphSorted", fn := fun _ => fun
  | [d1, d2] => { results := [.lit (.bool true)], args := [d1, d2] }
  | _ => none }
def digraphSortedRow : OpenClaim := { program := "ytkaiilhpjmjnkaa", sum := "48d9453a727f3c7187f377d94450e275dde25891b9c04c4e14c8129586598c2e", func := "nursery/nurserylaw03.DigraphSorted", spec := "digraphSorted", unfollowed := true, recurses := true, apart := false }
def DigraphSortedSaid : Prop := digraphSortedRow.holds Try.pinned (OpenSpec.ofChange digraphSortedSpec)

/-- ITS FALSE NEIGHBOUR: 'it returns false'. Refute it at one input. -/
def digraphSortedWrong : ChangeSpec := { name := "digraphSorted", fn := fun _ => fun
  | [d1, d2] => { results := [.lit (.bool false)], args := [d1, d2] }
  | _ => none }
def DigraphSortedWrongFalsely : Prop := digraphSortedRow.holds Try.pinned (OpenSpec.ofChange digraphSortedWrong)

/-- 'nurserylaw03.DigraphOrders': WHATEVER THE INPUT: true; the input reads as it did. -/
def digraphOrdersSpec : ChangeSpec := { name := "digraphOrders", fn := fun _ => fun
  | [d1, d2] => { results := [.lit (.bool true)], args := [d1, d2] }
  | _ => none }
def digraphOrdersRow : OpenClaim := { program := "ytkaiilhpjmjnkaa", sum := "48d9453a727f3c7187f377d94450e275dde25891b9c04c4e14c8129586598c2e", func := "nursery/nurserylaw03.DigraphOrders", spec := "digraphOrders", unfollowed := true, recurses := true, apart := false }
def DigraphOrdersSaid : Prop := digraphOrdersRow.holds Try.pinned (OpenSpec.ofChange digraphOrdersSpec)

/-- ITS FALSE NEIGHBOUR: 'it returns false'. Refute it at one input. -/
def digraphOrdersWrong : ChangeSpec := { name := "digraphOrders", fn := fun _ => fun
  | [d1, d2] => { results := [.lit (.bool false)], args := [d1, d2] }
  | _ => none }
def DigraphOrdersWrongFalsely : Prop := digraphOrdersRow.holds Try.pinned (OpenSpec.ofChange digraphOrdersWrong)

/-- 'nurserylaw03.DigraphClosure': WHATEVER THE INPUT: true; the input reads as it did. -/
def digraphClosureSpec : ChangeSpec := { name := "digraphClosure", fn := fun _ => fun
  | [d1, d2] => { results := [.lit (.bool true)], args := [d1, d2] }
  | _ => none }
def digraphClosureRow : OpenClaim := { program := "ytkaiilhpjmjnkaa", sum := "48d9453a727f3c7187f377d94450e275dde25891b9c04c4e14c8129586598c2e", func := "nursery/nurserylaw03.DigraphClosure", spec := "digraphClosure", unfollowed := true, recurses := true, apart := false }
def DigraphClosureSaid : Prop := digraphClosureRow.holds Try.pinned (OpenSpec.ofChange digraphClosureSpec)

/-- ITS FALSE NEIGHBOUR: 'it returns false'. Refute it at one input. -/
def digraphClosureWrong : ChangeSpec := { name := "digraphClosure", fn := fun _ => fun
  | [d1, d2] => { results := [.lit (.bool false)], args := [d1, d2] }
  | _ => none }
def DigraphClosureWrongFalsely : Prop := digraphClosureRow.holds Try.pinned (OpenSpec.ofChange digraphClosureWrong)

/-- 'nurserylaw03.DigraphReachable': WHATEVER THE INPUT: true; the input reads as it did. -/
def digraphReachableSpec : ChangeSpec := { name := "digraphReachable", fn := fun _ => fun
  | [d1, d2, d3] => { results := [.lit (.bool true)], args := [d1, d2, d3] }
  | _ => none }
def digraphReachableRow : OpenClaim := { program := "ytkaiilhpjmjnkaa", sum := "48d9453a727f3c7187f377d94450e275dde25891b9c04c4e14c8129586598c2e", func := "nursery/nurserylaw03.DigraphReachable", spec := "digraphReachable", unfollowed := true, recurses := true, apart := false }
def DigraphReachableSaid : Prop := digraphReachableRow.holds Try.pinned (OpenSpec.ofChange digraphReachableSpec)

/-- ITS FALSE NEIGHBOUR: 'it returns false'. Refute it at one input. -/
def digraphReachableWrong : ChangeSpec := { name := "digraphReachable", fn := fun _ => fun
  | [d1, d2, d3] => { results := [.lit (.bool false)], args := [d1, d2, d3] }
  | _ => none }
def DigraphReachableWrongFalsely : Prop := digraphReachableRow.holds Try.pinned (OpenSpec.ofChange digraphReachableWrong)

/- THE SECOND FORM. 'bulk': how many values and letters a reading holds, each counted each time it is reached (what is shared counts as often as it is met; a slice's spare places count too). A statement '..UptoSaid' is the law's where the arguments, and the package variables that the reading takes, are together of bulk at most 1048576: NARROWER than '..Said'. Prove '..Said' where nothing that the law and all that it calls make is longer than what came in: it says more and counts as full. Else prove '..UptoSaid'. A law counts once. -/
mutual
def uptoBulk {H : Type} : DataW H → Nat
  | .lit (.string bytes) => bytes.length + 1
  | .lit _ => 1
  | .nil => 1
  | .ptr d => uptoBulk d + 1
  | .slice elems spare => uptoBulkAll elems + uptoBulkAll spare + 1
  | .agg parts => uptoBulkAll parts + 1
  | .iface _ d => uptoBulk d + 1
  | .map entries => uptoBulkEntries entries + 1
  | .held _ => 1
def uptoBulkAll {H : Type} : List (DataW H) → Nat
  | [] => 0
  | d :: r => uptoBulk d + uptoBulkAll r
def uptoBulkEntries {H : Type} : List (Lit × DataW H) → Nat
  | [] => 0
  | x :: r => uptoBulkEntry x + uptoBulkEntries r
def uptoBulkEntry {H : Type} : Lit × DataW H → Nat
  | (.string bytes, d) => bytes.length + uptoBulk d + 1
  | (_, d) => uptoBulk d + 1
 end
def uptoSmall : (H : Type) → List (DataW H) → Bool := fun _ ds => decide (uptoBulkAll ds ≤ 1048576)
def OpenSpec.upto (s : _root_.Go.ChangeSpec) : _root_.Go.OpenSpec := { _root_.Go.OpenSpec.ofChange s with cond := some uptoSmall }

/-- 'nurserylaw03.DigraphReach', WHERE WHAT IT READS IS OF BULK AT MOST 1048576: true; the input reads as it did. -/
def digraphReachUptoRow : OpenClaim := { program := "ytkaiilhpjmjnkaa", sum := "48d9453a727f3c7187f377d94450e275dde25891b9c04c4e14c8129586598c2e", func := "nursery/nurserylaw03.DigraphReach", spec := "digraphReach", unfollowed := true, recurses := true, apart := false, narrowed := true }
def DigraphReachUptoSaid : Prop := digraphReachUptoRow.holds Try.pinned (OpenSpec.upto digraphReachSpec)

/-- 'nurserylaw03.DigraphRanks', WHERE WHAT IT READS IS OF BULK AT MOST 1048576: true; the input reads as it did. -/
def digraphRanksUptoRow : OpenClaim := { program := "ytkaiilhpjmjnkaa", sum := "48d9453a727f3c7187f377d94450e275dde25891b9c04c4e14c8129586598c2e", func := "nursery/nurserylaw03.DigraphRanks", spec := "digraphRanks", unfollowed := true, recurses := true, apart := false, narrowed := true }
def DigraphRanksUptoSaid : Prop := digraphRanksUptoRow.holds Try.pinned (OpenSpec.upto digraphRanksSpec)

/-- 'nurserylaw03.DigraphClasses', WHERE WHAT IT READS IS OF BULK AT MOST 1048576: true; the input reads as it did. -/
def digraphClassesUptoRow : OpenClaim := { program := "ytkaiilhpjmjnkaa", sum := "48d9453a727f3c7187f377d94450e275dde25891b9c04c4e14c8129586598c2e", func := "nursery/nurserylaw03.DigraphClasses", spec := "digraphClasses", unfollowed := true, recurses := true, apart := false, narrowed := true }
def DigraphClassesUptoSaid : Prop := digraphClassesUptoRow.holds Try.pinned (OpenSpec.upto digraphClassesSpec)

/-- 'nurserylaw03.DigraphCycles', WHERE WHAT IT READS IS OF BULK AT MOST 1048576: true; the input reads as it did. -/
def digraphCyclesUptoRow : OpenClaim := { program := "ytkaiilhpjmjnkaa", sum := "48d9453a727f3c7187f377d94450e275dde25891b9c04c4e14c8129586598c2e", func := "nursery/nurserylaw03.DigraphCycles", spec := "digraphCycles", unfollowed := true, recurses := true, apart := false, narrowed := true }
def DigraphCyclesUptoSaid : Prop := digraphCyclesUptoRow.holds Try.pinned (OpenSpec.upto digraphCyclesSpec)

/-- 'nurserylaw03.DigraphSorted', WHERE WHAT IT READS IS OF BULK AT MOST 1048576: true; the input reads as it did. -/
def digraphSortedUptoRow : OpenClaim := { program := "ytkaiilhpjmjnkaa", sum := "48d9453a727f3c7187f377d94450e275dde25891b9c04c4e14c8129586598c2e", func := "nursery/nurserylaw03.DigraphSorted", spec := "digraphSorted", unfollowed := true, recurses := true, apart := false, narrowed := true }
def DigraphSortedUptoSaid : Prop := digraphSortedUptoRow.holds Try.pinned (OpenSpec.upto digraphSortedSpec)

/-- 'nurserylaw03.DigraphOrders', WHERE WHAT IT READS IS OF BULK AT MOST 1048576: true; the input reads as it did. -/
def digraphOrdersUptoRow : OpenClaim := { program := "ytkaiilhpjmjnkaa", sum := "48d9453a727f3c7187f377d94450e275dde25891b9c04c4e14c8129586598c2e", func := "nursery/nurserylaw03.DigraphOrders", spec := "digraphOrders", unfollowed := true, recurses := true, apart := false, narrowed := true }
def DigraphOrdersUptoSaid : Prop := digraphOrdersUptoRow.holds Try.pinned (OpenSpec.upto digraphOrdersSpec)

/-- 'nurserylaw03.DigraphClosure', WHERE WHAT IT READS IS OF BULK AT MOST 1048576: true; the input reads as it did. -/
def digraphClosureUptoRow : OpenClaim := { program := "ytkaiilhpjmjnkaa", sum := "48d9453a727f3c7187f377d94450e275dde25891b9c04c4e14c8129586598c2e", func := "nursery/nurserylaw03.DigraphClosure", spec := "digraphClosure", unfollowed := true, recurses := true, apart := false, narrowed := true }
def DigraphClosureUptoSaid : Prop := digraphClosureUptoRow.holds Try.pinned (OpenSpec.upto digraphClosureSpec)

/-- 'nurserylaw03.DigraphReachable', WHERE WHAT IT READS IS OF BULK AT MOST 1048576: true; the input reads as it did. -/
def digraphReachableUptoRow : OpenClaim := { program := "ytkaiilhpjmjnkaa", sum := "48d9453a727f3c7187f377d94450e275dde25891b9c04c4e14c8129586598c2e", func := "nursery/nurserylaw03.DigraphReachable", spec := "digraphReachable", unfollowed := true, recurses := true, apart := false, narrowed := true }
def DigraphReachableUptoSaid : Prop := digraphReachableUptoRow.holds Try.pinned (OpenSpec.upto digraphReachableSpec)

end Rows
end Go.Proofs.Ytkaiilhpjmjnkaa
