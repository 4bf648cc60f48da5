/-
  No cell of these rows narrows 'for every input' (looked for: loops, veiled, ifaces, maps, wideKeys, modest, calm, conditions, laid).
  DERIVED. THE GIVEN ROWS OF THIS SEAT. 9 by the template 'for every input the law returns true; each argument reads behind the call as it read before'; 0 by the template 'total and deterministic' (their statements: YtbofdjjcabmbcaaTotals.lean).
  GIVEN WITH THE SEED: the statements are not yours to turn. If you find one false, say at which input.
  Laid BY PROGRAM, IN A SANDBOX (cutbox-rows.mjs): the forced cells as the released guide's own fill.sh prints them over the translation 8c2cf2cea45b4be6… (all of the seat's roots in one cut). By AI agents, Wed Nov 11 2026. No macro, syntax, notation, axiom, sorry.
-/
import Derived.Test.YtbofdjjcabmbcaaChecked
import GoSem.Claim
import GoSem.ClaimJoined
import GoSem.ClaimMapViews
import Derived.JoinedTies
import Derived.KernelRfl
namespace Go.Proofs.Ytbofdjjcabmbcaa
/- THE CELL 'sum', in the pinned program and in every row, IS THE sha256 OF THE DUMP (.gsa) THAT YtbofdjjcabmbcaaProg.lean LOADS. Nothing in Lean hashes anything: it is a label: what it is worth is what the hold of that sum in a sandbox is worth. -/
noncomputable def Try.pinned : Pinned := { name := "ytbofdjjcabmbcaa", sum := "8c2cf2cea45b4be6abc4b70cd6c18927178c37b418a7155c720480e0df111e5a", checked := Try.checked }
namespace Rows
def none {H : Type} : Left H := { results := [], args := [] }

/-- 'nurserylaw24.LimiterRate': WHATEVER THE INPUT: true; the input reads as it did. -/
def limiterRateSpec : ChangeSpec := { name := "limiterRate", fn := fun _ => fun
  | [d1, d2] => { results := [.lit (.bool true)], args := [d1, d2] }
  | _ => none }
def limiterRateRow : OpenClaim := { program := "ytbofdjjcabmbcaa", sum := "8c2cf2cea45b4be6abc4b70cd6c18927178c37b418a7155c720480e0df111e5a", func := "nursery/nurserylaw24.LimiterRate", spec := "limiterRate", unfollowed := true, recurses := true, apart := false }
def LimiterRateSaid : Prop := limiterRateRow.holds Try.pinned (OpenSpec.ofChange limiterRateSpec)

/-- ITS FALSE NEIGHBOUR: 'it returns false'. Refute it at one input. -/
def limiterRateWrong : ChangeSpec := { name := "limiterRate", fn := fun _ => fun
  | [d1, d2] => { results := [.lit (.bool false)], args := [d1, d2] }
  | _ => none }
def LimiterRateWrongFalsely : Prop := limiterRateRow.holds Try.pinned (OpenSpec.ofChange limiterRateWrong)

/-- 'nurserylaw24.LimiterOrder': WHATEVER THE INPUT: true; the input reads as it did. -/
def limiterOrderSpec : ChangeSpec := { name := "limiterOrder", fn := fun _ => fun
  | [d1, d2, d3] => { results := [.lit (.bool true)], args := [d1, d2, d3] }
  | _ => none }
def limiterOrderRow : OpenClaim := { program := "ytbofdjjcabmbcaa", sum := "8c2cf2cea45b4be6abc4b70cd6c18927178c37b418a7155c720480e0df111e5a", func := "nursery/nurserylaw24.LimiterOrder", spec := "limiterOrder", unfollowed := true, recurses := true, apart := false }
def LimiterOrderSaid : Prop := limiterOrderRow.holds Try.pinned (OpenSpec.ofChange limiterOrderSpec)

/-- ITS FALSE NEIGHBOUR: 'it returns false'. Refute it at one input. -/
def limiterOrderWrong : ChangeSpec := { name := "limiterOrder", fn := fun _ => fun
  | [d1, d2, d3] => { results := [.lit (.bool false)], args := [d1, d2, d3] }
  | _ => none }
def LimiterOrderWrongFalsely : Prop := limiterOrderRow.holds Try.pinned (OpenSpec.ofChange limiterOrderWrong)

/-- 'nurserylaw24.LimiterApply': WHATEVER THE INPUT: true; the input reads as it did. -/
def limiterApplySpec : ChangeSpec := { name := "limiterApply", fn := fun _ => fun
  | [d1, d2, d3] => { results := [.lit (.bool true)], args := [d1, d2, d3] }
  | _ => none }
def limiterApplyRow : OpenClaim := { program := "ytbofdjjcabmbcaa", sum := "8c2cf2cea45b4be6abc4b70cd6c18927178c37b418a7155c720480e0df111e5a", func := "nursery/nurserylaw24.LimiterApply", spec := "limiterApply", unfollowed := true, recurses := true, apart := false }
def LimiterApplySaid : Prop := limiterApplyRow.holds Try.pinned (OpenSpec.ofChange limiterApplySpec)

/-- ITS FALSE NEIGHBOUR: 'it returns false'. Refute it at one input. -/
def limiterApplyWrong : ChangeSpec := { name := "limiterApply", fn := fun _ => fun
  | [d1, d2, d3] => { results := [.lit (.bool false)], args := [d1, d2, d3] }
  | _ => none }
def LimiterApplyWrongFalsely : Prop := limiterApplyRow.holds Try.pinned (OpenSpec.ofChange limiterApplyWrong)

/-- 'nurserylaw24.LimiterStates': WHATEVER THE INPUT: true; the input reads as it did. -/
def limiterStatesSpec : ChangeSpec := { name := "limiterStates", fn := fun _ => fun
  | [d1, d2, d3] => { results := [.lit (.bool true)], args := [d1, d2, d3] }
  | _ => none }
def limiterStatesRow : OpenClaim := { program := "ytbofdjjcabmbcaa", sum := "8c2cf2cea45b4be6abc4b70cd6c18927178c37b418a7155c720480e0df111e5a", func := "nursery/nurserylaw24.LimiterStates", spec := "limiterStates", unfollowed := true, recurses := true, apart := false }
def LimiterStatesSaid : Prop := limiterStatesRow.holds Try.pinned (OpenSpec.ofChange limiterStatesSpec)

/-- ITS FALSE NEIGHBOUR: 'it returns false'. Refute it at one input. -/
def limiterStatesWrong : ChangeSpec := { name := "limiterStates", fn := fun _ => fun
  | [d1, d2, d3] => { results := [.lit (.bool false)], args := [d1, d2, d3] }
  | _ => none }
def LimiterStatesWrongFalsely : Prop := limiterStatesRow.holds Try.pinned (OpenSpec.ofChange limiterStatesWrong)

/-- 'nurserylaw24.LimiterDue': WHATEVER THE INPUT: true; the input reads as it did. -/
def limiterDueSpec : ChangeSpec := { name := "limiterDue", fn := fun _ => fun
  | [d1, d2, d3] => { results := [.lit (.bool true)], args := [d1, d2, d3] }
  | _ => none }
def limiterDueRow : OpenClaim := { program := "ytbofdjjcabmbcaa", sum := "8c2cf2cea45b4be6abc4b70cd6c18927178c37b418a7155c720480e0df111e5a", func := "nursery/nurserylaw24.LimiterDue", spec := "limiterDue", unfollowed := true, recurses := true, apart := false }
def LimiterDueSaid : Prop := limiterDueRow.holds Try.pinned (OpenSpec.ofChange limiterDueSpec)

/-- ITS FALSE NEIGHBOUR: 'it returns false'. Refute it at one input. -/
def limiterDueWrong : ChangeSpec := { name := "limiterDue", fn := fun _ => fun
  | [d1, d2, d3] => { results := [.lit (.bool false)], args := [d1, d2, d3] }
  | _ => none }
def LimiterDueWrongFalsely : Prop := limiterDueRow.holds Try.pinned (OpenSpec.ofChange limiterDueWrong)

/-- 'nurserylaw24.LimiterRefills': WHATEVER THE INPUT: true; the input reads as it did. -/
def limiterRefillsSpec : ChangeSpec := { name := "limiterRefills", fn := fun _ => fun
  | [d1, d2, d3, d4] => { results := [.lit (.bool true)], args := [d1, d2, d3, d4] }
  | _ => none }
def limiterRefillsRow : OpenClaim := { program := "ytbofdjjcabmbcaa", sum := "8c2cf2cea45b4be6abc4b70cd6c18927178c37b418a7155c720480e0df111e5a", func := "nursery/nurserylaw24.LimiterRefills", spec := "limiterRefills", unfollowed := true, recurses := true, apart := false }
def LimiterRefillsSaid : Prop := limiterRefillsRow.holds Try.pinned (OpenSpec.ofChange limiterRefillsSpec)

/-- ITS FALSE NEIGHBOUR: 'it returns false'. Refute it at one input. -/
def limiterRefillsWrong : ChangeSpec := { name := "limiterRefills", fn := fun _ => fun
  | [d1, d2, d3, d4] => { results := [.lit (.bool false)], args := [d1, d2, d3, d4] }
  | _ => none }
def LimiterRefillsWrongFalsely : Prop := limiterRefillsRow.holds Try.pinned (OpenSpec.ofChange limiterRefillsWrong)

/-- 'nurserylaw24.LimiterWithdraw': WHATEVER THE INPUT: true; the input reads as it did. -/
def limiterWithdrawSpec : ChangeSpec := { name := "limiterWithdraw", fn := fun _ => fun
  | [d1, d2, d3] => { results := [.lit (.bool true)], args := [d1, d2, d3] }
  | _ => none }
def limiterWithdrawRow : OpenClaim := { program := "ytbofdjjcabmbcaa", sum := "8c2cf2cea45b4be6abc4b70cd6c18927178c37b418a7155c720480e0df111e5a", func := "nursery/nurserylaw24.LimiterWithdraw", spec := "limiterWithdraw", unfollowed := true, recurses := true, apart := false }
def LimiterWithdrawSaid : Prop := limiterWithdrawRow.holds Try.pinned (OpenSpec.ofChange limiterWithdrawSpec)

/-- ITS FALSE NEIGHBOUR: 'it returns false'. Refute it at one input. -/
def limiterWithdrawWrong : ChangeSpec := { name := "limiterWithdraw", fn := fun _ => fun
  | [d1, d2, d3] => { results := [.lit (.bool false)], args := [d1, d2, d3] }
  | _ => none }
def LimiterWithdrawWrongFalsely : Prop := limiterWithdrawRow.holds Try.pinned (OpenSpec.ofChange limiterWithdrawWrong)

/-- 'nurserylaw24.LimiterWithdraws': WHATEVER THE INPUT: true; the input reads as it did. -/
def limiterWithdrawsSpec : ChangeSpec := { name := "limiterWithdraws", fn := fun _ => fun
  | [d1, d2, d3] => { results := [.lit (.bool true)], args := [d1, d2, d3] }
  | _ => none }
def limiterWithdrawsRow : OpenClaim := { program := "ytbofdjjcabmbcaa", sum := "8c2cf2cea45b4be6abc4b70cd6c18927178c37b418a7155c720480e0df111e5a", func := "nursery/nurserylaw24.LimiterWithdraws", spec := "limiterWithdraws", unfollowed := true, recurses := true, apart := false }
def LimiterWithdrawsSaid : Prop := limiterWithdrawsRow.holds Try.pinned (OpenSpec.ofChange limiterWithdrawsSpec)

/-- ITS FALSE NEIGHBOUR: 'it returns false'. Refute it at one input. -/
def limiterWithdrawsWrong : ChangeSpec := { name := "limiterWithdraws", fn := fun _ => fun
  | [d1, d2, d3] => { results := [.lit (.bool false)], args := [d1, d2, d3] }
  | _ => none }
def LimiterWithdrawsWrongFalsely : Prop := limiterWithdrawsRow.holds Try.pinned (OpenSpec.ofChange limiterWithdrawsWrong)

/-- 'nurserylaw24.LimiterValid': WHATEVER THE INPUT: true; the input reads as it did. -/
def limiterValidSpec : ChangeSpec := { name := "limiterValid", fn := fun _ => fun
  | [d1, d2, d3] => { results := [.lit (.bool true)], args := [d1, d2, d3] }
  | _ => none }
def limiterValidRow : OpenClaim := { program := "ytbofdjjcabmbcaa", sum := "8c2cf2cea45b4be6abc4b70cd6c18927178c37b418a7155c720480e0df111e5a", func := "nursery/nurserylaw24.LimiterValid", spec := "limiterValid", unfollowed := true, recurses := true, apart := false }
def LimiterValidSaid : Prop := limiterValidRow.holds Try.pinned (OpenSpec.ofChange limiterValidSpec)

/-- ITS FALSE NEIGHBOUR: 'it returns false'. Refute it at one input. -/
def limiterValidWrong : ChangeSpec := { name := "limiterValid", fn := fun _ => fun
  | [d1, d2, d3] => { results := [.lit (.bool false)], args := [d1, d2, d3] }
  | _ => none }
def LimiterValidWrongFalsely : Prop := limiterValidRow.holds Try.pinned (OpenSpec.ofChange limiterValidWrong)

/- THE SECOND FORM. 'bulk': how many values and letters a reading holds, each counted each time it is reached (what is shared counts as often as it is met; a slice's spare places count too). A statement '..UptoSaid' is the law's where the arguments, and the package variables that the reading takes, are together of bulk at most 1048576: NARROWER than '..Said'. Prove '..Said' where nothing that the law and all that it calls make is longer than what came in: it says more and counts as full. Else prove '..UptoSaid'. A law counts once. -/
mutual
def uptoBulk {H : Type} : DataW H → Nat
  | .lit (.string bytes) => bytes.length + 1
  | .lit _ => 1
  | .nil => 1
  | .ptr d => uptoBulk d + 1
  | .slice elems spare => uptoBulkAll elems + uptoBulkAll spare + 1
  | .agg parts => uptoBulkAll parts + 1
  | .iface _ d => uptoBulk d + 1
  | .map entries => uptoBulkEntries entries + 1
  | .held _ => 1
def uptoBulkAll {H : Type} : List (DataW H) → Nat
  | [] => 0
  | d :: r => uptoBulk d + uptoBulkAll r
def uptoBulkEntries {H : Type} : List (Lit × DataW H) → Nat
  | [] => 0
  | x :: r => uptoBulkEntry x + uptoBulkEntries r
def uptoBulkEntry {H : Type} : Lit × DataW H → Nat
  | (.string bytes, d) => bytes.length + uptoBulk d + 1
  | (_, d) => uptoBulk d + 1
 end
def uptoSmall : (H : Type) → List (DataW H) → Bool := fun _ ds => decide (uptoBulkAll ds ≤ 1048576)
def OpenSpec.upto (s : _root_.Go.ChangeSpec) : _root_.Go.OpenSpec := { _root_.Go.OpenSpec.ofChange s with cond := some uptoSmall }

/-- 'nurserylaw24.LimiterRate', WHERE WHAT IT READS IS OF BULK AT MOST 1048576: true; the input reads as it did. -/
def limiterRateUptoRow : OpenClaim := { program := "ytbofdjjcabmbcaa", sum := "8c2cf2cea45b4be6abc4b70cd6c18927178c37b418a7155c720480e0df111e5a", func := "nursery/nurserylaw24.LimiterRate", spec := "limiterRate", unfollowed := true, recurses := true, apart := false, narrowed := true }
def LimiterRateUptoSaid : Prop := limiterRateUptoRow.holds Try.pinned (OpenSpec.upto limiterRateSpec)

/-- 'nurserylaw24.LimiterOrder', WHERE WHAT IT READS IS OF BULK AT MOST 1048576: true; the input reads as it did. -/
def limiterOrderUptoRow : OpenClaim := { program := "ytbofdjjcabmbcaa", sum := "8c2cf2cea45b4be6abc4b70cd6c18927178c37b418a7155c720480e0df111e5a", func := "nursery/nurserylaw24.LimiterOrder", spec := "limiterOrder", unfollowed := true, recurses := true, apart := false, narrowed := true }
def LimiterOrderUptoSaid : Prop := limiterOrderUptoRow.holds Try.pinned (OpenSpec.upto limiterOrderSpec)

/-- 'nurserylaw24.LimiterApply', WHERE WHAT IT READS IS OF BULK AT MOST 1048576: true; the input reads as it did. -/
def limiterApplyUptoRow : OpenClaim := { program := "ytbofdjjcabmbcaa", sum := "8c2cf2cea45b4be6abc4b70cd6c18927178c37b418a7155c720480e0df111e5a", func := "nursery/nurserylaw24.LimiterApply", spec := "limiterApply", unfollowed := true, recurses := true, apart := false, narrowed := true }
def LimiterApplyUptoSaid : Prop := limiterApplyUptoRow.holds Try.pinned (OpenSpec.upto limiterApplySpec)

/-- 'nurserylaw24.LimiterStates', WHERE WHAT IT READS IS OF BULK AT MOST 1048576: true; the input reads as it did. -/
def limiterStatesUptoRow : OpenClaim := { program := "ytbofdjjcabmbcaa", sum := "8c2cf2cea45b4be6abc4b70cd6c18927178c37b418a7155c720480e0df111e5a", func := "nursery/nurserylaw24.LimiterStates", spec := "limiterStates", unfollowed := true, recurses := true, apart := false, narrowed := true }
def LimiterStatesUptoSaid : Prop := limiterStatesUptoRow.holds Try.pinned (OpenSpec.upto limiterStatesSpec)

/-- 'nurserylaw24.LimiterDue', WHERE WHAT IT READS IS OF BULK AT MOST 1048576: true; the input reads as it did. -/
def limiterDueUptoRow : OpenClaim := { program := "ytbofdjjcabmbcaa", sum := "8c2cf2cea45b4be6abc4b70cd6c18927178c37b418a7155c720480e0df111e5a", func := "nursery/nurserylaw24.LimiterDue", spec := "limiterDue", unfollowed := true, recurses := true, apart := false, narrowed := true }
def LimiterDueUptoSaid : Prop := limiterDueUptoRow.holds Try.pinned (OpenSpec.upto limiterDueSpec)

/-- 'nurserylaw24.LimiterRefills', WHERE WHAT IT READS IS OF BULK AT MOST 1048576: true; the input reads as it did. -/
def limiterRefillsUptoRow : OpenClaim := { program := "ytbofdjjcabmbcaa", sum := "8c2cf2cea45b4be6abc4b70cd6c18927178c37b418a7155c720480e0df111e5a", func := "nursery/nurserylaw24.LimiterRefills", spec := "limiterRefills", unfollowed := true, recurses := true, apart := false, narrowed := true }
def LimiterRefillsUptoSaid : Prop := limiterRefillsUptoRow.holds Try.pinned (OpenSpec.upto limiterRefillsSpec)

/-- 'nurserylaw24.LimiterWithdraw', WHERE WHAT IT READS IS OF BULK AT MOST 1048576: true; the input reads as it did. -/
def limiterWithdrawUptoRow : OpenClaim := { program := "ytbofdjjcabmbcaa", sum := "8c2cf2cea45b4be6abc4b70cd6c18927178c37b418a7155c720480e0df111e5a", func := "nursery/nurserylaw24.LimiterWithdraw", spec := "limiterWithdraw", unfollowed := true, recurses := true, apart := false, narrowed := true }
def LimiterWithdrawUptoSaid : Prop := limiterWithdrawUptoRow.holds Try.pinned (OpenSpec.upto limiterWithdrawSpec)

/-- 'nurserylaw24.LimiterWithdraws', WHERE WHAT IT READS IS OF BULK AT MOST 1048576: true; the input reads as it did. -/
def limiterWithdrawsUptoRow : OpenClaim := { program := "ytbofdjjcabmbcaa", sum := "8c2cf2cea45b4be6abc4b70cd6c18927178c37b418a7155c720480e0df111e5a", func := "nursery/nurserylaw24.LimiterWithdraws", spec := "limiterWithdraws", unfollowed := true, recurses := true, apart := false, narrowed := true }
def LimiterWithdrawsUptoSaid : Prop := limiterWithdrawsUptoRow.holds Try.pinned (OpenSpec.upto limiterWithdrawsSpec)

/-- 'nurserylaw24.LimiterValid', WHERE WHAT IT READS IS OF BULK AT MOST 1048576: true; the input reads as it did. -/
def limiterValidUptoRow : OpenClaim := { program := "ytbofdjjcabmbcaa", sum := "8c2cf2cea45b4be6abc4b70cd6c18927178c37b418a7155c720480e0df111e5a", func := "nursery/nurserylaw24.LimiterValid", spec := "limiterValid", unfollowed := true, recurses := true, apart := false, narrowed := true }
def LimiterValidUptoSaid : Prop := limiterValidUptoRow.holds Try.pinned (OpenSpec.upto limiterValidSpec)

end Rows
end Go.Proofs.Ytbofdjjcabmbcaa
