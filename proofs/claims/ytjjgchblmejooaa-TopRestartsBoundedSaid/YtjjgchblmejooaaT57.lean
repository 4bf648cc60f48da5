/- What the arguments read as. -/
import Derived.Test.YtjjgchblmejooaaJ57
import Derived.Test.YtjjgchblmejooaaZF57
set_option linter.unusedVariables false
set_option linter.unusedSimpArgs false
set_option maxRecDepth 10000
namespace Go.Proofs
open Go.Aw Wl Sv
theorem ownK : ownKnob Try.prog.godebug = none := by kernel_rfl
theorem laidK : laidOutB Try.prog = true := by kernel_rfl
theorem rdCh : RdT Try.prog 42 encCh (fun _ => True) :=
  RdT.map (RdT.struct Try.underlying42 (.cons (s := 1) (RdT.string Try.underlying9) rfl (by kernel_rfl) (.cons (s := 1) (RdT.i64 Try.underlying3) rfl (by kernel_rfl) (.cons (s := 1) (RdT.i64 Try.underlying3) rfl (by kernel_rfl) .nil))) (by kernel_rfl)) (fun x => (⟨x.1, x.2.1, x.2.2.1⟩ : Sv.Ch)) (fun _ => rfl) (fun _ h => trivial)
theorem rdSp : RdT Try.prog 24 encSp (fun _ => True) :=
  RdT.map (RdT.struct Try.underlying24 (.cons (s := 1) (RdT.i64 Try.underlying3) rfl (by kernel_rfl) (.cons (s := 1) (RdT.i64 Try.underlying3) rfl (by kernel_rfl) (.cons (s := 1) (RdT.i64 Try.underlying3) rfl (by kernel_rfl) (.cons (s := 1) (RdT.slice rdCh inferInstance) rfl (by kernel_rfl) .nil)))) (by kernel_rfl)) (fun x => (⟨x.1, x.2.1, x.2.2.1, x.2.2.2.1⟩ : Sv.Spc)) (fun _ => rfl) (fun _ h => trivial)
theorem rdHp : RdT Try.prog 52 encHp Sv.okHp :=
  RdT.map (RdT.struct Try.underlying52 (.cons (s := 1) (RdT.u8 Try.underlying5) rfl (by kernel_rfl) (.cons (s := 1) (RdT.u8 Try.underlying5) rfl (by kernel_rfl) (.cons (s := 1) (RdT.u8 Try.underlying5) rfl (by kernel_rfl) .nil))) (by kernel_rfl)) (fun x => (⟨x.1, x.2.1, x.2.2.1⟩ : Sv.Hp)) (fun _ => rfl) (fun _ h => ⟨h.1, h.2.1, h.2.2.1⟩)
theorem rdLHp : RdT Try.prog 25 (fun l : List Sv.Hp => [AV.sl 3 (l.map encHp)]) (fun l => ∀ a ∈ l, Sv.okHp a) := RdT.slice rdHp inferInstance
end Go.Proofs
