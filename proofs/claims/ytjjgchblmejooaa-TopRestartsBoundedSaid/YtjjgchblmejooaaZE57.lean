/- Supervisors: runs, and what is great. No condition. -/
import Derived.Test.YtjjgchblmejooaaZD57
set_option linter.unusedVariables false
set_option linter.unusedSimpArgs false
namespace Sv
def fine (q : Spc) : Bool := !great q && decide (chk q = 0)
theorem great_f {q : Spc} (h : great q = false) : q.children.length ≤ 1000000 ∧ ∀ c ∈ q.children, c.name.size ≤ 1000000 := by
  unfold great at h
  rw [Bool.or_eq_false_iff, decide_eq_false_iff_not, List.any_eq_false] at h
  refine ⟨by omega, fun c hc => ?_⟩
  have := h.2 c hc
  simp only [decide_eq_true_eq] at this
  omega
theorem fine_t {q : Spc} (h : fine q = true) : chk q = 0 ∧ q.children.length ≤ 1000 ∧ (∀ c ∈ q.children, c.name.size ≤ 1000000) ∧ 0 ≤ q.window ∧ q.window ≤ 1099511627776 := by
  unfold fine at h
  rw [Bool.and_eq_true, decide_eq_true_eq] at h
  have h1 := great_f (by simpa using h.1)
  have h2 := chk_ok h.2
  have h3 := h2.len
  have h4 := h2.wind
  exact ⟨h.2, by omega, h1.2, by omega, by omega⟩
def rn1 (q : Spc) (x : Ss × List Evt) (y : Evt) : Ss × List Evt := ((handle q x.1 y).1, x.2 ++ (handle q x.1 y).2.1)
def rnK (q : Spc) (l : List Evt) (k : Nat) : Ss × List Evt := (l.take k).foldl (rn1 q) ((new q).1, (new q).2.1)
theorem rnK_succ {q : Spc} {l : List Evt} {k : Nat} (hk : k < l.length) : rnK q l (k + 1) = rn1 q (rnK q l k) l[k] := by
  unfold rnK
  rw [List.take_add_one, List.getElem?_eq_getElem hk, List.foldl_append]; rfl
def evA : Evt := ⟨1, 0, 0, 3⟩
theorem chkA : chk spec1 = 0 := by decide +kernel
theorem runA : rnK spec1 [evA] 1 = (⟨1, [⟨1, 2⟩], [3], false⟩, [⟨3, 0, 0, 0⟩, ⟨3, 0, 0, 3⟩]) := by decide +kernel
theorem hbA : ∀ k, k < [evA].length → Hb spec1 (rnK spec1 [evA] k).1 := by
  intro k hk
  obtain rfl : k = 0 := by simp at hk; exact hk
  have : (rnK spec1 [evA] 0).1 = ⟨1, [⟨1, 1⟩], [], false⟩ := by decide +kernel
  rw [this]
  exact ⟨by decide, by decide, by simp⟩
theorem okA : ∀ k (h : k < [evA].length), (handle spec1 (rnK spec1 [evA] k).1 [evA][k]).2.2 = 0 := by
  intro k hk
  obtain rfl : k = 0 := by simp at hk; exact hk
  show (handle spec1 (rnK spec1 [evA] 0).1 evA).2.2 = 0
  decide +kernel
theorem outA : ∀ k, k ≤ [evA].length → (rnK spec1 [evA] k).2.length ≤ 1000 := by
  intro k hk
  have : k = 0 ∨ k = 1 := by simp at hk; omega
  rcases this with rfl | rfl <;> decide +kernel
end Sv
namespace Go.Aw
open Sv
def encLEv (a : List Evt) : List AV := [.sl 4 (a.map encEv)]
instance {v : AV} {l : List Evt} [h : Sl v 4 encEv l] : RowOf [v] encLEv l := ⟨.cons h.imp .nil⟩
end Go.Aw
namespace Sv
theorem fin_eq {q : Spc} {now : Int} {s : Ss} {v : Evt} {K : Nat} {W : Wk} (hK : WOk q now s v K) (h : wk q now s v K = W) : fin q now s v = W := by
  have := wk_stay hK.stop (34 - K)
  rw [show K + (34 - K) = 34 by have := hK.le; omega] at this
  exact this.trans h
theorem adds_t {now : Int} {l : List Evt} {k : Nat} (hk : k < l.length) (h : l[k].kind = 4) : adds now (l.take (k + 1)) = adds now (l.take k) ++ [⟨1, l[k].child, 1, now⟩] := by
  unfold adds
  rw [List.take_add_one, List.getElem?_eq_getElem hk, List.filter_append, List.map_append]
  simp [h]
theorem adds_f {now : Int} {l : List Evt} {k : Nat} (hk : k < l.length) (h : ¬ l[k].kind = 4) : adds now (l.take (k + 1)) = adds now (l.take k) := by
  unfold adds
  rw [List.take_add_one, List.getElem?_eq_getElem hk, List.filter_append, List.map_append]
  simp [h]
theorem play_idle {q : Spc} {l : List Hp} {k : Nat} {p : Pl} {y : Hp} (hk : k < l.length) (hp : play q l k = p) (hy : l[k] = y) (hi : idle q p.s y) : play q l (k + 1) = ⟨p.s, p.log, p.now + y.after⟩ := by
  rw [play_succ hk, hp, hy, pstep, if_pos hi]
theorem play_work2 {q : Spc} {l : List Hp} {k K : Nat} {p : Pl} {y : Hp} {s1 : Ss} {a1 w1 : List Evt} (hk : k < l.length) (hp : play q l k = p) (hy : l[k] = y) (hi : ¬ idle q p.s y)
    (hK : WOk q (p.now + y.after) p.s (evt q (p.now + y.after) y) K) (hx : wk q (p.now + y.after) p.s (evt q (p.now + y.after) y) K = (s1, a1, w1)) :
    play q l (k + 1) = ⟨s1, p.log ++ [(s1, a1, p.now + y.after)], p.now + y.after⟩ := by
  rw [play_succ hk, hp, hy, pstep, if_neg hi, fin_eq hK hx]
end Sv
