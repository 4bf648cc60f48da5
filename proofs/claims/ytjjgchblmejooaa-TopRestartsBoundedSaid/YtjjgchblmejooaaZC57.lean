/- Supervisors: what happens to a supervisor. No condition. -/
import Derived.Test.YtjjgchblmejooaaZB57
set_option linter.unusedVariables false
set_option linter.unusedSimpArgs false
namespace Sv
abbrev Wk := Ss × List Evt × List Evt
def wstep (q : Spc) (now : Int) : Wk → Wk
  | (s, acts, []) => (s, acts, [])
  | (s, acts, e :: w) => ((handle q s e).1, acts ++ (handle q s e).2.1, w ++ adds now (handle q s e).2.1)
def wk (q : Spc) (now : Int) (s : Ss) (v : Evt) : Nat → Wk
  | 0 => (s, [], [v])
  | k + 1 => wstep q now (wk q now s v k)
theorem wk_stay {q : Spc} {now : Int} {s : Ss} {v : Evt} {k : Nat} (h : (wk q now s v k).2.2 = []) : ∀ j, wk q now s v (k + j) = wk q now s v k
  | 0 => rfl
  | j + 1 => by
    show wstep q now (wk q now s v (k + j)) = _
    rw [wk_stay h j]
    match hx : wk q now s v k, h with
    | (s', a, []), _ => rfl
/-- What a state has to be like where an event is handled. -/
structure Hb (q : Spc) (s : Ss) : Prop where
  sl : s.children.length ≤ 1000
  rl : s.restarts.length ≤ 1000
  tr : ∀ t ∈ s.restarts, 0 ≤ t ∧ t ≤ 1099511627776
theorem Ok.hb {q : Spc} {s : Ss} {now b : Int} (h : Ok q s now b) (hc : Cok q) (hn : now ≤ 1099511627776) : Hb q s := by
  have h1 := hc.len
  have h2 := hc.int
  have h3 := h.rs.2.2.2
  exact ⟨by rw [h.len]; omega, by omega, fun t ht => ⟨(h.rs.1 t ht).1, Int.le_trans (h.rs.1 t ht).2 hn⟩⟩
structure WOk (q : Spc) (now : Int) (s : Ss) (v : Evt) (K : Nat) : Prop where
  go : ∀ i, i < K → (∃ e w, (wk q now s v i).2.2 = e :: w ∧ (handle q (wk q now s v i).1 e).2.2 = 0 ∧ (handle q (wk q now s v i).1 e).2.1.length ≤ 33) ∧ Hb q (wk q now s v i).1
  stop : (wk q now s v K).2.2 = []
  bd : ∀ i, i ≤ K → (wk q now s v i).2.1.length ≤ 40 * i ∧ (wk q now s v i).2.2.length ≤ 40
  le : K ≤ 34
theorem adds_len (t : Int) (l : List Evt) : (adds t l).length ≤ l.length := by
  unfold adds
  rw [List.length_map]
  exact List.length_filter_le _ _
theorem mid_run {q : Spc} {s0 : Ss} {v : Evt} {now b : Int} (hc : chk q = 0) (hn : 0 ≤ now ∧ now ≤ 1099511627776) (hb : b + 1 ≤ 1099511627776) : ∀ (w : List Evt) (i : Nat) (s : Ss) (acts : List Evt), wk q now s0 v i = (s, acts, w) → Mid q s0 now b s acts w → w.length ≤ 33 → acts.length ≤ 40 * i →
    (∀ j, j < w.length → (∃ e r, (wk q now s0 v (i + j)).2.2 = e :: r ∧ (handle q (wk q now s0 v (i + j)).1 e).2.2 = 0 ∧ (handle q (wk q now s0 v (i + j)).1 e).2.1.length ≤ 33) ∧ Hb q (wk q now s0 v (i + j)).1) ∧ (wk q now s0 v (i + w.length)).2.2 = [] ∧
    (∀ j, j ≤ w.length → (wk q now s0 v (i + j)).2.1.length ≤ 40 * (i + j) ∧ (wk q now s0 v (i + j)).2.2.length ≤ 40) ∧ Mid q s0 now b (wk q now s0 v (i + w.length)).1 (wk q now s0 v (i + w.length)).2.1 []
  | [], i, s, acts, hw, hm, hl, ha => by
    refine ⟨fun j hj => absurd hj (Nat.not_lt_zero _), by show (wk q now s0 v i).2.2 = []; rw [hw], fun j hj => ?_, by show Mid q s0 now b (wk q now s0 v i).1 (wk q now s0 v i).2.1 []; rw [hw]; exact hm⟩
    obtain rfl : j = 0 := Nat.le_zero.1 hj
    rw [Nat.add_zero, hw]
    exact ⟨ha, by simp⟩
  | e :: w, i, s, acts, hw, hm, hl, ha => by
    obtain ⟨h1, h2, h3, h4⟩ := mid_step hm hc hn hb
    have hq := (chk_ok hc).len
    rw [List.length_cons] at hl
    have hw2 : wk q now s0 v (i + 1) = ((handle q s e).1, acts ++ (handle q s e).2.1, w) := by
      show wstep q now (wk q now s0 v i) = _
      rw [hw]
      show (_, _, w ++ adds now (handle q s e).2.1) = _
      rw [h2, List.append_nil]
    obtain ⟨i1, i2, i3, i4⟩ := mid_run hc hn hb w (i + 1) _ _ hw2 h3 (by omega) (by rw [List.length_append]; omega)
    have hadd : ∀ j, i + (j + 1) = i + 1 + j := fun j => by omega
    refine ⟨fun j hj => ?_, by rw [List.length_cons, hadd]; exact i2, fun j hj => ?_, by rw [List.length_cons, hadd]; exact i4⟩
    · cases j with
      | zero =>
        rw [Nat.add_zero, hw]
        exact ⟨⟨e, w, rfl, h1, by dsimp only; omega⟩, hm.ok.hb (chk_ok hc) hn.2⟩
      | succ j => rw [hadd]; exact i1 j (by rw [List.length_cons] at hj; omega)
    · cases j with
      | zero =>
        rw [Nat.add_zero, hw]
        exact ⟨ha, by rw [List.length_cons]; omega⟩
      | succ j => rw [hadd]; exact i3 j (by rw [List.length_cons] at hj; omega)
theorem work_ok {q : Spc} {s : Ss} {v : Evt} {now b : Int} (h : Ok q s now b) (hs : s.status = 1) (hc : chk q = 0) (hn : 0 ≤ now ∧ now ≤ 1099511627776) (hb : b + 1 ≤ 1099511627776)
    (hv : v = ⟨2, -1, 0, now⟩ ∨ ∃ c r, v = ⟨1, c, r, now⟩ ∧ isReason r = true ∧ 0 ≤ c ∧ sa s.children c.toNat = 1) :
    ∃ K, WOk q now s v K ∧ Mid q s now b (wk q now s v K).1 (wk q now s v K).2.1 [] := by
  have hq := (chk_ok hc).len
  have hf : (handle q s v).2.2 = 0 ∧ Mid q s now b (handle q s v).1 (handle q s v).2.1 (adds now (handle q s v).2.1) ∧ (handle q s v).2.1.length ≤ 2 * q.children.length + 1 := by
    rcases hv with rfl | ⟨c, r, rfl, h1, h2, h3⟩
    · exact first_stop h hs hc hn (by omega)
    · exact first_exit h hs hc hn (by omega) h1 h2 h3
  obtain ⟨f1, f2, f3⟩ := hf
  have hal := adds_len now (handle q s v).2.1
  have hw1 : wk q now s v 1 = ((handle q s v).1, (handle q s v).2.1, adds now (handle q s v).2.1) := rfl
  obtain ⟨i1, i2, i3, i4⟩ := mid_run hc hn hb _ 1 _ _ hw1 f2 (by omega) (by omega)
  refine ⟨1 + (adds now (handle q s v).2.1).length, ⟨fun i hi => ?_, i2, fun i hi => ?_, by omega⟩, i4⟩
  · cases i with
    | zero => exact ⟨⟨v, [], rfl, f1, by show (handle q s v).2.1.length ≤ 33; omega⟩, h.hb (chk_ok hc) hn.2⟩
    | succ i => rw [Nat.add_comm i 1]; exact i1 i (by omega)
  · cases i with
    | zero => exact ⟨by simp [wk], by simp [wk]⟩
    | succ i => rw [Nat.add_comm i 1]; exact i3 i (by omega)
theorem Mid.settled {q : Spc} {s0 s : Ss} {now b : Int} {acts : List Evt} (h : Mid q s0 now b s acts []) : s.status = 1 ∨ s.status = 4 := by
  obtain ⟨L, hL, _, hm⟩ := h.queue
  have hL0 : L = [] := List.map_eq_nil_iff.1 hL.symm
  subst hL0
  have hno : ∀ m : Nat, sa s.children m ≠ 2 := fun m e => by
    have := (hm (m : Int)).2 ⟨by omega, e⟩
    cases this
  have h1 := h.ok.cs
  have h2 : s.status ≠ 2 := fun e => by
    obtain ⟨_, ⟨m, k⟩, _⟩ := h.ok.c2 e
    exact hno m k
  have h3 : s.status ≠ 3 := fun e => by
    obtain ⟨⟨m, k⟩, _⟩ := h.ok.c3 e
    exact hno m k
  omega
end Sv
