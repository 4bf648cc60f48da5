/- Barriers: the plain functions, and the laws of them. No condition. -/
import Derived.Test.YtoejpilhekodjaaM18
set_option linter.unusedVariables false
set_option linter.unusedSimpArgs false
namespace Br
open Wl
def new (o : Ob) : St × Int := if o.kind ≠ 5 then (S0, 8) else if (o.size < 1 ∨ 100 < o.size) ∨ o.other ≠ 0 then (S0, 2) else (N0, 0)
def fit (w : W) : Bool := decide (w.op = 63) && decide (w.value = 0) && decide (w.case_ = -1)
def bare (s : St) : St := { s with queue := [], count := 0 }
def ok (o : Ob) (s : St) : Bool := decide (bare s = N0) && (decide (0 ≤ s.count) && decide (s.count ≤ 1099511627776)) && decide ((s.queue.length : Int) < o.size) && decide (check 1 s.queue = 0) && okq fit s.queue
def chk (o : Ob) (s : St) : Int := if (new o).2 ≠ 0 then (new o).2 else if ok o s = false then 1 else 0
def waiter (c : Cl) : W := ⟨c.task, 63, 0, c.prio, -1⟩
def wk (q : List W) (k : Nat) : List Wk := (List.range k).map fun i => ⟨(q.getD i default).task, 63, i, true, -1⟩
def err (s : St) (c : Cl) : Int := if c.op ≠ 63 then 8 else if ¬ (0 ≤ c.task ∧ c.task < 16) then 2 else if ¬ (0 ≤ c.prio ∧ c.prio ≤ 9) then 2 else if findB s.queue c.task = true then 17 else 0
def parkR (s : St) (c : Cl) : Rp := ⟨{ s with queue := s.queue ++ [waiter c] }, true, 0, false, []⟩
def meetR (o : Ob) (s : St) : Rp := ⟨{ s with queue := [], count := s.count + 1 }, false, o.size - 1, true, wk s.queue s.queue.length⟩
def apply (o : Ob) (s : St) (c : Cl) : Rp × Int := if chk o s ≠ 0 then (R0, chk o s) else if err s c ≠ 0 then (R0, err s c) else if (s.queue.length : Int) + 1 < o.size then (parkR s c, 0) else if s.count = 1099511627776 then (R0, 4) else (meetR o s, 0)
def withdraw (o : Ob) (s : St) (t : Int) : Rp × Int := if chk o s ≠ 0 then (R0, chk o s) else if findB s.queue t = false then (R0, 7) else ({ R0 with state := { s with queue := remove s.queue t } }, 0)
def ready (o : Ob) (s : St) (c : Cl) : Bool := decide ((apply o s c).2 = 0) && !(apply o s c).1.parked
def missing (o : Ob) (s : St) : Int := if chk o s ≠ 0 then 0 else o.size - s.queue.length
def outP (o : Ob) (s : St) (k : Nat) : Rp := ⟨S0, false, o.size - 1, true, wk s.queue k⟩
theorem wk_succ (q : List W) (k : Nat) (h : k < q.length) : wk q k ++ [⟨q[k].task, 63, k, true, -1⟩] = wk q (k + 1) := by
  unfold wk; rw [List.range_succ, List.map_append]; simp [List.getD, h]
theorem wk_len (q : List W) (k : Nat) : (wk q k).length = k := by simp [wk]
theorem new_zero {o : Ob} (h : (new o).2 = 0) : o.kind = 5 ∧ 1 ≤ o.size ∧ o.size ≤ 100 ∧ o.other = 0 ∧ (new o).1 = N0 := by
  unfold new at h ⊢
  split
  · rename_i e; rw [if_pos e] at h; cases h
  · rename_i e; rw [if_neg e] at h
    split
    · rename_i e2; rw [if_pos e2] at h; cases h
    · exact ⟨by omega, by omega, by omega, by omega, rfl⟩
theorem bare_iff (s : St) : bare s = N0 ↔ s.owner = -1 ∧ s.time = 0 ∧ s.holders = [] ∧ s.buffer = [] ∧ s.cursors = [] ∧ s.closed = false ∧ s.value = 0 := by
  simp [bare, N0, S0]
theorem ok_parts {o : Ob} {s : St} : ok o s = true ↔ bare s = N0 ∧ (0 ≤ s.count ∧ s.count ≤ 1099511627776) ∧ (s.queue.length : Int) < o.size ∧ check 1 s.queue = 0 ∧ okq fit s.queue = true := by
  simp [ok, and_assoc]
theorem chk_zero {o : Ob} {s : St} : chk o s = 0 ↔ (new o).2 = 0 ∧ ok o s = true := by
  unfold chk
  by_cases h : (new o).2 = 0
  · rw [if_neg (by omega)]
    cases hs : ok o s <;> simp [h]
  · rw [if_pos h]; simp [h]
theorem no_bare {o : Ob} {s : St} (h : ¬ bare s = N0) : ok o s = false := by
  rw [Bool.eq_false_iff]; exact fun e => h (ok_parts.1 e).1
theorem no_cnt {o : Ob} {s : St} (h : s.count < 0 ∨ 1099511627776 < s.count) : ok o s = false := by
  rw [Bool.eq_false_iff]; intro e; have := (ok_parts.1 e).2.1; omega
theorem no_len {o : Ob} {s : St} (h : o.size ≤ s.queue.length) : ok o s = false := by
  rw [Bool.eq_false_iff]; intro e; have := (ok_parts.1 e).2.2.1; omega
theorem no_check {o : Ob} {s : St} (h : ¬ check 1 s.queue = 0) : ok o s = false := by
  rw [Bool.eq_false_iff]; exact fun e => h (ok_parts.1 e).2.2.2.1
theorem no_q {o : Ob} {s : St} {k : Nat} (hk : k < s.queue.length) (h : fit s.queue[k] = false ∨ fstB s.queue k = false) : ok o s = false := by
  rw [Bool.eq_false_iff]; intro e; have := (ok_parts.1 e).2.2.2.2; rw [okq_not hk h] at this; cases this
/-- Who is first in a part is first. -/
theorem fst_take (q : List W) (n i : Nat) (hn : n ≤ q.length) (hi : i < n) : fstB (q.take n) i = fstB q i := by
  have h1 : i < (q.take n).length := by simp; omega
  have h2 : i < q.length := by omega
  rw [Bool.eq_iff_iff, fst_iff _ _ h1, fst_iff _ _ h2]
  constructor
  · intro h j hj hji
    have := h j (by simp; omega) hji
    simpa using this
  · intro h j hj hji
    have := h j (by omega) hji
    simpa using this
theorem kp_all (l : List W) (p : Nat → Bool) : ∀ n, (∀ i, i < n → p i = true) → (kp l p n).length = n
  | 0, _ => rfl
  | n + 1, h => by
    have := kp_all l p n (fun i hi => h i (by omega))
    simp [kp, h n (by omega), this]
theorem tasks_take (q : List W) (k : Nat) (hk : k < q.length) (h : ∀ i, i < k → fstB q i = true) : (tasks (q.take (k + 1))).length = if fstB q k = true then k + 1 else k := by
  have hl : (q.take (k + 1)).length = k + 1 := by simp; omega
  unfold tasks
  rw [List.length_map, hl]
  have h1 := kp_all (q.take (k + 1)) (fstB (q.take (k + 1))) k (fun i hi => by rw [fst_take q _ _ (by omega) (by omega)]; exact h i hi)
  show (if fstB (q.take (k + 1)) k = true then _ else _ : List W).length = _
  rw [fst_take q _ _ (by omega) (by omega)]
  split
  · simp [h1]
  · exact h1
end Br
namespace Br
open Wl
theorem fst_find (q : List W) (k : Nat) (hk : k < q.length) : fstB q k = !findB (q.take k) q[k].task := by
  rw [Bool.eq_iff_iff, fst_iff q k hk]
  simp only [Bool.not_eq_true', findB_false]
  constructor
  · intro h w hw
    obtain ⟨i, hi, rfl⟩ := List.getElem_of_mem hw
    simp at hi
    simpa using h i (by omega) (by omega)
  · intro h i hi hik
    exact h q[i] (List.mem_take_iff_getElem.2 ⟨i, by omega, rfl⟩)
end Br
namespace Br
open Wl
theorem good_iff {w : W} : (fit w = true ∧ valid w = true) ↔ w.op = 63 ∧ w.value = 0 ∧ w.case_ = -1 ∧ 0 ≤ w.task ∧ w.task < 16 ∧ 0 ≤ w.prio ∧ w.prio ≤ 9 := by
  simp [fit, valid]; omega
theorem no_ref {o : Ob} {s : St} {k : Nat} (hk : k < s.queue.length) (h : ¬ ((fit s.queue[k] = true ∧ valid s.queue[k] = true) ∧ fstB s.queue k = true)) : ok o s = false := by
  rw [Bool.eq_false_iff]; intro e
  obtain ⟨_, _, _, h4, h5⟩ := ok_parts.1 e
  exact h ⟨⟨okq_all h5 _ (List.getElem_mem hk), ((check_fifo _).1 h4).2 _ (List.getElem_mem hk)⟩, (fst_nodup _).1 (okq_nd h5) k hk⟩
theorem same_bare {s : St} : s = ⟨-1, s.count, 0, [], s.queue, [], [], false, 0⟩ ↔ bare s = N0 := by
  cases s; simp [bare, N0, S0]
theorem yes_ref {o : Ob} {s : St} (h1 : bare s = N0) (h2 : 0 ≤ s.count ∧ s.count ≤ 1099511627776) (h3 : (s.queue.length : Int) < o.size) (h4 : ∀ i (h : i < s.queue.length), (fit s.queue[i] = true ∧ valid s.queue[i] = true) ∧ fstB s.queue i = true) : ok o s = true := by
  have hq : okq fit s.queue = true := okq_of fun i hi => ⟨(h4 i hi).1.1, (h4 i hi).2⟩
  have hv : ∀ w ∈ s.queue, valid w = true := fun w hw => by
    obtain ⟨i, hi, rfl⟩ := List.getElem_of_mem hw
    exact (h4 i hi).1.2
  exact ok_parts.2 ⟨h1, h2, h3, (check_fifo _).2 ⟨by have := okq_len hq hv; omega, hv⟩, hq⟩
theorem meet_state {s : St} (h : bare s = N0) : ({ s with queue := [], count := s.count + 1 } : St) = ⟨-1, s.count + 1, 0, [], [], [], [], false, 0⟩ := by
  obtain ⟨a1, a2, a3, a4, a5, a6, a7⟩ := (bare_iff s).1 h
  simp [a1, a2, a3, a4, a5, a6, a7]
theorem new_sm (o : Ob) {n : Nat} : smN n (new o).1 := by
  unfold new
  split
  · exact smN_S0
  · split
    · exact smN_S0
    · exact ⟨Nat.zero_le _, Nat.zero_le _, Nat.zero_le _, Nat.zero_le _, fun c hc => by simp [N0, S0] at hc⟩
theorem apply_sm {o : Ob} {s : St} {c : Cl} {n : Nat} (h : smN n s) : smN (n + 1) (apply o s c).1.state ∧ (apply o s c).1.woken.length ≤ n := by
  have h0 : smN (n + 1) R0.state ∧ R0.woken.length ≤ n := ⟨smN_S0, Nat.zero_le _⟩
  unfold apply
  split
  · exact h0
  · split
    · exact h0
    · split
      · exact ⟨(h.le (Nat.le_succ n)).withQ (by have := h.q; simp; omega), Nat.zero_le _⟩
      · split
        · exact h0
        · exact ⟨⟨Nat.le_succ_of_le h.h, Nat.zero_le _, Nat.le_succ_of_le h.b, Nat.le_succ_of_le h.c, fun c hc => Nat.le_succ_of_le (h.d c hc)⟩, by have := h.q; simp [meetR, wk_len]; omega⟩
theorem withdraw_sm {o : Ob} {s : St} {t : Int} {n : Nat} (h : smN n s) : smN n (withdraw o s t).1.state ∧ (withdraw o s t).1.woken.length ≤ 0 := by
  unfold withdraw
  split
  · exact ⟨smN_S0, Nat.zero_le _⟩
  · split
    · exact ⟨smN_S0, Nat.zero_le _⟩
    · exact ⟨h.withQ (by have := remove_len s.queue t; have := h.q; omega), Nat.zero_le _⟩
instance {o : Ob} : Sm (new o).1 0 := ⟨new_sm o⟩
instance {o : Ob} {s : St} {c : Cl} {n : Nat} [h : Sm s n] : Sm (apply o s c).1.state (n + 1) := ⟨(apply_sm h.sm).1⟩
instance {o : Ob} {s : St} {t : Int} {n : Nat} [h : Sm s n] : Sm (withdraw o s t).1.state n := ⟨(withdraw_sm h.sm).1⟩
theorem apply_wl {o : Ob} {s : St} {c : Cl} {n m : Nat} [h : Sm s n] (k : n ≤ m) : (apply o s c).1.woken.length ≤ m := Nat.le_trans (apply_sm h.sm).2 k
theorem withdraw_wl {o : Ob} {s : St} {t : Int} {n m : Nat} [h : Sm s n] : (withdraw o s t).1.woken.length ≤ m := Nat.le_trans (withdraw_sm h.sm).2 (Nat.zero_le _)
end Br
namespace Br
open Wl
/-! ### Laws -/
theorem ok_iff {o : Ob} {s : St} : ok o s = true ↔ bare s = N0 ∧ (0 ≤ s.count ∧ s.count ≤ 1099511627776) ∧ (s.queue.length : Int) < o.size ∧ (∀ w ∈ s.queue, valid w = true) ∧ okq fit s.queue = true := by
  rw [ok_parts]
  constructor
  · rintro ⟨h1, h2, h3, h4, h5⟩; exact ⟨h1, h2, h3, ((check_fifo _).1 h4).2, h5⟩
  · rintro ⟨h1, h2, h3, h4, h5⟩; exact ⟨h1, h2, h3, (check_fifo _).2 ⟨by have := okq_len h5 h4; omega, h4⟩, h5⟩
theorem err_zero {s : St} {c : Cl} (h : err s c = 0) : c.op = 63 ∧ (0 ≤ c.task ∧ c.task < 16) ∧ (0 ≤ c.prio ∧ c.prio ≤ 9) ∧ findB s.queue c.task = false := by
  unfold err at h
  split at h
  · cases h
  · split at h
    · cases h
    · split at h
      · cases h
      · split at h
        · cases h
        · rename_i h1 h2 h3 h4
          exact ⟨by omega, by omega, by omega, by simpa using h4⟩
theorem apply_zero {o : Ob} {s : St} {c : Cl} (h : (apply o s c).2 = 0) : chk o s = 0 ∧ err s c = 0 ∧ (((s.queue.length : Int) + 1 < o.size ∧ (apply o s c).1 = parkR s c) ∨ (¬ (s.queue.length : Int) + 1 < o.size ∧ s.count ≠ 1099511627776 ∧ (apply o s c).1 = meetR o s)) := by
  unfold apply at h ⊢
  split
  · rename_i e; rw [if_pos e] at h; exact absurd h e
  · rename_i e; rw [if_neg e] at h
    split
    · rename_i e2; rw [if_pos e2] at h; exact absurd h e2
    · rename_i e2; rw [if_neg e2] at h
      split
      · rename_i e3; exact ⟨by omega, by omega, .inl ⟨e3, rfl⟩⟩
      · rename_i e3; rw [if_neg e3] at h
        split
        · rename_i e4; rw [if_pos e4] at h; cases h
        · rename_i e4; exact ⟨by omega, by omega, .inr ⟨e3, e4, rfl⟩⟩
theorem withdraw_zero {o : Ob} {s : St} {t : Int} (h : (withdraw o s t).2 = 0) : chk o s = 0 ∧ findB s.queue t = true ∧ (withdraw o s t).1 = { R0 with state := { s with queue := remove s.queue t } } := by
  unfold withdraw at h ⊢
  split
  · rename_i e; rw [if_pos e] at h; exact absurd h e
  · rename_i e; rw [if_neg e] at h
    split
    · rename_i e2; rw [if_pos e2] at h; cases h
    · rename_i e2; exact ⟨by omega, by simpa using e2, rfl⟩
theorem waiter_valid {c : Cl} (ht : 0 ≤ c.task ∧ c.task < 16) (hp : 0 ≤ c.prio ∧ c.prio ≤ 9) : valid (waiter c) = true := (good_iff.2 ⟨rfl, rfl, rfl, ht.1, ht.2, hp.1, hp.2⟩).2
theorem chk_apply {o : Ob} {s : St} {c : Cl} (h : (apply o s c).2 = 0) : chk o (apply o s c).1.state = 0 := by
  obtain ⟨h1, h2, h3⟩ := apply_zero h
  obtain ⟨k1, k2⟩ := chk_zero.1 h1
  obtain ⟨z1, z2, z3, z4, _⟩ := new_zero k1
  obtain ⟨p1, p2, p3, p4, p5⟩ := ok_iff.1 k2
  obtain ⟨e1, e2, e3, e4⟩ := err_zero h2
  refine chk_zero.2 ⟨k1, ?_⟩
  rcases h3 with ⟨a, b⟩ | ⟨a, b, d⟩
  · rw [b, ok_iff]
    refine ⟨p1, p2, by show (((s.queue ++ [waiter c]).length : Nat) : Int) < o.size; simp; omega, fun w hw => ?_, okq_push p5 (by simp [fit, waiter]) e4⟩
    rcases List.mem_append.1 hw with hw | hw
    · exact p4 w hw
    · rw [List.mem_singleton.1 hw]; exact waiter_valid e2 e3
  · rw [d, ok_iff]
    exact ⟨p1, ⟨by show 0 ≤ s.count + 1; omega, by show s.count + 1 ≤ _; omega⟩, by show ((0 : Nat) : Int) < o.size; omega, by simp [meetR], by simp [meetR, okq]⟩
theorem chk_withdraw {o : Ob} {s : St} {t : Int} (h : (withdraw o s t).2 = 0) : chk o (withdraw o s t).1.state = 0 := by
  obtain ⟨h1, h2, h3⟩ := withdraw_zero h
  obtain ⟨k1, k2⟩ := chk_zero.1 h1
  obtain ⟨p1, p2, p3, p4, p5⟩ := ok_iff.1 k2
  refine chk_zero.2 ⟨k1, ?_⟩
  rw [h3, ok_iff]
  have := remove_len s.queue t
  exact ⟨p1, p2, by show ((remove s.queue t).length : Int) < o.size; omega, fun w hw => p4 w (List.mem_filter.1 hw).1, okq_sub p5 List.filter_sublist⟩
theorem chk_new {o : Ob} (h : (new o).2 = 0) : chk o (new o).1 = 0 := by
  obtain ⟨z1, z2, z3, z4, z5⟩ := new_zero h
  refine chk_zero.2 ⟨h, ?_⟩
  rw [z5, ok_iff]
  exact ⟨rfl, by decide, by show ((0 : Nat) : Int) < o.size; omega, by simp [N0, S0], by simp [N0, S0, okq]⟩
theorem ready_law {o : Ob} {s : St} {c : Cl} : ready o s c = (decide ((apply o s c).2 = 0) && decide (missing o s = 1)) := by
  unfold ready
  by_cases h : (apply o s c).2 = 0
  · obtain ⟨h1, h2, h3⟩ := apply_zero h
    obtain ⟨k1, k2⟩ := chk_zero.1 h1
    obtain ⟨p1, p2, p3, p4, p5⟩ := ok_iff.1 k2
    have hm : missing o s = o.size - s.queue.length := by rw [missing, if_neg (by omega)]
    rw [hm]
    rcases h3 with ⟨a, b⟩ | ⟨a, b, d⟩
    · rw [b]; simp [h, parkR]; omega
    · rw [d]; simp [h, meetR]; omega
  · simp [h]
end Br
