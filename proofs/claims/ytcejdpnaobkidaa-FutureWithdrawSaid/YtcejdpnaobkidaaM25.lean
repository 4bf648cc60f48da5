/- Futures: the plain functions, and the laws of them. No condition. -/
import Derived.Test.YtcejdpnaobkidaaM18
set_option linter.unusedVariables false
set_option linter.unusedSimpArgs false
namespace Fu
open Wl
def new (o : Ob) : St × Int := if o.kind ≠ 9 then (S0, 8) else if o.size ≠ 0 ∨ o.other ≠ 0 then (S0, 2) else (N0, 0)
def fit (w : W) : Bool := decide (w.op = 74) && decide (w.value = 0) && decide (w.case_ = -1)
def number (n : Int) : Bool := decide (-1099511627776 ≤ n) && decide (n ≤ 1099511627776)
def bare (s : St) : St := { s with queue := [], closed := false, value := 0 }
def ok (s : St) : Bool := decide (bare s = N0) && number s.value && (decide (check 1 s.queue = 0) && okq fit s.queue) && (if s.closed = true then decide (s.queue = []) else decide (s.value = 0))
def chk (o : Ob) (s : St) : Int := if (new o).2 ≠ 0 then (new o).2 else if ok s = false then 1 else 0
def waiter (c : Cl) : W := ⟨c.task, 74, 0, c.prio, -1⟩
def done (s : St) (v : Int) : Rp := ⟨{ s with closed := true, value := v, queue := [] }, false, 0, true, s.queue.map (fun w => ⟨w.task, w.op, v, true, -1⟩)⟩
def awaited (s : St) (c : Cl) : Rp := if s.closed = true then ⟨s, false, s.value, true, []⟩ else ⟨{ s with queue := s.queue ++ [waiter c] }, true, 0, false, []⟩
def err (o : Ob) (s : St) (c : Cl) : Int := if chk o s ≠ 0 then 1 else if validC c = false then 2 else if ¬ (c.op = 73 ∨ c.op = 74) then 8 else if c.op = 73 ∧ number c.value = false then 2 else if findB s.queue c.task = true ∨ (c.op = 73 ∧ s.closed = true) then 17 else 0
def apply (o : Ob) (s : St) (c : Cl) : Rp × Int := if err o s c ≠ 0 then (R0, err o s c) else (if c.op = 73 then done s c.value else awaited s c, 0)
def withdraw (o : Ob) (s : St) (t : Int) : Rp × Int := if chk o s ≠ 0 then (R0, 1) else if findB s.queue t = false then (R0, 7) else ({ R0 with state := { s with queue := remove s.queue t } }, 0)
def ready (o : Ob) (s : St) (c : Cl) : Bool := decide ((apply o s c).2 = 0) && !(apply o s c).1.parked
def value (s : St) : Int × Bool := if s.closed = true then (s.value, true) else (0, false)
theorem ok_iff {s : St} : ok s = true ↔ bare s = N0 ∧ number s.value = true ∧ (∀ w ∈ s.queue, valid w = true) ∧ okq fit s.queue = true ∧ (if s.closed = true then s.queue = [] else s.value = 0) := by
  simp only [ok, Bool.and_eq_true, decide_eq_true_eq]
  constructor
  · rintro ⟨⟨⟨h1, h2⟩, h3, h4⟩, h5⟩
    refine ⟨h1, h2, ((check_fifo _).1 h3).2, h4, ?_⟩
    cases hc : s.closed <;> simp [hc] at h5 ⊢ <;> exact h5
  · rintro ⟨h1, h2, h3, h4, h5⟩
    refine ⟨⟨⟨h1, h2⟩, (check_fifo _).2 ⟨by have := okq_len h4 h3; omega, h3⟩, h4⟩, ?_⟩
    cases hc : s.closed <;> simp [hc] at h5 ⊢ <;> exact h5
theorem ok_len {s : St} (h : ok s = true) : s.queue.length ≤ 16 := by
  obtain ⟨_, _, h3, h4, _⟩ := ok_iff.1 h; exact okq_len h4 h3
theorem chk_zero {o : Ob} {s : St} : chk o s = 0 ↔ (new o).2 = 0 ∧ ok s = true := by
  unfold chk
  by_cases h : (new o).2 = 0
  · rw [if_neg (by omega)]
    cases hs : ok s <;> simp [h]
  · rw [if_pos h]; simp [h]
theorem new_sm (o : Ob) {n : Nat} : smN n (new o).1 := by
  unfold new
  split
  · exact smN_S0
  · split
    · exact smN_S0
    · exact ⟨Nat.zero_le _, Nat.zero_le _, Nat.zero_le _, Nat.zero_le _, fun c hc => by simp [N0, S0] at hc⟩
theorem apply_sm {o : Ob} {s : St} {c : Cl} {n : Nat} (h : smN n s) : smN (n + 1) (apply o s c).1.state ∧ (apply o s c).1.woken.length ≤ n := by
  unfold apply
  split
  · exact ⟨smN_S0, Nat.zero_le _⟩
  · split
    · exact ⟨⟨Nat.le_succ_of_le h.h, Nat.zero_le _, Nat.le_succ_of_le h.b, Nat.le_succ_of_le h.c, fun c hc => Nat.le_succ_of_le (h.d c hc)⟩, by have := h.q; simp [done]; omega⟩
    · unfold awaited
      split
      · exact ⟨h.le (Nat.le_succ n), Nat.zero_le _⟩
      · exact ⟨(h.le (Nat.le_succ n)).withQ (by have := h.q; simp; omega), Nat.zero_le _⟩
theorem withdraw_sm {o : Ob} {s : St} {t : Int} {n : Nat} (h : smN n s) : smN n (withdraw o s t).1.state ∧ (withdraw o s t).1.woken.length ≤ 0 := by
  unfold withdraw
  split
  · exact ⟨smN_S0, Nat.zero_le _⟩
  · split
    · exact ⟨smN_S0, Nat.zero_le _⟩
    · exact ⟨h.withQ (by have := remove_len s.queue t; have := h.q; omega), Nat.zero_le _⟩
instance {o : Ob} : Sm (new o).1 0 := ⟨new_sm o⟩
instance {o : Ob} {s : St} {c : Cl} {n : Nat} [h : Sm s n] : Sm (apply o s c).1.state (n + 1) := ⟨(apply_sm h.sm).1⟩
instance {o : Ob} {s : St} {t : Int} {n : Nat} [h : Sm s n] : Sm (withdraw o s t).1.state n := ⟨(withdraw_sm h.sm).1⟩
theorem apply_wl {o : Ob} {s : St} {c : Cl} {n m : Nat} [h : Sm s n] (k : n ≤ m) : (apply o s c).1.woken.length ≤ m := Nat.le_trans (apply_sm h.sm).2 k
theorem withdraw_wl {o : Ob} {s : St} {t : Int} {n m : Nat} [h : Sm s n] : (withdraw o s t).1.woken.length ≤ m := Nat.le_trans (withdraw_sm h.sm).2 (Nat.zero_le _)
/-! ### Steps of the loops -/
theorem done_step (q : List W) (v : Int) (k : Nat) (h : k < q.length) : (q.take k).map (fun w => (⟨w.task, w.op, v, true, -1⟩ : Wk)) ++ [⟨q[k].task, q[k].op, v, true, -1⟩] = (q.take (k + 1)).map (fun w => ⟨w.task, w.op, v, true, -1⟩) := by
  rw [List.take_succ_eq_append_getElem h, List.map_append]; rfl
theorem doneR_step (q : List W) (v : Int) (k : Nat) (h : k < q.length) : (q.take k).map (fun w => (⟨w.task, 74, v, true, -1⟩ : Wk)) ++ [⟨q[k].task, 74, v, true, -1⟩] = (q.take (k + 1)).map (fun w => ⟨w.task, 74, v, true, -1⟩) := by
  rw [List.take_succ_eq_append_getElem h, List.map_append]; rfl
theorem done_op {s : St} {v : Int} (h : okq fit s.queue = true) : s.queue.map (fun w => (⟨w.task, 74, v, true, -1⟩ : Wk)) = s.queue.map (fun w => ⟨w.task, w.op, v, true, -1⟩) := by
  refine List.map_congr_left fun w hw => ?_
  have := okq_all h w hw
  simp only [fit, Bool.and_eq_true, decide_eq_true_eq] at this
  rw [this.1.1]
def plain (s : St) : Bool := decide (bare s = N0)
theorem plain_of {s : St} (h : ((((s.owner = -1 ∧ s.count = 0) ∧ s.time = 0) ∧ s.holders.length = 0) ∧ s.buffer.length = 0) ∧ s.cursors.length = 0) : bare s = N0 := by
  obtain ⟨⟨⟨⟨⟨h1, h2⟩, h3⟩, h4⟩, h5⟩, h6⟩ := h
  simp [bare, N0, S0, h1, h2, h3, List.eq_nil_of_length_eq_zero h4, List.eq_nil_of_length_eq_zero h5, List.eq_nil_of_length_eq_zero h6]
theorem of_plain {s : St} (h : bare s = N0) : ((((s.owner = -1 ∧ s.count = 0) ∧ s.time = 0) ∧ s.holders.length = 0) ∧ s.buffer.length = 0) ∧ s.cursors.length = 0 := by
  simp only [bare, N0, S0, St.mk.injEq] at h
  simp [h]
theorem plain_iff (s : St) : plain s = true ↔ ((((s.owner = -1 ∧ s.count = 0) ∧ s.time = 0) ∧ s.holders.length = 0) ∧ s.buffer.length = 0) ∧ s.cursors.length = 0 := by
  unfold plain; rw [decide_eq_true_iff]; exact ⟨of_plain, plain_of⟩
def queued (s : St) : Bool := decide (check 1 s.queue = 0) && okq fit s.queue
theorem ok_eq (s : St) : ok s = (plain s && number s.value && queued s && (if s.closed = true then decide (s.queue = []) else decide (s.value = 0))) := rfl
theorem fst_of_ne {q : List W} {k : Nat} (hk : k < q.length) (h : ∀ i (h : i < q.length), i < k → q[i].task ≠ q[k].task) : fstB q k = true := (fst_iff q k hk).2 h
theorem fst_not {q : List W} {k i : Nat} (hk : k < q.length) (hi : i < k) (h : q[i].task = q[k].task) : fstB q k = false := by
  rw [Bool.eq_false_iff]; intro e
  exact (fst_iff q k hk).1 e i (by omega) hi h
theorem ok_parts {s : St} : ok s = true ↔ bare s = N0 ∧ (((number s.value = true ∧ (s.closed = true ∨ s.value = 0)) ∧ (s.closed = false ∨ s.queue.length = 0)) ∧ check 1 s.queue = 0) ∧ okq fit s.queue = true := by
  simp only [ok, Bool.and_eq_true, decide_eq_true_eq]
  cases hc : s.closed <;> simp [and_assoc] <;> intro _ _ <;> constructor <;> (rintro ⟨h1, h2, h3⟩) <;> simp_all
theorem no_plain {s : St} (h : ¬ (((((s.owner = -1 ∧ s.count = 0) ∧ s.time = 0) ∧ s.holders.length = 0) ∧ s.buffer.length = 0) ∧ s.cursors.length = 0)) : ok s = false := by
  rw [Bool.eq_false_iff]; exact fun e => h (of_plain (ok_parts.1 e).1)
theorem no_state {s : St} (h : ¬ (((number s.value = true ∧ (s.closed = true ∨ s.value = 0)) ∧ (s.closed = false ∨ s.queue.length = 0)) ∧ check 1 s.queue = 0)) : ok s = false := by
  rw [Bool.eq_false_iff]; exact fun e => h (ok_parts.1 e).2.1
theorem no_queue {s : St} {k : Nat} (hk : k < s.queue.length) (h : fit s.queue[k] = false ∨ fstB s.queue k = false) : ok s = false := by
  rw [Bool.eq_false_iff]; intro e
  have := (ok_parts.1 e).2.2
  rw [okq_not hk h] at this; cases this
theorem yes_ok {s : St} (h1 : ((((s.owner = -1 ∧ s.count = 0) ∧ s.time = 0) ∧ s.holders.length = 0) ∧ s.buffer.length = 0) ∧ s.cursors.length = 0) (h2 : ((number s.value = true ∧ (s.closed = true ∨ s.value = 0)) ∧ (s.closed = false ∨ s.queue.length = 0)) ∧ check 1 s.queue = 0)
    (h3 : ∀ i (h : i < s.queue.length), fit s.queue[i] = true ∧ fstB s.queue i = true) : ok s = true := ok_parts.2 ⟨plain_of h1, h2, okq_of h3⟩
theorem err_zero {o : Ob} {s : St} {c : Cl} (h : err o s c = 0) : ok s = true ∧ (c.op = 73 ∨ c.op = 74) ∧ chk o s = 0 ∧ validC c = true ∧ (c.op = 73 → number c.value = true) ∧ findB s.queue c.task = false ∧ (c.op = 73 → s.closed = false) := by
  unfold err at h
  split at h
  · cases h
  · rename_i h1; split at h
    · cases h
    · rename_i h2; split at h
      · cases h
      · rename_i h3; split at h
        · cases h
        · rename_i h4; split at h
          · cases h
          · rename_i h5
            have hk : chk o s = 0 := by omega
            refine ⟨(chk_zero.1 hk).2, by omega, hk, by simpa using h2, fun e => ?_, ?_, fun e => ?_⟩
            · cases hn : number c.value
              · exact absurd ⟨e, hn⟩ h4
              · rfl
            · cases hn : findB s.queue c.task
              · rfl
              · exact absurd (.inl hn) h5
            · cases hn : s.closed
              · rfl
              · exact absurd (.inr ⟨e, hn⟩) h5
def obj : Ob := ⟨⟨#[102]⟩, 9, 0, 0⟩
def doneP (s : St) (y : Int) (k : Nat) : Rp := ⟨S0, false, 0, true, (s.queue.take k).map (fun w => ⟨w.task, 74, y, true, -1⟩)⟩
theorem doneP_step (s : St) (y : Int) (k : Nat) (h : k < s.queue.length) : (doneP s y k).woken ++ [⟨s.queue[k].task, 74, y, true, -1⟩] = (doneP s y (k + 1)).woken := doneR_step s.queue y k h
theorem doneP_len (s : St) (y : Int) (k : Nat) : (doneP s y k).woken.length ≤ s.queue.length := by simp [doneP]; omega
end Fu
