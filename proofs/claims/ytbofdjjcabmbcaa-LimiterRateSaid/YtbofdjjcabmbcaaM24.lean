/- Limiters: the plain functions, and the laws of them. No condition. -/
import Derived.Test.YtbofdjjcabmbcaaM20
set_option linter.unusedVariables false
set_option linter.unusedSimpArgs false
namespace Lm
open Wl
def new (o : Ob) : St × Int := if o.kind ≠ 8 then (S0, 8) else if ((o.size < 1 ∨ 100 < o.size) ∨ o.other < 1) ∨ 1099511627776 < o.other then (S0, 2) else ({ N0 with count := o.size }, 0)
def fit (o : Ob) (w : W) : Bool := decide (w.op = 72) && (decide (1 ≤ w.value) && decide (w.value ≤ o.size)) && decide (w.case_ = -1)
def bare (s : St) : St := { s with queue := [], count := 0, time := 0 }
def ok (o : Ob) (s : St) : Bool := decide (bare s = N0) && (decide (0 ≤ s.count) && decide (s.count ≤ o.size)) && (decide (0 ≤ s.time) && decide (s.time ≤ 1099511627776)) && decide (check 1 s.queue = 0) && okq (fit o) s.queue
def chk (o : Ob) (s : St) : Int := if (new o).2 ≠ 0 then (new o).2 else if ok o s = false then 1 else 0
def refill (o : Ob) (s : St) (now : Int) : St := if o.size ≤ s.count + (now - s.time).tdiv o.other then { s with count := o.size, time := now } else { s with count := s.count + (now - s.time).tdiv o.other, time := s.time + (now - s.time).tdiv o.other * o.other }
/-- The tokens behind k waiters. -/
def cnt (c : Int) (q : List W) : Nat → Int
  | 0 => c
  | k + 1 => cnt c q k - (q.getD k default).value
/-- How many waiters are served. -/
def nsv : Int → List W → Nat
  | _, [] => 0
  | c, w :: q => if w.value ≤ c then nsv (c - w.value) q + 1 else 0
def serveS (s : St) (k : Nat) : St := { s with count := cnt s.count s.queue k, queue := s.queue.drop k }
def nS (s : St) : Nat := nsv s.count s.queue
def wk (q : List W) (k : Nat) : List Wk := (q.take k).map fun w => ⟨w.task, 72, 0, true, -1⟩
def waiter (c : Cl) : W := ⟨c.task, 72, c.value, c.prio, -1⟩
def err (o : Ob) (s : St) (c : Cl) : Int := if c.op ≠ 72 ∧ c.op ≠ 75 then 8 else if c.now < s.time ∨ 1099511627776 < c.now then 2 else if c.op = 75 then 0 else if ¬ (((0 ≤ c.task ∧ c.task < 16) ∧ (0 ≤ c.prio ∧ c.prio ≤ 9)) ∧ (1 ≤ c.value ∧ c.value ≤ o.size)) then 2 else if findB s.queue c.task = true then 17 else 0
def doR (s : St) (c : Cl) : Rp :=
  if c.op = 75 then ⟨serveS s (nS s), false, 0, true, wk s.queue (nS s)⟩
  else if (serveS s (nS s)).queue = [] ∧ c.value ≤ (serveS s (nS s)).count then ⟨{ serveS s (nS s) with count := (serveS s (nS s)).count - c.value }, false, 0, true, wk s.queue (nS s)⟩
  else ⟨{ serveS s (nS s) with queue := (serveS s (nS s)).queue ++ [waiter c] }, true, 0, false, wk s.queue (nS s)⟩
def apply (o : Ob) (s : St) (c : Cl) : Rp × Int := if chk o s ≠ 0 then (R0, chk o s) else if err o s c ≠ 0 then (R0, err o s c) else (doR (refill o s c.now) c, 0)
def withdraw (o : Ob) (s : St) (t : Int) : Rp × Int := if chk o s ≠ 0 then (R0, chk o s) else if findB s.queue t = false then (R0, 7) else ({ R0 with state := { s with queue := remove s.queue t } }, 0)
def ready (o : Ob) (s : St) (c : Cl) : Bool := decide ((apply o s c).2 = 0) && !(apply o s c).1.parked
def dueI (o : Ob) (s : St) : Int := if chk o s ≠ 0 ∨ s.queue.length = 0 then 0 else s.time + max 0 ((s.queue.getD 0 default).value - s.count) * o.other
def dueB (o : Ob) (s : St) : Bool := decide (chk o s = 0) && !decide (s.queue.length = 0)
def tokI (o : Ob) (s : St) (now : Int) : Int := if chk o s ≠ 0 then 0 else if now < s.time ∨ 1099511627776 < now then 0 else (refill o s now).count
def tokE (o : Ob) (s : St) (now : Int) : Int := if chk o s ≠ 0 then chk o s else if now < s.time ∨ 1099511627776 < now then 2 else 0
def takeC (t n now : Int) : Cl := ⟨t, 72, n, 0, now⟩
def refC (now : Int) : Cl := ⟨0, 75, 0, 0, now⟩
theorem wk_succ (q : List W) (k : Nat) (h : k < q.length) : wk q k ++ [⟨q[k].task, 72, 0, true, -1⟩] = wk q (k + 1) := by
  unfold wk; rw [List.take_succ_eq_append_getElem h, List.map_append]; rfl
theorem wk_len (q : List W) (k : Nat) : (wk q k).length ≤ q.length := by simp [wk]; omega
theorem cnt_succ (c : Int) (q : List W) (k : Nat) (h : k < q.length) : cnt c q (k + 1) = cnt c q k - q[k].value := by
  show cnt c q k - _ = _
  simp [List.getD, h]
/-- The step and the end of serving. -/
theorem nsv_go {c : Int} {q : List W} {k : Nat} (h : k < q.length) (hv : q[k].value ≤ cnt c q k) : nsv (cnt c q k) (q.drop k) = nsv (cnt c q (k + 1)) (q.drop (k + 1)) + 1 := by
  rw [List.drop_eq_getElem_cons h, nsv, if_pos hv, cnt_succ c q k h]
theorem nsv_stop {c : Int} {q : List W} {k : Nat} (h : ∀ h : k < q.length, ¬ q[k].value ≤ cnt c q k) : nsv (cnt c q k) (q.drop k) = 0 := by
  rcases Nat.lt_or_ge k q.length with h1 | h1
  · rw [List.drop_eq_getElem_cons h1, nsv, if_neg (h h1)]
  · rw [List.drop_of_length_le h1]; rfl
theorem nsv_le : ∀ (q : List W) (c : Int), nsv c q ≤ q.length
  | [], _ => Nat.le_refl _
  | w :: q, c => by
    unfold nsv; split
    · have := nsv_le q (c - w.value); simp; omega
    · exact Nat.zero_le _
theorem nS_le (s : St) : nS s ≤ s.queue.length := nsv_le _ _
theorem new_zero {o : Ob} (h : (new o).2 = 0) : o.kind = 8 ∧ (1 ≤ o.size ∧ o.size ≤ 100) ∧ (1 ≤ o.other ∧ o.other ≤ 1099511627776) ∧ (new o).1 = { N0 with count := o.size } := by
  unfold new at h ⊢
  split
  · rename_i e; rw [if_pos e] at h; cases h
  · rename_i e; rw [if_neg e] at h
    split
    · rename_i e2; rw [if_pos e2] at h; cases h
    · exact ⟨by omega, by omega, by omega, rfl⟩
theorem bare_iff (s : St) : bare s = N0 ↔ s.owner = -1 ∧ s.holders = [] ∧ s.buffer = [] ∧ s.cursors = [] ∧ s.closed = false ∧ s.value = 0 := by
  simp [bare, N0, S0]
theorem ok_parts {o : Ob} {s : St} : ok o s = true ↔ bare s = N0 ∧ (0 ≤ s.count ∧ s.count ≤ o.size) ∧ (0 ≤ s.time ∧ s.time ≤ 1099511627776) ∧ check 1 s.queue = 0 ∧ okq (fit o) s.queue = true := by
  simp [ok, and_assoc]
theorem chk_zero {o : Ob} {s : St} : chk o s = 0 ↔ (new o).2 = 0 ∧ ok o s = true := by
  unfold chk
  by_cases h : (new o).2 = 0
  · rw [if_neg (by omega)]
    cases hs : ok o s <;> simp [h]
  · rw [if_pos h]; simp [h]
theorem no_of {o : Ob} {s : St} (h : ¬ (bare s = N0 ∧ (0 ≤ s.count ∧ s.count ≤ o.size) ∧ (0 ≤ s.time ∧ s.time ≤ 1099511627776) ∧ check 1 s.queue = 0)) : ok o s = false := by
  rw [Bool.eq_false_iff]; intro e
  obtain ⟨a, b, c, d, _⟩ := ok_parts.1 e
  exact h ⟨a, b, c, d⟩
theorem no_q {o : Ob} {s : St} {k : Nat} (hk : k < s.queue.length) (h : fit o s.queue[k] = false ∨ fstB s.queue k = false) : ok o s = false := by
  rw [Bool.eq_false_iff]; intro e; have := (ok_parts.1 e).2.2.2.2; rw [okq_not hk h] at this; cases this
theorem good_iff {o : Ob} {w : W} (hz : o.size ≤ 100) : (fit o w = true ∧ valid w = true) ↔ w.op = 72 ∧ (1 ≤ w.value ∧ w.value ≤ o.size) ∧ w.case_ = -1 ∧ (0 ≤ w.task ∧ w.task < 16) ∧ 0 ≤ w.prio ∧ w.prio ≤ 9 := by
  simp [fit, valid]; omega
theorem no_ref {o : Ob} {s : St} {k : Nat} (hk : k < s.queue.length) (h : ¬ ((fit o s.queue[k] = true ∧ valid s.queue[k] = true) ∧ fstB s.queue k = true)) : ok o s = false := by
  rw [Bool.eq_false_iff]; intro e
  obtain ⟨_, _, _, h4, h5⟩ := ok_parts.1 e
  exact h ⟨⟨okq_all h5 _ (List.getElem_mem hk), ((check_fifo _).1 h4).2 _ (List.getElem_mem hk)⟩, (fst_nodup _).1 (okq_nd h5) k hk⟩
theorem same_bare {s : St} : s = ⟨-1, s.count, s.time, [], s.queue, [], [], false, 0⟩ ↔ bare s = N0 := by
  cases s; simp [bare, N0, S0]
theorem yes_ref {o : Ob} {s : St} (h1 : bare s = N0) (h2 : 0 ≤ s.count ∧ s.count ≤ o.size) (h3 : 0 ≤ s.time ∧ s.time ≤ 1099511627776) (h4 : ∀ i (h : i < s.queue.length), (fit o s.queue[i] = true ∧ valid s.queue[i] = true) ∧ fstB s.queue i = true) : ok o s = true := by
  have hq : okq (fit o) s.queue = true := okq_of fun i hi => ⟨(h4 i hi).1.1, (h4 i hi).2⟩
  have hv : ∀ w ∈ s.queue, valid w = true := fun w hw => by
    obtain ⟨i, hi, rfl⟩ := List.getElem_of_mem hw
    exact (h4 i hi).1.2
  exact ok_parts.2 ⟨h1, h2, h3, (check_fifo _).2 ⟨by have := okq_len hq hv; omega, hv⟩, hq⟩
theorem ok_iff {o : Ob} {s : St} : ok o s = true ↔ bare s = N0 ∧ (0 ≤ s.count ∧ s.count ≤ o.size) ∧ (0 ≤ s.time ∧ s.time ≤ 1099511627776) ∧ (∀ w ∈ s.queue, valid w = true) ∧ okq (fit o) s.queue = true := by
  rw [ok_parts]
  constructor
  · rintro ⟨h1, h2, h3, h4, h5⟩; exact ⟨h1, h2, h3, ((check_fifo _).1 h4).2, h5⟩
  · rintro ⟨h1, h2, h3, h4, h5⟩; exact ⟨h1, h2, h3, (check_fifo _).2 ⟨by have := okq_len h5 h4; omega, h4⟩, h5⟩
/-! ### The sizes -/
theorem new_sm (o : Ob) {n : Nat} : smN n (new o).1 := by
  unfold new
  split
  · exact smN_S0
  · split
    · exact smN_S0
    · exact ⟨Nat.zero_le _, Nat.zero_le _, Nat.zero_le _, Nat.zero_le _, fun c hc => by simp [N0, S0] at hc⟩
theorem refill_sm {o : Ob} {s : St} {now : Int} {n : Nat} (h : smN n s) : smN n (refill o s now) := by
  unfold refill; split <;> exact ⟨h.h, h.q, h.b, h.c, h.d⟩
theorem refill_q {o : Ob} {s : St} {now : Int} : (refill o s now).queue = s.queue := by
  unfold refill; split <;> rfl
theorem serveS_sm {s : St} {k n : Nat} (h : smN n s) : smN n (serveS s k) := ⟨h.h, by have := h.q; show (s.queue.drop k).length ≤ n; rw [List.length_drop]; omega, h.b, h.c, h.d⟩
theorem doR_sm {s : St} {c : Cl} {n : Nat} (h : smN n s) : smN (n + 1) (doR s c).state ∧ (doR s c).woken.length ≤ n := by
  have h1 := serveS_sm (k := nS s) h
  have hw : (wk s.queue (nS s)).length ≤ n := Nat.le_trans (wk_len _ _) h.q
  unfold doR
  split
  · exact ⟨h1.le (Nat.le_succ n), hw⟩
  · split
    · exact ⟨⟨(h1.le (Nat.le_succ n)).h, (h1.le (Nat.le_succ n)).q, (h1.le (Nat.le_succ n)).b, (h1.le (Nat.le_succ n)).c, (h1.le (Nat.le_succ n)).d⟩, hw⟩
    · exact ⟨(h1.le (Nat.le_succ n)).withQ (by have := h1.q; simp at this ⊢; omega), hw⟩
theorem apply_sm {o : Ob} {s : St} {c : Cl} {n : Nat} (h : smN n s) : smN (n + 1) (apply o s c).1.state ∧ (apply o s c).1.woken.length ≤ n := by
  have h0 : smN (n + 1) R0.state ∧ R0.woken.length ≤ n := ⟨smN_S0, Nat.zero_le _⟩
  unfold apply
  split
  · exact h0
  · split
    · exact h0
    · exact doR_sm (refill_sm h)
theorem withdraw_sm {o : Ob} {s : St} {t : Int} {n : Nat} (h : smN n s) : smN n (withdraw o s t).1.state ∧ (withdraw o s t).1.woken.length ≤ 0 := by
  unfold withdraw
  split
  · exact ⟨smN_S0, Nat.zero_le _⟩
  · split
    · exact ⟨smN_S0, Nat.zero_le _⟩
    · exact ⟨h.withQ (by have := remove_len s.queue t; have := h.q; omega), Nat.zero_le _⟩
instance {o : Ob} : Sm (new o).1 0 := ⟨new_sm o⟩
instance {o : Ob} {s : St} {c : Cl} {n : Nat} [h : Sm s n] : Sm (apply o s c).1.state (n + 1) := ⟨(apply_sm h.sm).1⟩
instance {o : Ob} {s : St} {t : Int} {n : Nat} [h : Sm s n] : Sm (withdraw o s t).1.state n := ⟨(withdraw_sm h.sm).1⟩
theorem apply_wl {o : Ob} {s : St} {c : Cl} {n m : Nat} [h : Sm s n] (k : n ≤ m) : (apply o s c).1.woken.length ≤ m := Nat.le_trans (apply_sm h.sm).2 k
theorem withdraw_wl {o : Ob} {s : St} {t : Int} {n m : Nat} [h : Sm s n] : (withdraw o s t).1.woken.length ≤ m := Nat.le_trans (withdraw_sm h.sm).2 (Nat.zero_le _)
end Lm
namespace Lm
open Wl
theorem rf_bd {o : Ob} {s : St} {now : Int} (ho : 1 ≤ o.other) (hn : s.time ≤ now) : 0 ≤ (now - s.time).tdiv o.other ∧ (now - s.time).tdiv o.other * o.other ≤ now - s.time ∧ (now - s.time).tdiv o.other ≤ now - s.time ∧ 0 ≤ (now - s.time).tdiv o.other * o.other := by
  rw [Int.tdiv_eq_ediv_of_nonneg (by omega)]
  have h0 : 0 ≤ (now - s.time) / o.other := Int.ediv_nonneg (by omega) (by omega)
  refine ⟨h0, Int.ediv_mul_le _ (by omega), ?_, Int.mul_nonneg h0 (by omega)⟩
  exact Int.ediv_le_self _ (by omega)
theorem rf_lt {o : Ob} {s : St} {now : Int} (ho : 1 ≤ o.other) (hn : s.time ≤ now) : now - s.time < ((now - s.time).tdiv o.other + 1) * o.other := by
  rw [Int.tdiv_eq_ediv_of_nonneg (by omega)]
  have := Int.lt_ediv_add_one_mul_self (now - s.time) (by omega : 0 < o.other)
  exact this
end Lm
namespace Lm
open Wl
def chk2 (o : Ob) (s : St) (c : Cl) : Int := if chk o s ≠ 0 then chk o s else err o s c
theorem chk2_zero {o : Ob} {s : St} {c : Cl} : chk2 o s c = 0 ↔ chk o s = 0 ∧ err o s c = 0 := by
  unfold chk2
  by_cases h : chk o s = 0
  · rw [if_neg (by omega)]; simp [h]
  · rw [if_pos h]; simp [h]
theorem apply_eq (o : Ob) (s : St) (c : Cl) : apply o s c = if chk2 o s c ≠ 0 then (R0, chk2 o s c) else (doR (refill o s c.now) c, 0) := by
  unfold apply chk2
  by_cases h : chk o s = 0
  · rw [if_neg (show ¬ chk o s ≠ 0 by omega), if_neg (show ¬ chk o s ≠ 0 by omega)]
  · rw [if_pos h, if_pos h, if_pos h]
theorem err_zero {o : Ob} {s : St} {c : Cl} (h : err o s c = 0) : (c.op = 72 ∨ c.op = 75) ∧ (s.time ≤ c.now ∧ c.now ≤ 1099511627776) ∧ (c.op = 72 → (0 ≤ c.task ∧ c.task < 16) ∧ (0 ≤ c.prio ∧ c.prio ≤ 9) ∧ (1 ≤ c.value ∧ c.value ≤ o.size) ∧ findB s.queue c.task = false) := by
  unfold err at h
  split at h
  · cases h
  · split at h
    · cases h
    · split at h
      · exact ⟨by omega, by omega, fun e => by omega⟩
      · split at h
        · cases h
        · split at h
          · cases h
          · rename_i h1 h2 h3 h4 h5
            exact ⟨by omega, by omega, fun _ => ⟨by omega, by omega, by omega, by simpa using h5⟩⟩
structure Okk (o : Ob) (s : St) : Prop where
  size : 1 ≤ o.size ∧ o.size ≤ 100
  other : 1 ≤ o.other ∧ o.other ≤ 1099511627776
  count : 0 ≤ s.count ∧ s.count ≤ o.size
  time : 0 ≤ s.time ∧ s.time ≤ 1099511627776
  valid : ∀ w ∈ s.queue, valid w = true
  okq : okq (fit o) s.queue = true
  bare : bare s = N0
theorem okk {o : Ob} {s : St} (h : chk o s = 0) : Okk o s := by
  obtain ⟨h1, h2⟩ := chk_zero.1 h
  obtain ⟨z1, z2, z3, _⟩ := new_zero h1
  obtain ⟨p1, p2, p3, p4, p5⟩ := ok_iff.1 h2
  exact ⟨z2, z3, p2, p3, p4, p5, p1⟩
theorem Okk.value {o : Ob} {s : St} (h : Okk o s) : ∀ w ∈ s.queue, 1 ≤ w.value ∧ w.value ≤ o.size := fun w hw => by
  have := okq_all h.okq w hw
  simp [fit] at this; omega
theorem Okk.len {o : Ob} {s : St} (h : Okk o s) : s.queue.length ≤ 16 := okq_len h.okq h.valid
theorem Okk.chk {o : Ob} {s t : St} (h : Lm.chk o s = 0) (k : Okk o t) : Lm.chk o t = 0 := chk_zero.2 ⟨(chk_zero.1 h).1, ok_iff.2 ⟨k.bare, k.count, k.time, k.valid, k.okq⟩⟩
theorem Okk.sm {o : Ob} {s : St} (h : Okk o s) : smN 16 s := by
  obtain ⟨a1, a2, a3, a4, a5, a6⟩ := (bare_iff s).1 h.bare
  exact ⟨by simp [a2], h.len, by simp [a3], by simp [a4], fun c hc => by rw [a4] at hc; cases hc⟩
theorem Okk.refill {o : Ob} {s : St} {now : Int} (h : Okk o s) (hn : s.time ≤ now ∧ now ≤ 1099511627776) : Okk o (refill o s now) ∧ s.count ≤ (Lm.refill o s now).count ∧ s.time ≤ (Lm.refill o s now).time ∧ (Lm.refill o s now).time ≤ now := by
  obtain ⟨h1, h2, h3, h4⟩ := rf_bd (o := o) h.other.1 hn.1
  have hc := h.count
  have ht := h.time
  have hs := h.size
  unfold Lm.refill
  split
  · refine ⟨⟨h.size, h.other, ⟨by show 0 ≤ o.size; omega, Int.le_refl _⟩, ⟨by show 0 ≤ now; omega, hn.2⟩, h.valid, h.okq, h.bare⟩, h.count.2, hn.1, Int.le_refl _⟩
  · refine ⟨⟨h.size, h.other, ⟨?_, ?_⟩, ⟨?_, ?_⟩, h.valid, h.okq, h.bare⟩, ?_, ?_, ?_⟩
    · show 0 ≤ s.count + _; omega
    · show s.count + _ ≤ _; omega
    · show 0 ≤ s.time + _; omega
    · show s.time + _ ≤ _; omega
    · show s.count ≤ s.count + _; omega
    · show s.time ≤ s.time + _; omega
    · show s.time + _ ≤ now; omega
theorem cnt_cons (c : Int) (w : W) (q : List W) : ∀ k, cnt c (w :: q) (k + 1) = cnt (c - w.value) q k
  | 0 => rfl
  | k + 1 => by
    show cnt c (w :: q) (k + 1) - _ = cnt (c - w.value) q k - _
    rw [cnt_cons c w q k]; rfl
theorem nsv_cnt : ∀ (q : List W) (c : Int), 0 ≤ c → (∀ w ∈ q, 0 ≤ w.value) → ∀ k, k ≤ nsv c q → 0 ≤ cnt c q k ∧ cnt c q k ≤ c
  | _, c, hc, _, 0, _ => ⟨hc, Int.le_refl _⟩
  | [], c, _, _, k + 1, hk => by simp [nsv] at hk
  | w :: q, c, hc, hv, k + 1, hk => by
    unfold nsv at hk
    split at hk
    · rename_i h
      have := nsv_cnt q (c - w.value) (by omega) (fun v hv' => hv v (by simp [hv'])) k (by omega)
      have hw := hv w (by simp)
      rw [cnt_cons]; omega
    · omega
theorem Okk.cnt {o : Ob} {s : St} (h : Okk o s) {k : Nat} (hk : k ≤ nS s) : 0 ≤ cnt s.count s.queue k ∧ Lm.cnt s.count s.queue k ≤ s.count :=
  nsv_cnt s.queue s.count h.count.1 (fun w hw => by have := h.value w hw; omega) k hk
theorem Okk.serveS {o : Ob} {s : St} (h : Okk o s) {k : Nat} (hk : k ≤ nS s) : Okk o (serveS s k) := by
  have hc := h.cnt hk
  have hs := h.count
  exact ⟨h.size, h.other, ⟨hc.1, by show Lm.cnt s.count s.queue k ≤ _; omega⟩, h.time, fun w hw => h.valid w (List.mem_of_mem_drop hw), okq_sub h.okq (List.drop_sublist _ _), h.bare⟩
def outP (q : List W) (k : Nat) : Rp := ⟨S0, false, 0, false, wk q k⟩
/-- What stands at the head behind the served ones. -/
theorem nsv_head : ∀ (q : List W) (c : Int) (h : nsv c q < q.length), cnt c q (nsv c q) < q[nsv c q].value
  | [], _, h => by simp [nsv] at h
  | w :: q, c, h => by
    by_cases hw : w.value ≤ c
    · have e : nsv c (w :: q) = nsv (c - w.value) q + 1 := by rw [nsv, if_pos hw]
      have h2 : nsv (c - w.value) q < q.length := by rw [e] at h; simpa using h
      have ih := nsv_head q (c - w.value) h2
      have e2 : (w :: q)[nsv c (w :: q)] = q[nsv (c - w.value) q] := by simp [e]
      rw [e2, e, cnt_cons]; exact ih
    · have e : nsv c (w :: q) = 0 := by rw [nsv, if_neg hw]
      have e2 : (w :: q)[nsv c (w :: q)] = w := by simp [e]
      rw [e2, e]; show c < w.value; omega
end Lm
namespace Lm
open Wl
theorem okk_bd {o : Ob} {s : St} (h : chk o s = 0) : (1 ≤ o.size ∧ o.size ≤ 100) ∧ (0 ≤ s.count ∧ s.count ≤ o.size) ∧ (0 ≤ s.time ∧ s.time ≤ 1099511627776) := ⟨(okk h).size, (okk h).count, (okk h).time⟩
theorem due_v {o : Ob} {s : St} (h : chk o s = 0) (hq : 0 < s.queue.length) : (1 : Int) ≤ s.queue[0].value ∧ s.queue[0].value ≤ o.size := (okk h).value _ (List.getElem_mem hq)
theorem due_bd {o : Ob} {s : St} (h : chk o s = 0) (hq : 0 < s.queue.length) : 0 ≤ max (0 : Int) (s.queue[0].value - s.count) * o.other ∧ max (0 : Int) (s.queue[0].value - s.count) * o.other ≤ 109951162777600 := by
  have hk := okk h
  have hv := due_v h (by omega)
  have h1 := hk.size; have h2 := hk.other; have h3 := hk.count
  have hm : 0 ≤ max (0 : Int) (s.queue[0].value - s.count) ∧ max (0 : Int) (s.queue[0].value - s.count) ≤ 100 := by omega
  refine ⟨Int.mul_nonneg hm.1 (by omega), ?_⟩
  have := Int.mul_le_mul hm.2 h2.2 (by omega) (by decide)
  omega
theorem due_eq {o : Ob} {s : St} (h : chk o s = 0) (hq : 0 < s.queue.length) : dueI o s = s.time + max (0 : Int) (s.queue[0].value - s.count) * o.other ∧ dueB o s = true := by
  have e : (s.queue.getD 0 default).value = s.queue[0].value := by
    rw [List.getD_eq_getElem?_getD, List.getElem?_eq_getElem hq]; rfl
  refine ⟨?_, ?_⟩
  · rw [dueI, if_neg (by omega), e]
  · simp [dueB, h]; intro e; rw [e] at hq; simp at hq
end Lm
namespace Lm
open Wl
/-! ### Laws -/
theorem chk_new {o : Ob} (h : (new o).2 = 0) : chk o (new o).1 = 0 := by
  obtain ⟨z1, z2, z3, z4⟩ := new_zero h
  refine chk_zero.2 ⟨h, ?_⟩
  rw [z4, ok_iff]
  exact ⟨rfl, ⟨by show 0 ≤ o.size; omega, Int.le_refl _⟩, ⟨by show (0 : Int) ≤ 0; omega, by show (0 : Int) ≤ 1099511627776; omega⟩, by simp [N0, S0], by simp [N0, S0, okq]⟩
theorem apply_zero {o : Ob} {s : St} {c : Cl} (h : (apply o s c).2 = 0) : chk o s = 0 ∧ err o s c = 0 ∧ (apply o s c).1 = doR (refill o s c.now) c := by
  unfold apply at h ⊢
  split
  · rename_i e; rw [if_pos e] at h; exact absurd h e
  · rename_i e; rw [if_neg e] at h
    split
    · rename_i e2; rw [if_pos e2] at h; exact absurd h e2
    · exact ⟨by omega, by omega, rfl⟩
theorem apply_yes {o : Ob} {s : St} {c : Cl} (h : chk o s = 0) (h2 : err o s c = 0) : apply o s c = (doR (refill o s c.now) c, 0) := by
  rw [apply, if_neg (by omega), if_neg (by omega)]
theorem withdraw_zero {o : Ob} {s : St} {t : Int} (h : (withdraw o s t).2 = 0) : chk o s = 0 ∧ findB s.queue t = true ∧ (withdraw o s t).1 = { R0 with state := { s with queue := remove s.queue t } } := by
  unfold withdraw at h ⊢
  split
  · rename_i e; rw [if_pos e] at h; exact absurd h e
  · rename_i e; rw [if_neg e] at h
    split
    · rename_i e2; rw [if_pos e2] at h; cases h
    · rename_i e2; exact ⟨by omega, by simpa using e2, rfl⟩
/-- The three ways of an operation. -/
theorem doR_ways (s : St) (c : Cl) : (c.op = 75 ∧ doR s c = ⟨serveS s (nS s), false, 0, true, wk s.queue (nS s)⟩) ∨
    (c.op ≠ 75 ∧ (serveS s (nS s)).queue = [] ∧ c.value ≤ (serveS s (nS s)).count ∧ doR s c = ⟨{ serveS s (nS s) with count := (serveS s (nS s)).count - c.value }, false, 0, true, wk s.queue (nS s)⟩) ∨
    (c.op ≠ 75 ∧ ¬ ((serveS s (nS s)).queue = [] ∧ c.value ≤ (serveS s (nS s)).count) ∧ doR s c = ⟨{ serveS s (nS s) with queue := (serveS s (nS s)).queue ++ [waiter c] }, true, 0, false, wk s.queue (nS s)⟩) := by
  unfold doR
  by_cases h : c.op = 75
  · rw [if_pos h]; exact .inl ⟨h, rfl⟩
  · rw [if_neg h]
    by_cases h2 : (serveS s (nS s)).queue = [] ∧ c.value ≤ (serveS s (nS s)).count
    · rw [if_pos h2]; exact .inr (.inl ⟨h, h2.1, h2.2, rfl⟩)
    · rw [if_neg h2]; exact .inr (.inr ⟨h, h2, rfl⟩)
theorem waiter_good {o : Ob} {c : Cl} (hz : o.size ≤ 100) (ht : 0 ≤ c.task ∧ c.task < 16) (hp : 0 ≤ c.prio ∧ c.prio ≤ 9) (hv : 1 ≤ c.value ∧ c.value ≤ o.size) : fit o (waiter c) = true ∧ valid (waiter c) = true :=
  (good_iff hz).2 ⟨rfl, hv, rfl, ht, hp.1, hp.2⟩
theorem find_drop {q : List W} {t : Int} (h : findB q t = false) (k : Nat) : findB (q.drop k) t = false := findB_false.2 fun w hw => findB_false.1 h w (List.mem_of_mem_drop hw)
theorem chk_apply {o : Ob} {s : St} {c : Cl} (h : (apply o s c).2 = 0) : chk o (apply o s c).1.state = 0 := by
  obtain ⟨h1, h2, h3⟩ := apply_zero h
  have hk := okk h1
  obtain ⟨e1, e2, e3⟩ := err_zero h2
  obtain ⟨k1, k2, k3, k4⟩ := hk.refill e2
  have ks := k1.serveS (Nat.le_refl _)
  rw [h3]
  rcases doR_ways (refill o s c.now) c with ⟨a, b⟩ | ⟨a, b, d, e⟩ | ⟨a, b, e⟩
  · rw [b]; exact ks.chk h1
  · rw [e]
    obtain ⟨f1, f2, f3, f4⟩ := e3 (by omega)
    have hc := ks.count
    exact Okk.chk h1 ⟨ks.size, ks.other, ⟨by show 0 ≤ (serveS _ _).count - c.value; omega, by show (serveS _ _).count - c.value ≤ _; omega⟩, ks.time, ks.valid, ks.okq, ks.bare⟩
  · rw [e]
    obtain ⟨f1, f2, f3, f4⟩ := e3 (by omega)
    have hz := ks.size
    have hf : findB (serveS (refill o s c.now) (nS (refill o s c.now))).queue c.task = false := by
      show findB ((refill o s c.now).queue.drop _) _ = false
      rw [refill_q]; exact find_drop f4 _
    refine Okk.chk h1 ⟨ks.size, ks.other, ks.count, ks.time, fun w hw => ?_, okq_push ks.okq (waiter_good hz.2 f1 f2 f3).1 hf, ks.bare⟩
    rcases List.mem_append.1 hw with hw | hw
    · exact ks.valid w hw
    · rw [List.mem_singleton.1 hw]; exact (waiter_good hz.2 f1 f2 f3).2
theorem chk_withdraw {o : Ob} {s : St} {t : Int} (h : (withdraw o s t).2 = 0) : chk o (withdraw o s t).1.state = 0 := by
  obtain ⟨h1, h2, h3⟩ := withdraw_zero h
  have hk := okk h1
  rw [h3]
  exact Okk.chk h1 ⟨hk.size, hk.other, hk.count, hk.time, fun w hw => hk.valid w (List.mem_filter.1 hw).1, okq_sub hk.okq List.filter_sublist, hk.bare⟩
/-- The head of what is left cannot be served. -/
theorem serve_head {s : St} (h : 0 < (serveS s (nS s)).queue.length) : (serveS s (nS s)).count < (serveS s (nS s)).queue[0].value := by
  have h1 : nS s < s.queue.length := by
    have : (s.queue.drop (nS s)).length = s.queue.length - nS s := List.length_drop
    have h' : 0 < (s.queue.drop (nS s)).length := h
    omega
  have := nsv_head s.queue s.count h1
  have e : (serveS s (nS s)).queue[0] = s.queue[nS s] := by simp [serveS]
  rw [e]; exact this
theorem head_law {o : Ob} {s : St} {c : Cl} (h : (apply o s c).2 = 0) (hq : 0 < (apply o s c).1.state.queue.length) : (apply o s c).1.state.count < (apply o s c).1.state.queue[0].value := by
  obtain ⟨h1, h2, h3⟩ := apply_zero h
  generalize (apply o s c).1 = R at *
  subst h3
  generalize refill o s c.now = r at *
  rcases doR_ways r c with ⟨a, b⟩ | ⟨a, b, d, e⟩ | ⟨a, b, e⟩
  · generalize doR r c = R at *; subst b; exact serve_head hq
  · generalize doR r c = R at *; subst e
    rw [show (({ serveS r (nS r) with count := (serveS r (nS r)).count - c.value } : St)).queue = [] from b] at hq; cases hq
  · generalize doR r c = R at *; subst e
    by_cases hq0 : (serveS r (nS r)).queue = []
    · have hv : ¬ c.value ≤ (serveS r (nS r)).count := fun e => b ⟨hq0, e⟩
      have e : ({ serveS r (nS r) with queue := (serveS r (nS r)).queue ++ [waiter c] } : St).queue[0] = waiter c := by simp [hq0]
      rw [e]; show (serveS r (nS r)).count < c.value; omega
    · have hl : 0 < (serveS r (nS r)).queue.length := List.length_pos_iff.2 hq0
      have e : ({ serveS r (nS r) with queue := (serveS r (nS r)).queue ++ [waiter c] } : St).queue[0] = (serveS r (nS r)).queue[0] := by simp [List.getElem_append_left hl]
      rw [e]; exact serve_head hl
/-- What is woken, and what is left. -/
theorem order_law {o : Ob} {s : St} {c : Cl} (h : (apply o s c).2 = 0) : ∃ n, n ≤ s.queue.length ∧ (apply o s c).1.woken = wk s.queue n ∧
    (c.op = 72 → (apply o s c).1.parked = false → s.queue.drop n = []) ∧
    ((apply o s c).1.parked = false → (apply o s c).1.state.queue = s.queue.drop n) ∧
    ((apply o s c).1.parked = true → c.op = 72 ∧ (apply o s c).1.state.queue = s.queue.drop n ++ [waiter c]) := by
  obtain ⟨h1, h2, h3⟩ := apply_zero h
  obtain ⟨e1, e2, e3⟩ := err_zero h2
  rw [h3]
  have hn := nS_le (refill o s c.now)
  have hq := refill_q (o := o) (s := s) (now := c.now)
  rw [hq] at hn
  have hqs : (serveS (refill o s c.now) (nS (refill o s c.now))).queue = s.queue.drop (nS (refill o s c.now)) := by show (refill o s c.now).queue.drop _ = _; rw [hq]
  refine ⟨nS (refill o s c.now), hn, ?_⟩
  rcases doR_ways (refill o s c.now) c with ⟨a, b⟩ | ⟨a, b, d, e⟩ | ⟨a, b, e⟩
  · rw [b]; refine ⟨by rw [hq], fun e => by omega, fun _ => hqs, fun e => by cases e⟩
  · rw [e]; exact ⟨by rw [hq], fun _ _ => by rw [← hqs]; exact b, fun _ => hqs, fun e => by cases e⟩
  · rw [e]; refine ⟨by rw [hq], fun _ e => by (cases e), fun e => by (cases e), fun _ => ⟨by omega, ?_⟩⟩
    show (serveS _ _).queue ++ _ = _
    rw [hqs]
theorem wk_get (q : List W) (n : Nat) (i : Nat) (h : i < (wk q n).length) : (wk q n)[i] = ⟨(q.getD i default).task, 72, 0, true, -1⟩ := by
  have h2 : i < q.length := Nat.lt_of_lt_of_le h (wk_len q n)
  simp [wk, List.getD, h2]
theorem wk_lenE {q : List W} {n : Nat} (h : n ≤ q.length) : (wk q n).length = n := by simp [wk]; omega
/-- Who has to wait, and is withdrawn. -/
theorem withdraws_law {o : Ob} {s : St} {c : Cl} (h : (apply o s c).2 = 0) (hp : (apply o s c).1.parked = true) :
    (withdraw o (apply o s c).1.state c.task).2 = 0 ∧ (apply o s (refC c.now)).2 = 0 ∧ (withdraw o (withdraw o (apply o s c).1.state c.task).1.state c.task).2 = 7 ∧ (withdraw o (apply o s c).1.state c.task).1.state = (apply o s (refC c.now)).1.state := by
  have hc := chk_apply h
  obtain ⟨h1, h2, h3⟩ := apply_zero h
  obtain ⟨e1, e2, e3⟩ := err_zero h2
  have hx : apply o s (refC c.now) = (doR (refill o s c.now) (refC c.now), 0) := apply_yes h1 (by
    unfold err
    rw [if_neg (by simp [refC]), if_neg (by show ¬ (c.now < s.time ∨ _ < c.now); omega), if_pos (show (refC c.now).op = 75 from rfl)])
  have hx1 : (apply o s (refC c.now)).1.state = serveS (refill o s c.now) (nS (refill o s c.now)) := by
    rw [hx]; show (doR _ _).state = _; rw [doR, if_pos (show (refC c.now).op = 75 from rfl)]
  rw [hx1, show (apply o s (refC c.now)).2 = 0 by rw [hx]]
  rw [h3] at hc hp ⊢
  rcases doR_ways (refill o s c.now) c with ⟨a, b⟩ | ⟨a, b, d, e⟩ | ⟨a, b, e⟩
  · rw [b] at hp; cases hp
  · rw [e] at hp; cases hp
  · rw [e] at hc ⊢
    obtain ⟨f1, f2, f3, f4⟩ := e3 (by omega)
    have hf : findB (serveS (refill o s c.now) (nS (refill o s c.now))).queue c.task = false := by
      show findB ((refill o s c.now).queue.drop _) _ = false
      rw [refill_q]; exact find_drop f4 _
    generalize serveS (refill o s c.now) (nS (refill o s c.now)) = S at *
    have hft : findB (S.queue ++ [waiter c]) c.task = true := findB_true.2 ⟨waiter c, by simp, rfl⟩
    have hself : remove [waiter c] c.task = [] := Cv.remove_self (waiter c)
    have hr : remove (S.queue ++ [waiter c]) c.task = S.queue := by rw [Cv.remove_append, Cv.remove_notin hf, hself, List.append_nil]
    have hw : withdraw o { S with queue := S.queue ++ [waiter c] } c.task = ({ R0 with state := S }, 0) := by
      rw [withdraw, if_neg (by simpa using hc), if_neg (by simp [hft])]
      show ({ R0 with state := { S with queue := remove (S.queue ++ [waiter c]) c.task } }, (0 : Int)) = _
      rw [hr]
    have hcw := chk_withdraw (o := o) (s := { S with queue := S.queue ++ [waiter c] }) (t := c.task) (by rw [hw])
    rw [hw] at hcw ⊢
    refine ⟨rfl, rfl, ?_, rfl⟩
    rw [withdraw, if_neg (by simpa using hcw), if_pos hf]
/-! ### Refills -/
theorem refill_count (o : Ob) (s : St) (now : Int) : (refill o s now).count = min o.size (s.count + (now - s.time).tdiv o.other) := by
  unfold refill
  split
  · show o.size = _; omega
  · show s.count + _ = _; omega
theorem err_ref {o : Ob} {s : St} {now : Int} : err o s (refC now) = if now < s.time ∨ 1099511627776 < now then 2 else 0 := by
  unfold err
  rw [if_neg (by simp [refC])]
  show (if now < s.time ∨ 1099511627776 < now then 2 else if (75 : Int) = 75 then 0 else _) = _
  rw [if_pos (rfl : (75 : Int) = 75)]
theorem doR_ref (s : St) (now : Int) : doR s (refC now) = ⟨serveS s (nS s), false, 0, true, wk s.queue (nS s)⟩ := by rw [doR, if_pos (show (refC now).op = 75 from rfl)]
theorem apply_ref {o : Ob} {s : St} {now : Int} (h : chk o s = 0) : apply o s (refC now) = if now < s.time ∨ 1099511627776 < now then (R0, 2) else (⟨serveS (refill o s now) (nS (refill o s now)), false, 0, true, wk s.queue (nS (refill o s now))⟩, 0) := by
  by_cases hn : now < s.time ∨ 1099511627776 < now
  · rw [if_pos hn, apply, if_neg (by omega), err_ref, if_pos hn]; rfl
  · rw [if_neg hn, apply_yes h (by rw [err_ref, if_neg hn])]
    show (doR (refill o s now) (refC now), (0 : Int)) = _
    rw [doR_ref, refill_q]
theorem nS_pos {s : St} (h : 0 < s.queue.length) : 0 < nS s ↔ s.queue[0].value ≤ s.count := by
  unfold nS
  match hq : s.queue, h with
  | w :: q, _ =>
    unfold nsv
    split
    · simp_all
    · simp_all
/-- When the first waiter is served. -/
theorem due_iff {o : Ob} {s : St} {now : Int} (h : chk o s = 0) (hq : 0 < s.queue.length) (hn : s.time ≤ now) : 0 < nS (refill o s now) ↔ dueI o s ≤ now := by
  have hk := okk h
  have hv := due_v h hq
  have hc := hk.count
  rw [nS_pos (by rw [refill_q]; exact hq), refill_count, (due_eq h hq).1]
  have e : (refill o s now).queue[0]'(by rw [refill_q]; exact hq) = s.queue[0] := by simp [refill_q]
  rw [e, Int.tdiv_eq_ediv_of_nonneg (by omega)]
  have ho := hk.other
  by_cases hle : s.queue[0].value - s.count ≤ 0
  · rw [show max (0 : Int) (s.queue[0].value - s.count) = 0 by omega]
    have h0 : 0 ≤ (now - s.time) / o.other := Int.ediv_nonneg (by omega) (by omega)
    constructor
    · intro _; omega
    · intro _; omega
  · rw [show max (0 : Int) (s.queue[0].value - s.count) = s.queue[0].value - s.count by omega]
    have := Int.le_ediv_iff_mul_le (a := s.queue[0].value - s.count) (b := now - s.time) (c := o.other) (by omega)
    constructor
    · intro h1
      have := this.1 (by omega); omega
    · intro h1
      have := this.2 (by omega); omega
theorem nsv_mono : ∀ (q : List W) (c d : Int), c ≤ d → nsv c q ≤ nsv d q
  | [], _, _, _ => Nat.le_refl _
  | w :: q, c, d, h => by
    unfold nsv
    split
    · rw [if_pos (by omega)]
      exact Nat.succ_le_succ (nsv_mono q _ _ (by omega))
    · exact Nat.zero_le _
theorem cnt_add (c d : Int) (q : List W) : ∀ k, cnt (c + d) q k = cnt c q k + d
  | 0 => rfl
  | k + 1 => by show cnt (c + d) q k - _ = cnt c q k - _ + d; rw [cnt_add c d q k]; omega
/-- Serving in two parts. -/
theorem nsv_split : ∀ (q : List W) (c : Int) (k : Nat), k ≤ nsv c q → nsv c q = k + nsv (cnt c q k) (q.drop k)
  | _, c, 0, _ => by simp [cnt]
  | [], _, k + 1, h => by simp [nsv] at h
  | w :: q, c, k + 1, h => by
    have e : nsv c (w :: q) = if w.value ≤ c then nsv (c - w.value) q + 1 else 0 := by rw [nsv]
    rw [e] at h ⊢
    split at h
    · rename_i hw
      rw [if_pos hw, cnt_cons, List.drop_succ_cons]
      have := nsv_split q (c - w.value) k (by omega)
      omega
    · omega
theorem cnt_drop (q : List W) (c : Int) (j : Nat) : ∀ k, cnt (cnt c q j) (q.drop j) k = cnt c q (j + k)
  | 0 => rfl
  | k + 1 => by
    show cnt (cnt c q j) (q.drop j) k - _ = cnt c q (j + k) - _
    rw [cnt_drop q c j k]
    congr 2
    rw [List.getD_eq_getElem?_getD, List.getElem?_drop, List.getD_eq_getElem?_getD]
    rfl
theorem refills_law {o : Ob} {s : St} {a b : Int} (h : chk o s = 0) (ha : s.time ≤ a) (hab : a ≤ b) (hb : b ≤ 1099511627776) :
    (refill o s a).count ≤ (refill o s b).count ∧ (refill o s b).count ≤ o.size ∧
    ((refill o s b).count < o.size → nS (refill o s a) + nS (refill o (serveS (refill o s a) (nS (refill o s a))) b) = nS (refill o s b) ∧
      serveS (refill o (serveS (refill o s a) (nS (refill o s a))) b) (nS (refill o (serveS (refill o s a) (nS (refill o s a))) b)) = serveS (refill o s b) (nS (refill o s b))) ∧
    nS (refill o s b) ≤ nS (refill o s a) + nS (refill o (serveS (refill o s a) (nS (refill o s a))) b) := by
  have hk := okk h
  obtain ⟨k1, k2, k3, k4⟩ := hk.refill (now := a) ⟨ha, by omega⟩
  obtain ⟨l1, l2, l3, l4⟩ := hk.refill (now := b) ⟨by omega, hb⟩
  have ks := k1.serveS (Nat.le_refl _)
  have hst : (serveS (refill o s a) (nS (refill o s a))).time = (refill o s a).time := rfl
  obtain ⟨m1, m2, m3, m4⟩ := ks.refill (now := b) ⟨by rw [hst]; omega, hb⟩
  have ho := hk.other
  have hka : (a - s.time).tdiv o.other = (a - s.time) / o.other := Int.tdiv_eq_ediv_of_nonneg (by omega)
  have hkb : (b - s.time).tdiv o.other = (b - s.time) / o.other := Int.tdiv_eq_ediv_of_nonneg (by omega)
  have hdm : (a - s.time) / o.other ≤ (b - s.time) / o.other := Int.ediv_le_ediv (by omega) (by omega)
  have hq1 := refill_q (o := o) (s := s) (now := a)
  have hq2 := refill_q (o := o) (s := s) (now := b)
  generalize hn1 : nS (refill o s a) = n1 at *
  have hq3 : (refill o (serveS (refill o s a) n1) b).queue = s.queue.drop n1 := by rw [refill_q]; show (refill o s a).queue.drop n1 = _; rw [hq1]
  have hcs : (serveS (refill o s a) n1).count = cnt (refill o s a).count s.queue n1 := by show cnt _ (refill o s a).queue n1 = _; rw [hq1]
  have hn1' : n1 = nsv (refill o s a).count s.queue := by rw [← hn1, nS, hq1]
  have hc0 := hk.count
  -- the tokens of the second refill
  have c2 : (refill o (serveS (refill o s a) n1) b).count = min o.size (cnt (refill o s a).count s.queue n1 + (b - (refill o s a).time).tdiv o.other) := by
    rw [refill_count, hcs]; rfl
  have hk2 : (b - (refill o s a).time).tdiv o.other = (b - (refill o s a).time) / o.other := Int.tdiv_eq_ediv_of_nonneg (by omega)
  have hk2n : 0 ≤ (b - (refill o s a).time) / o.other := Int.ediv_nonneg (by omega) (by omega)
  have hnot : s.count + (a - s.time) / o.other < o.size → (refill o s a).count = s.count + (a - s.time) / o.other ∧ (refill o s a).time = s.time + (a - s.time) / o.other * o.other ∧ (b - (refill o s a).time) / o.other = (b - s.time) / o.other - (a - s.time) / o.other := by
    intro hlt
    have e : refill o s a = { s with count := s.count + (a - s.time).tdiv o.other, time := s.time + (a - s.time).tdiv o.other * o.other } := by
      unfold refill; rw [if_neg (by rw [hka]; omega)]
    have et : (refill o s a).time = s.time + (a - s.time) / o.other * o.other := by rw [e]; show s.time + (a - s.time).tdiv o.other * o.other = _; rw [hka]
    refine ⟨by rw [e]; show s.count + (a - s.time).tdiv o.other = _; rw [hka], et, ?_⟩
    rw [et, show b - (s.time + (a - s.time) / o.other * o.other) = (b - s.time) + (-((a - s.time) / o.other)) * o.other by rw [Int.neg_mul]; omega, Int.add_mul_ediv_right _ _ (by omega)]
    omega
  have hca : (refill o s a).count = min o.size (s.count + (a - s.time) / o.other) := by rw [refill_count, hka]
  have hcb : (refill o s b).count = min o.size (s.count + (b - s.time) / o.other) := by rw [refill_count, hkb]
  have hcn := k1.cnt (k := n1) (by omega)
  rw [hq1] at hcn
  refine ⟨by omega, by omega, ?_, ?_⟩
  · intro hlt
    obtain ⟨f1, f2, f3⟩ := hnot (by omega)
    have c2' : (refill o (serveS (refill o s a) n1) b).count = cnt (refill o s b).count s.queue n1 := by
      rw [c2, hk2, f3]
      have hcb' : (refill o s b).count = (refill o s a).count + ((b - s.time) / o.other - (a - s.time) / o.other) := by omega
      rw [hcb', cnt_add]; omega
    have hns : nS (refill o s b) = n1 + nS (refill o (serveS (refill o s a) n1) b) := by
      rw [nS, nS, hq2, hq3, c2']
      refine nsv_split _ _ _ ?_
      rw [hn1']; exact nsv_mono _ _ _ (by omega)
    refine ⟨hns.symm, ?_⟩
    have et : (refill o (serveS (refill o s a) n1) b).time = (refill o s b).time := by
      have hlt2 : ¬ o.size ≤ (serveS (refill o s a) n1).count + (b - (serveS (refill o s a) n1).time).tdiv o.other := by
        rw [hcs, hst, hk2, f3]; omega
      have hlt3 : ¬ o.size ≤ s.count + (b - s.time).tdiv o.other := by rw [hkb]; omega
      unfold refill at f2 ⊢
      rw [if_neg (by rw [hka]; omega)] at f2
      rw [if_neg hlt3]
      have g : refill o (serveS (refill o s a) n1) b = { serveS (refill o s a) n1 with count := (serveS (refill o s a) n1).count + (b - (serveS (refill o s a) n1).time).tdiv o.other, time := (serveS (refill o s a) n1).time + (b - (serveS (refill o s a) n1).time).tdiv o.other * o.other } := by
        rw [refill, if_neg hlt2]
      have g2 : (refill o (serveS (refill o s a) n1) b).time = s.time + (b - s.time) / o.other * o.other := by
        rw [g]; show (refill o s a).time + (b - (refill o s a).time).tdiv o.other * o.other = _
        rw [hk2, f3, (hnot (by omega)).2.1, Int.sub_mul]; omega
      have g3 := g2
      unfold refill at g3
      rw [g3]
      show _ = s.time + (b - s.time).tdiv o.other * o.other
      rw [hkb]
    have er : ∀ X Y : St, X.count = cnt Y.count Y.queue n1 → X.time = Y.time → X.queue = Y.queue.drop n1 → X.owner = Y.owner → X.holders = Y.holders → X.buffer = Y.buffer → X.cursors = Y.cursors → X.closed = Y.closed → X.value = Y.value → serveS X (nS X) = serveS Y (n1 + nS X) := by
      intro X Y g1 g2 g3 g4 g5 g6 g7 g8 g9
      cases X; cases Y
      simp only at g1 g2 g3 g4 g5 g6 g7 g8 g9
      subst g1 g2 g3 g4 g5 g6 g7 g8 g9
      simp only [serveS, cnt_drop, List.drop_drop]
    have hfld : ∀ (X : St) (n : Int), (refill o X n).owner = X.owner ∧ (refill o X n).holders = X.holders ∧ (refill o X n).buffer = X.buffer ∧ (refill o X n).cursors = X.cursors ∧ (refill o X n).closed = X.closed ∧ (refill o X n).value = X.value := by
      intro X n; unfold refill; split <;> exact ⟨rfl, rfl, rfl, rfl, rfl, rfl⟩
    obtain ⟨a1, a2, a3, a4, a5, a6⟩ := hfld s a
    obtain ⟨b1, b2, b3, b4, b5, b6⟩ := hfld s b
    obtain ⟨d1, d2, d3, d4, d5, d6⟩ := hfld (serveS (refill o s a) n1) b
    rw [hns]
    exact er _ _ (by rw [c2', hq2]) et (by rw [hq3, hq2]) (by rw [d1, b1]; exact a1) (by rw [d2, b2]; exact a2) (by rw [d3, b3]; exact a3) (by rw [d4, b4]; exact a4) (by rw [d5, b5]; exact a5) (by rw [d6, b6]; exact a6)
  · rw [nS, nS, hq2, hq3]
    rcases Nat.lt_or_ge n1 (nsv (refill o s b).count s.queue) with hlt | hge
    · have hsp := nsv_split s.queue (refill o s b).count n1 (by omega)
      have hcmp : cnt (refill o s b).count s.queue n1 ≤ (refill o (serveS (refill o s a) n1) b).count := by
        have hb1 : cnt (refill o s b).count s.queue n1 = cnt (refill o s a).count s.queue n1 + ((refill o s b).count - (refill o s a).count) := by
          rw [← cnt_add]; congr 1; omega
        rw [c2, hk2, hb1]
        by_cases hlt2 : s.count + (a - s.time) / o.other < o.size
        · obtain ⟨f1, f2, f3⟩ := hnot hlt2
          rw [f3]; omega
        · omega
      have := nsv_mono (s.queue.drop n1) _ _ hcmp
      omega
    · omega
end Lm
namespace Lm
open Wl
theorem due_pack {o : Ob} {s : St} {now : Int} (h : chk o s = 0) (hq : 0 < s.queue.length) (h0 : (apply o s (refC now)).2 = 0) :
    (now < dueI o s → (apply o s (refC now)).1.woken.length = 0) ∧ (dueI o s ≤ now → (apply o s (refC now)).1.woken.length ≠ 0) := by
  rw [apply_ref h] at h0 ⊢
  by_cases hn : now < s.time ∨ 1099511627776 < now
  · rw [if_pos hn] at h0; cases h0
  · rw [if_neg hn]
    have hd := due_iff h hq (now := now) (by omega)
    have hl : (wk s.queue (nS (refill o s now))).length = nS (refill o s now) := wk_lenE (by have := nS_le (refill o s now); rw [refill_q] at this; exact this)
    show (_ → (wk s.queue (nS (refill o s now))).length = 0) ∧ (_ → (wk s.queue (nS (refill o s now))).length ≠ 0)
    rw [hl]
    exact ⟨fun h1 => by omega, fun h1 => by omega⟩
theorem due_far {o : Ob} {s : St} (h : chk o s = 0) (hd : 1099511627776 < dueI o s) : (apply o s (refC (dueI o s))).2 = 2 := by
  rw [apply_ref h, if_pos (.inr hd)]
theorem due_near {o : Ob} {s : St} (h : chk o s = 0) (hq : 0 < s.queue.length) (hd : ¬ 1099511627776 < dueI o s) : (apply o s (refC (dueI o s))).2 = 0 ∧ tokE o s (dueI o s) = 0 ∧ 0 < (apply o s (refC (dueI o s))).1.woken.length ∧
    ((apply o s (refC (dueI o s))).1.woken.getD 0 default).task = s.queue[0].task ∧ s.queue[0].value ≤ tokI o s (dueI o s) := by
  have hb := (due_bd h hq).1
  have he := (due_eq h hq).1
  have ht : s.time ≤ dueI o s := by omega
  have hn : ¬ (dueI o s < s.time ∨ 1099511627776 < dueI o s) := by omega
  have hi := (due_iff h hq ht).2 (Int.le_refl _)
  have hl : (wk s.queue (nS (refill o s (dueI o s)))).length = nS (refill o s (dueI o s)) := wk_lenE (by have := nS_le (refill o s (dueI o s)); rw [refill_q] at this; exact this)
  rw [apply_ref h, if_neg hn, tokE, if_neg (by omega), if_neg hn, tokI, if_neg (by omega), if_neg hn]
  refine ⟨rfl, rfl, by show 0 < (wk _ _).length; omega, ?_, ?_⟩
  · show ((wk s.queue (nS (refill o s (dueI o s)))).getD 0 default).task = _
    have hg := wk_get s.queue (nS (refill o s (dueI o s))) 0 (by omega)
    rw [List.getD_eq_getElem?_getD, List.getElem?_eq_getElem (by omega), Option.getD_some, hg]
    simp [List.getD, hq]
  · have := (nS_pos (s := refill o s (dueI o s)) (by rw [refill_q]; exact hq)).1 hi
    have e : (refill o s (dueI o s)).queue[0]'(by rw [refill_q]; exact hq) = s.queue[0] := by simp [refill_q]
    rw [e] at this; exact this
theorem refills_pack {o : Ob} {s : St} {a b : Int} (h : (apply o s (refC a)).2 = 0) (hab : ¬ b < a) :
    (apply o (apply o s (refC a)).1.state (refC b)).2 = (apply o s (refC b)).2 ∧ ((apply o s (refC b)).2 = 0 →
      (tokE o s a = 0 ∧ tokE o s b = 0 ∧ tokI o s a ≤ tokI o s b ∧ tokI o s b ≤ o.size) ∧
      (tokI o s b < o.size → (apply o s (refC a)).1.woken.length + (apply o (apply o s (refC a)).1.state (refC b)).1.woken.length = (apply o s (refC b)).1.woken.length ∧ (apply o (apply o s (refC a)).1.state (refC b)).1.state = (apply o s (refC b)).1.state) ∧
      (apply o s (refC b)).1.woken.length ≤ (apply o s (refC a)).1.woken.length + (apply o (apply o s (refC a)).1.state (refC b)).1.woken.length) := by
  have hcx := chk_apply h
  have h1 := (apply_zero h).1
  have hra := apply_ref (now := a) h1
  have hna : ¬ (a < s.time ∨ 1099511627776 < a) := fun hn => by rw [hra, if_pos hn] at h; cases h
  rw [if_neg hna] at hra
  rw [hra] at hcx ⊢
  have hk := okk h1
  obtain ⟨k1, k2, k3, k4⟩ := hk.refill (now := a) (by omega)
  rw [apply_ref hcx, apply_ref (now := b) h1]
  have hst : (serveS (refill o s a) (nS (refill o s a))).time = (refill o s a).time := rfl
  by_cases hb : 1099511627776 < b
  · rw [if_pos (.inr hb), if_pos (.inr hb)]; exact ⟨rfl, fun e => by cases e⟩
  · rw [if_neg (show ¬ (b < (serveS (refill o s a) (nS (refill o s a))).time ∨ 1099511627776 < b) by rw [hst]; omega), if_neg (show ¬ (b < s.time ∨ 1099511627776 < b) by omega)]
    refine ⟨rfl, fun _ => ?_⟩
    obtain ⟨r1, r2, r3, r4⟩ := refills_law (a := a) (b := b) h1 (by omega) (by omega) (by omega)
    have ta : tokI o s a = (refill o s a).count := by rw [tokI, if_neg (by omega), if_neg hna]
    have tb : tokI o s b = (refill o s b).count := by rw [tokI, if_neg (by omega), if_neg (by omega)]
    rw [ta, tb, tokE, if_neg (by omega), if_neg hna, tokE, if_neg (by omega), if_neg (by omega)]
    have l1 : (wk s.queue (nS (refill o s a))).length = nS (refill o s a) := wk_lenE (by have := nS_le (refill o s a); rw [refill_q] at this; exact this)
    have l3 : (wk s.queue (nS (refill o s b))).length = nS (refill o s b) := wk_lenE (by have := nS_le (refill o s b); rw [refill_q] at this; exact this)
    have l2 : (wk (serveS (refill o s a) (nS (refill o s a))).queue (nS (refill o (serveS (refill o s a) (nS (refill o s a))) b))).length = nS (refill o (serveS (refill o s a) (nS (refill o s a))) b) :=
      wk_lenE (by have := nS_le (refill o (serveS (refill o s a) (nS (refill o s a))) b); rw [refill_q] at this; exact this)
    show (_ ∧ _) ∧ (_ → (wk _ _).length + (wk _ _).length = (wk _ _).length ∧ _) ∧ (wk _ _).length ≤ (wk _ _).length + (wk _ _).length
    rw [l1, l2, l3]
    exact ⟨⟨rfl, rfl, r1, r2⟩, r3, r4⟩
end Lm
namespace Lm
open Wl
/-! ### The rate -/
/-- What the waiters of task t among the first k ask for. -/
def sq (q : List W) (t : Int) : Nat → Int
  | 0 => 0
  | k + 1 => sq q t k + (if (q.getD k default).task = t then (q.getD k default).value else 0)
def sumW (q : List W) (l : List Wk) : Nat → Int
  | 0 => 0
  | k + 1 => sumW q l k + sq q (l.getD k default).task q.length
def baseR (c : Cl) (R : Rp) : Int := if c.op = 72 ∧ R.ok = true then c.value else 0
def tkn (s : St) (c : Cl) (R : Rp) : Int := baseR c R + sumW s.queue R.woken R.woken.length
def lastT (l : List Int) : Int := l.getD (Int.toNat ((l.length : Int) - 1)) default
abbrev RT := St × List Int × List Int
def stepR (o : Ob) (x : RT) (c : Cl) : RT := if 0 < (x.2.1.length : Int) ∧ c.now < lastT x.2.1 then x else if (apply o x.1 c).2 ≠ 0 then x else ((apply o x.1 c).1.state, x.2.1 ++ [c.now], x.2.2 ++ [tkn x.1 c (apply o x.1 c).1])
def runR (o : Ob) (l : List Cl) (k : Nat) : RT := (l.take k).foldl (stepR o) ((new o).1, [], [])
theorem runR_succ (o : Ob) (l : List Cl) (k : Nat) (h : k < l.length) : runR o l (k + 1) = stepR o (runR o l k) l[k] := by
  unfold runR; rw [List.take_succ_eq_append_getElem h, List.foldl_append]; rfl
def sm (l : List Int) (i k : Nat) : Int := ((l.take k).drop i).sum
theorem sq_succ (q : List W) (t : Int) (k : Nat) (h : k < q.length) : sq q t (k + 1) = sq q t k + (if q[k].task = t then q[k].value else 0) := by
  have e : q.getD k default = q[k] := by simp [List.getD, h]
  rw [sq, e]
theorem sumW_succ (q : List W) (l : List Wk) (k : Nat) (h : k < l.length) : sumW q l (k + 1) = sumW q l k + sq q l[k].task q.length := by
  have e : l.getD k default = l[k] := by simp [List.getD, h]
  rw [sumW, e]
theorem sq_bd {q : List W} (hv : ∀ w ∈ q, 0 ≤ w.value ∧ w.value ≤ 100) (t : Int) : ∀ k, k ≤ q.length → 0 ≤ sq q t k ∧ sq q t k ≤ 100 * k
  | 0, _ => by simp [sq]
  | k + 1, h => by
    have ih := sq_bd hv t k (by omega)
    have := hv _ (List.getElem_mem (show k < q.length by omega))
    rw [sq_succ q t k (by omega)]
    split <;> omega
theorem sumW_bd {q : List W} (hv : ∀ w ∈ q, 0 ≤ w.value ∧ w.value ≤ 100) (hl : q.length ≤ 16) (l : List Wk) : ∀ k, k ≤ l.length → 0 ≤ sumW q l k ∧ sumW q l k ≤ 1600 * k
  | 0, _ => by simp [sumW]
  | k + 1, h => by
    have ih := sumW_bd hv hl l k (by omega)
    have := sq_bd hv l[k].task q.length (Nat.le_refl _)
    rw [sumW_succ q l k (by omega)]
    omega
theorem sq_none {q : List W} {t : Int} : ∀ k, k ≤ q.length → (∀ i (h : i < q.length), i < k → q[i].task ≠ t) → sq q t k = 0
  | 0, _, _ => rfl
  | k + 1, h, hn => by
    rw [sq_succ q t k (by omega), sq_none k (by omega) (fun i hi hk => hn i hi (by omega)), if_neg (hn k (by omega) (by omega))]; rfl
theorem sq_at {q : List W} (hn : (q.map (·.task)).Nodup) {j : Nat} (hj : j < q.length) : ∀ k, j < k → k ≤ q.length → sq q q[j].task k = q[j].value
  | 0, h, _ => by omega
  | k + 1, h, hk => by
    have hne : ∀ i (hi : i < q.length), i ≠ j → q[i].task ≠ q[j].task := fun i hi hij e => by
      rcases Nat.lt_or_gt_of_ne hij with h1 | h1
      · exact (fst_iff q j hj).1 ((fst_nodup q).1 hn j hj) i hi h1 e
      · exact (fst_iff q i hi).1 ((fst_nodup q).1 hn i hi) j hj h1 e.symm
    rw [sq_succ q _ k (by omega)]
    by_cases e : k = j
    · subst e
      rw [sq_none k (by omega) (fun i hi hik => hne i hi (by omega)), if_pos rfl]; omega
    · rw [sq_at hn hj k (by omega) (by omega), if_neg (hne k (by omega) e)]; omega
theorem sumW_wk {q : List W} (hn : (q.map (·.task)).Nodup) (c : Int) (n : Nat) (h : n ≤ q.length) : ∀ k, k ≤ n → sumW q (wk q n) k = c - cnt c q k
  | 0, _ => by simp [sumW, cnt]
  | k + 1, hk => by
    have hl : k < (wk q n).length := by rw [wk_lenE h]; omega
    have e : (wk q n)[k].task = q[k].task := by rw [wk_get]; simp [List.getD, show k < q.length by omega]
    rw [sumW_succ _ _ _ hl, e, sumW_wk hn c n h k (by omega), sq_at hn (by omega) _ (by omega) (Nat.le_refl _), cnt_succ _ _ _ (by omega)]
    omega
/-- What an operation takes from the tokens that there are. -/
theorem take_law {o : Ob} {s : St} {c : Cl} (h : (apply o s c).2 = 0) : (apply o s c).1.state.count = (refill o s c.now).count - tkn s c (apply o s c).1 ∧ (apply o s c).1.state.time = (refill o s c.now).time ∧ 0 ≤ tkn s c (apply o s c).1 ∧ tkn s c (apply o s c).1 ≤ 100 := by
  have hco := okk (chk_apply h)
  obtain ⟨h1, h2, h3⟩ := apply_zero h
  have hk := okk h1
  obtain ⟨e1, e2, e3⟩ := err_zero h2
  obtain ⟨k1, k2, k3, k4⟩ := hk.refill e2
  have hn := nS_le (refill o s c.now)
  have hq := refill_q (o := o) (s := s) (now := c.now)
  have hqn : nS (refill o s c.now) ≤ s.queue.length := by rw [← hq]; exact hn
  have hsum := sumW_wk (okq_nd hk.okq) (refill o s c.now).count _ hqn _ (Nat.le_refl _)
  have hbd := sumW_bd (q := s.queue) (fun w hw => by have := hk.value w hw; have := hk.size; omega) hk.len (wk s.queue (nS (refill o s c.now))) _ (Nat.le_refl _)
  have hwl := wk_lenE hqn
  rw [hwl] at hbd
  have hcnt : (serveS (refill o s c.now) (nS (refill o s c.now))).count = cnt (refill o s c.now).count s.queue (nS (refill o s c.now)) := by show cnt _ (refill o s c.now).queue _ = _; rw [hq]
  have hst : (serveS (refill o s c.now) (nS (refill o s c.now))).time = (refill o s c.now).time := rfl
  have hcc := hco.count
  have hz := hk.size
  have hkc := k1.count
  rw [h3] at hcc ⊢
  unfold tkn
  rcases doR_ways (refill o s c.now) c with ⟨a, b⟩ | ⟨a, b, d, e⟩ | ⟨a, b, e⟩
  · rw [b] at hcc ⊢
    have hb : baseR c ⟨serveS (refill o s c.now) (nS (refill o s c.now)), false, 0, true, wk (refill o s c.now).queue (nS (refill o s c.now))⟩ = 0 := by rw [baseR, if_neg (by omega)]
    rw [hb]
    simp only [hq, hwl] at hcc ⊢
    refine ⟨?_, hst, by omega, ?_⟩ <;> omega
  · rw [e] at hcc ⊢
    obtain ⟨f1, f2, f3, f4⟩ := e3 (by omega)
    have hb : baseR c ⟨{ serveS (refill o s c.now) (nS (refill o s c.now)) with count := (serveS (refill o s c.now) (nS (refill o s c.now))).count - c.value }, false, 0, true, wk (refill o s c.now).queue (nS (refill o s c.now))⟩ = c.value := by rw [baseR, if_pos ⟨by omega, rfl⟩]
    rw [hb]
    simp only [hq, hwl] at hcc ⊢
    refine ⟨?_, hst, by omega, ?_⟩ <;> omega
  · rw [e] at hcc ⊢
    have hb : baseR c ⟨{ serveS (refill o s c.now) (nS (refill o s c.now)) with queue := (serveS (refill o s c.now) (nS (refill o s c.now))).queue ++ [waiter c] }, true, 0, false, wk (refill o s c.now).queue (nS (refill o s c.now))⟩ = 0 := by rw [baseR, if_neg (by simp)]
    rw [hb]
    simp only [hq, hwl] at hcc ⊢
    refine ⟨?_, hst, by omega, ?_⟩ <;> omega
/-- Tokens, and the time towards the next one: by refilling they do not become more. -/
theorem refill_pot {o : Ob} {s : St} {now : Int} (hk : Okk o s) (hn : s.time ≤ now) : (refill o s now).count * o.other + (now - (refill o s now).time) ≤ s.count * o.other + (now - s.time) ∧ (refill o s now).count * o.other + (now - (refill o s now).time) ≤ o.size * o.other := by
  have ho := hk.other
  obtain ⟨h1, h2, h3, h4⟩ := rf_bd (o := o) ho.1 hn
  have h5 := rf_lt (o := o) ho.1 hn
  unfold refill
  split
  · rename_i e
    have := Int.mul_le_mul_of_nonneg_right e (show 0 ≤ o.other by omega)
    rw [Int.add_mul] at this
    show o.size * o.other + (now - now) ≤ _ ∧ o.size * o.other + (now - now) ≤ _
    omega
  · rename_i e
    show (s.count + _) * o.other + (now - (s.time + _)) ≤ _ ∧ (s.count + _) * o.other + (now - (s.time + _)) ≤ _
    have e2 : s.count + (now - s.time).tdiv o.other + 1 ≤ o.size := by omega
    have := Int.mul_le_mul_of_nonneg_right e2 (show 0 ≤ o.other by omega)
    rw [Int.add_mul, Int.add_mul, Int.one_mul] at this
    rw [Int.add_mul, Int.one_mul] at h5
    rw [Int.add_mul]
    omega
theorem lastT_app (l : List Int) (a : Int) : lastT (l ++ [a]) = a := by
  have e : Int.toNat (((l ++ [a]).length : Int) - 1) = l.length := by rw [List.length_append, List.length_singleton]; omega
  rw [lastT, e]; simp [List.getD]
theorem sm_app_lt (l : List Int) (a : Int) (i k : Nat) (h : k ≤ l.length) : sm (l ++ [a]) i k = sm l i k := by
  unfold sm; rw [List.take_append_of_le_length h]
theorem sm_app (l : List Int) (a : Int) (i : Nat) (h : i ≤ l.length) : sm (l ++ [a]) i (l.length + 1) = sm l i l.length + a := by
  unfold sm
  rw [List.take_of_length_le (by simp), List.take_of_length_le (Nat.le_refl _), List.drop_append_of_le_length h, List.sum_append]
  simp
theorem sm_succ (l : List Int) (i k : Nat) (h : i ≤ k) (hk : k < l.length) : sm l i (k + 1) = sm l i k + l[k] := by
  unfold sm
  rw [List.take_succ_eq_append_getElem hk, List.drop_append_of_le_length (by simp; omega), List.sum_append]
  simp
theorem sm_self (l : List Int) (i : Nat) : sm l i i = 0 := by
  unfold sm; rw [List.drop_of_length_le (by rw [List.length_take]; omega)]
  rfl
structure Rt (o : Ob) (x : RT) : Prop where
  c : chk o x.1 = 0
  len : x.2.2.length = x.2.1.length
  tb : ∀ t ∈ x.2.1, 0 ≤ t ∧ t ≤ 1099511627776
  gb : ∀ g ∈ x.2.2, 0 ≤ g ∧ g ≤ 100
  last : 0 < x.2.1.length → x.1.time ≤ lastT x.2.1
  up : ∀ t ∈ x.2.1, t ≤ lastT x.2.1
  pot : ∀ i (h : i < x.2.1.length), sm x.2.2 i x.2.1.length * o.other + (x.1.count * o.other + (lastT x.2.1 - x.1.time)) ≤ o.size * o.other + (lastT x.2.1 - x.2.1[i])
  fin : ∀ i k (hi : i < x.2.1.length) (hk : k < x.2.1.length), i ≤ k → x.2.1[i] ≤ x.2.1[k] ∧ sm x.2.2 i (k + 1) ≤ o.size + (x.2.1[k] - x.2.1[i]).tdiv o.other
theorem Rt.step {o : Ob} {x : RT} (h : Rt o x) (c : Cl) : Rt o (stepR o x c) := by
  unfold stepR
  split
  · exact h
  · rename_i hlast
    split
    · exact h
    · rename_i ha
      have ha : (apply o x.1 c).2 = 0 := by omega
      obtain ⟨t1, t2, t3, t4⟩ := take_law ha
      have hc := chk_apply ha
      obtain ⟨h1, h2, _⟩ := apply_zero ha
      have hk := okk h1
      obtain ⟨e1, e2, e3⟩ := err_zero h2
      obtain ⟨p1, p2⟩ := refill_pot hk e2.1
      obtain ⟨k1, k2, k3, k4⟩ := hk.refill e2
      have ho := hk.other
      have ht := hk.time
      have hcs := (okk hc).count
      obtain ⟨h1, h2, h3, h4, h5, h6, h7, h8⟩ := h
      generalize tkn x.1 c (apply o x.1 c).1 = g at *
      generalize (apply o x.1 c).1.state = S at *
      generalize refill o x.1 c.now = r at *
      obtain ⟨s, times, taken⟩ := x
      simp only at *
      have hup : ∀ t ∈ times, t ≤ c.now := fun t htm => by
        have := h6 t htm
        have : 0 < times.length := List.length_pos_of_mem htm
        omega
      have hcm : S.count * o.other = r.count * o.other - g * o.other := by rw [t1, Int.sub_mul]
      -- the new sums
      have newpot : ∀ i (h : i < (times ++ [c.now]).length), sm (taken ++ [g]) i (times ++ [c.now]).length * o.other + (S.count * o.other + (c.now - S.time)) ≤ o.size * o.other + (c.now - (times ++ [c.now])[i]) := by
        intro i hi
        have hl : (times ++ [c.now]).length = taken.length + 1 := by simp [h2]
        rw [hl, sm_app _ _ _ (by omega), Int.add_mul]
        by_cases e : i < times.length
        · have := h7 i e
          rw [h2, List.getElem_append_left e]
          have hlt : 0 < times.length := by omega
          have hll : lastT times ≤ c.now := by omega
          rw [t2]; omega
        · have e' : i = taken.length := by omega
          have eg : (times ++ [c.now])[i] = c.now := by
            rw [List.getElem_append_right (by omega)]; simp
          rw [eg, e', sm_self, t2]; omega
      refine ⟨hc, by simp [h2], fun t htm => ?_, fun q hq => ?_, fun _ => ?_, fun t htm => ?_, ?_, ?_⟩
      · rcases List.mem_append.1 htm with hm | hm
        · exact h3 t hm
        · rw [List.mem_singleton.1 hm]; omega
      · rcases List.mem_append.1 hq with hm | hm
        · exact h4 q hm
        · rw [List.mem_singleton.1 hm]; exact ⟨t3, t4⟩
      · rw [lastT_app, t2]; exact k4
      · rw [lastT_app]
        rcases List.mem_append.1 htm with hm | hm
        · exact hup t hm
        · rw [List.mem_singleton.1 hm]; omega
      · rw [lastT_app]; exact newpot
      · intro i k hi hk' hik
        by_cases e : k < times.length
        · rw [List.getElem_append_left e, List.getElem_append_left (by omega), sm_app_lt _ _ _ _ (by omega)]
          exact h8 i k (by omega) e hik
        · have e' : k = times.length := by simp at hk'; omega
          subst e'
          have eg : (times ++ [c.now])[times.length] = c.now := by simp
          have hle : (times ++ [c.now])[i] ≤ c.now := by
            rcases List.mem_append.1 (List.getElem_mem hi) with hm | hm
            · exact hup _ hm
            · rw [List.mem_singleton.1 hm]; exact Int.le_refl _
          show (times ++ [c.now])[i] ≤ (times ++ [c.now])[times.length] ∧ sm (taken ++ [g]) i (times.length + 1) ≤ o.size + ((times ++ [c.now])[times.length] - (times ++ [c.now])[i]).tdiv o.other
          rw [eg]
          refine ⟨hle, ?_⟩
          have hp := newpot i hi
          rw [show (times ++ [c.now]).length = times.length + 1 by simp] at hp
          have hcn : 0 ≤ S.count * o.other := Int.mul_nonneg hcs.1 (by omega)
          rw [Int.tdiv_eq_ediv_of_nonneg (by omega)]
          have := (Int.le_ediv_iff_mul_le (a := sm (taken ++ [g]) i (times.length + 1) - o.size) (b := c.now - (times ++ [c.now])[i]) (c := o.other) (by omega)).2 (by
            rw [Int.sub_mul]; omega)
          omega
theorem runR_ok {o : Ob} (h : (new o).2 = 0) (l : List Cl) : ∀ k, k ≤ l.length → Rt o (runR o l k) ∧ (runR o l k).2.1.length ≤ k
  | 0, _ => by
    refine ⟨⟨chk_new h, rfl, ?_, ?_, ?_, ?_, ?_, ?_⟩, Nat.le_refl _⟩
    · intro t ht; cases ht
    · intro t ht; cases ht
    · intro ht; cases ht
    · intro t ht; cases ht
    · intro i hi; cases hi
    · intro i k hi; cases hi
  | k + 1, hk => by
    obtain ⟨ih, ihl⟩ := runR_ok h l k (by omega)
    rw [runR_succ o l k (by omega)]
    refine ⟨ih.step _, ?_⟩
    unfold stepR
    split
    · omega
    · split
      · omega
      · show (_ ++ [_]).length ≤ k + 1; simp; exact ihl
theorem sm_bd {l : List Int} (h : ∀ g ∈ l, 0 ≤ g ∧ g ≤ 100) (i : Nat) : ∀ k, i ≤ k → k ≤ l.length → 0 ≤ sm l i k ∧ sm l i k ≤ 100 * k
  | k, hik, hk => by
    induction k with
    | zero => have : i = 0 := by omega
              subst this; rw [sm_self]; omega
    | succ k ih =>
      by_cases e : i = k + 1
      · subst e; rw [sm_self]; omega
      · have := ih (by omega) (by omega)
        have := h _ (List.getElem_mem (show k < l.length by omega))
        rw [sm_succ l i k (by omega) (by omega)]; omega
end Lm
namespace Lm
open Wl
theorem base_bd {o : Ob} {s : St} {c : Cl} (h : (apply o s c).2 = 0) : 0 ≤ baseR c (apply o s c).1 ∧ baseR c (apply o s c).1 ≤ 100 := by
  obtain ⟨h1, h2, h3⟩ := apply_zero h
  have hk := (okk h1).size
  obtain ⟨e1, e2, e3⟩ := err_zero h2
  unfold baseR
  split
  · rename_i e
    obtain ⟨f1, f2, f3, f4⟩ := e3 e.1
    omega
  · omega
theorem tdiv_bd {a b : Int} (ha : 0 ≤ a) (hb : 1 ≤ b) : 0 ≤ a.tdiv b ∧ a.tdiv b ≤ a := by
  rw [Int.tdiv_eq_ediv_of_nonneg ha]
  exact ⟨Int.ediv_nonneg ha (by omega), Int.ediv_le_self _ ha⟩
end Lm
