/- Barriers: the plain functions, and the laws of them. No condition. -/
import Derived.Test.YtkaiilhpjmjnkaaM18
set_option linter.unusedVariables false
set_option linter.unusedSimpArgs false
namespace Br
open Wl
def new (o : Ob) : St × Int := if o.kind ≠ 5 then (S0, 8) else if (o.size < 1 ∨ 100 < o.size) ∨ o.other ≠ 0 then (S0, 2) else (N0, 0)
def fit (w : W) : Bool := decide (w.op = 63) && decide (w.value = 0) && decide (w.case_ = -1)
def bare (s : St) : St := { s with queue := [], count := 0 }
def ok (o : Ob) (s : St) : Bool := decide (bare s = N0) && (decide (0 ≤ s.count) && decide (s.count ≤ 1099511627776)) && decide ((s.queue.length : Int) < o.size) && decide (check 1 s.queue = 0) && okq fit s.queue
def chk (o : Ob) (s : St) : Int := if (new o).2 ≠ 0 then (new o).2 else if ok o s = false then 1 else 0
def waiter (c : Cl) : W := ⟨c.task, 63, 0, c.prio, -1⟩
def wk (q : List W) (k : Nat) : List Wk := (List.range k).map fun i => ⟨(q.getD i default).task, 63, i, true, -1⟩
def err (s : St) (c : Cl) : Int := if c.op ≠ 63 then 8 else if ¬ (0 ≤ c.task ∧ c.task < 16) then 2 else if ¬ (0 ≤ c.prio ∧ c.prio ≤ 9) then 2 else if findB s.queue c.task = true then 17 else 0
def parkR (s : St) (c : Cl) : Rp := ⟨{ s with queue := s.queue ++ [waiter c] }, true, 0, false, []⟩
def meetR (o : Ob) (s : St) : Rp := ⟨{ s with queue := [], count := s.count + 1 }, false, o.size - 1, true, wk s.queue s.queue.length⟩
def apply (o : Ob) (s : St) (c : Cl) : Rp × Int := if chk o s ≠ 0 then (R0, chk o s) else if err s c ≠ 0 then (R0, err s c) else if (s.queue.length : Int) + 1 < o.size then (parkR s c, 0) else if s.count = 1099511627776 then (R0, 4) else (meetR o s, 0)
def withdraw (o : Ob) (s : St) (t : Int) : Rp × Int := if chk o s ≠ 0 then (R0, chk o s) else if findB s.queue t = false then (R0, 7) else ({ R0 with state := { s with queue := remove s.queue t } }, 0)
def ready (o : Ob) (s : St) (c : Cl) : Bool := decide ((apply o s c).2 = 0) && !(apply o s c).1.parked
def missing (o : Ob) (s : St) : Int := if chk o s ≠ 0 then 0 else o.size - s.queue.length
def outP (o : Ob) (s : St) (k : Nat) : Rp := ⟨S0, false, o.size - 1, true, wk s.queue k⟩
theorem wk_succ (q : List W) (k : Nat) (h : k < q.length) : wk q k ++ [⟨q[k].task, 63, k, true, -1⟩] = wk q (k + 1) := by
  unfold wk; rw [List.range_succ, List.map_append]; simp [List.getD, h]
theorem wk_len (q : List W) (k : Nat) : (wk q k).length = k := by simp [wk]
theorem new_zero {o : Ob} (h : (new o).2 = 0) : o.kind = 5 ∧ 1 ≤ o.size ∧ o.size ≤ 100 ∧ o.other = 0 ∧ (new o).1 = N0 := by
  unfold new at h ⊢
  split
  · rename_i e; rw [if_pos e] at h; cases h
  · rename_i e; rw [if_neg e] at h
    split
    · rename_i e2; rw [if_pos e2] at h; cases h
    · exact ⟨by omega, by omega, by omega, by omega, rfl⟩
theorem bare_iff (s : St) : bare s = N0 ↔ s.owner = -1 ∧ s.time = 0 ∧ s.holders = [] ∧ s.buffer = [] ∧ s.cursors = [] ∧ s.closed = false ∧ s.value = 0 := by
  simp [bare, N0, S0]
theorem ok_parts {o : Ob} {s : St} : ok o s = true ↔ bare s = N0 ∧ (0 ≤ s.count ∧ s.count ≤ 1099511627776) ∧ (s.queue.length : Int) < o.size ∧ check 1 s.queue = 0 ∧ okq fit s.queue = true := by
  simp [ok, and_assoc]
theorem chk_zero {o : Ob} {s : St} : chk o s = 0 ↔ (new o).2 = 0 ∧ ok o s = true := by
  unfold chk
  by_cases h : (new o).2 = 0
  · rw [if_neg (by omega)]
    cases hs : ok o s <;> simp [h]
  · rw [if_pos h]; simp [h]
theorem no_bare {o : Ob} {s : St} (h : ¬ bare s = N0) : ok o s = false := by
  rw [Bool.eq_false_iff]; exact fun e => h (ok_parts.1 e).1
theorem no_cnt {o : Ob} {s : St} (h : s.count < 0 ∨ 1099511627776 < s.count) : ok o s = false := by
  rw [Bool.eq_false_iff]; intro e; have := (ok_parts.1 e).2.1; omega
theorem no_len {o : Ob} {s : St} (h : o.size ≤ s.queue.length) : ok o s = false := by
  rw [Bool.eq_false_iff]; intro e; have := (ok_parts.1 e).2.2.1; omega
theorem no_check {o : Ob} {s : St} (h : ¬ check 1 s.queue = 0) : ok o s = false := by
  rw [Bool.eq_false_iff]; exact fun e => h (ok_parts.1 e).2.2.2.1
theorem no_q {o : Ob} {s : St} {k : Nat} (hk : k < s.queue.length) (h : fit s.queue[k] = false ∨ fstB s.queue k = false) : ok o s = false := by
  rw [Bool.eq_false_iff]; intro e; have := (ok_parts.1 e).2.2.2.2; rw [okq_not hk h] at this; cases this
/-- Who is first in a part is first. -/
theorem fst_take (q : List W) (n i : Nat) (hn : n ≤ q.length) (hi : i < n) : fstB (q.take n) i = fstB q i := by
  have h1 : i < (q.take n).length := by simp; omega
  have h2 : i < q.length := by omega
  rw [Bool.eq_iff_iff, fst_iff _ _ h1, fst_iff _ _ h2]
  constructor
  · intro h j hj hji
    have := h j (by simp; omega) hji
    simpa using this
  · intro h j hj hji
    have := h j (by omega) hji
    simpa using this
theorem kp_all (l : List W) (p : Nat → Bool) : ∀ n, (∀ i, i < n → p i = true) → (kp l p n).length = n
  | 0, _ => rfl
  | n + 1, h => by
    have := kp_all l p n (fun i hi => h i (by omega))
    simp [kp, h n (by omega), this]
theorem tasks_take (q : List W) (k : Nat) (hk : k < q.length) (h : ∀ i, i < k → fstB q i = true) : (tasks (q.take (k + 1))).length = if fstB q k = true then k + 1 else k := by
  have hl : (q.take (k + 1)).length = k + 1 := by simp; omega
  unfold tasks
  rw [List.length_map, hl]
  have h1 := kp_all (q.take (k + 1)) (fstB (q.take (k + 1))) k (fun i hi => by rw [fst_take q _ _ (by omega) (by omega)]; exact h i hi)
  show (if fstB (q.take (k + 1)) k = true then _ else _ : List W).length = _
  rw [fst_take q _ _ (by omega) (by omega)]
  split
  · simp [h1]
  · exact h1
end Br
namespace Br
open Wl
theorem fst_find (q : List W) (k : Nat) (hk : k < q.length) : fstB q k = !findB (q.take k) q[k].task := by
  rw [Bool.eq_iff_iff, fst_iff q k hk]
  simp only [Bool.not_eq_true', findB_false]
  constructor
  · intro h w hw
    obtain ⟨i, hi, rfl⟩ := List.getElem_of_mem hw
    simp at hi
    simpa using h i (by omega) (by omega)
  · intro h i hi hik
    exact h q[i] (List.mem_take_iff_getElem.2 ⟨i, by omega, rfl⟩)
end Br
namespace Br
open Wl
theorem good_iff {w : W} : (fit w = true ∧ valid w = true) ↔ w.op = 63 ∧ w.value = 0 ∧ w.case_ = -1 ∧ 0 ≤ w.task ∧ w.task < 16 ∧ 0 ≤ w.prio ∧ w.prio ≤ 9 := by
  simp [fit, valid]; omega
theorem no_ref {o : Ob} {s : St} {k : Nat} (hk : k < s.queue.length) (h : ¬ ((fit s.queue[k] = true ∧ valid s.queue[k] = true) ∧ fstB s.queue k = true)) : ok o s = false := by
  rw [Bool.eq_false_iff]; intro e
  obtain ⟨_, _, _, h4, h5⟩ := ok_parts.1 e
  exact h ⟨⟨okq_all h5 _ (List.getElem_mem hk), ((check_fifo _).1 h4).2 _ (List.getElem_mem hk)⟩, (fst_nodup _).1 (okq_nd h5) k hk⟩
theorem same_bare {s : St} : s = ⟨-1, s.count, 0, [], s.queue, [], [], false, 0⟩ ↔ bare s = N0 := by
  cases s; simp [bare, N0, S0]
theorem yes_ref {o : Ob} {s : St} (h1 : bare s = N0) (h2 : 0 ≤ s.count ∧ s.count ≤ 1099511627776) (h3 : (s.queue.length : Int) < o.size) (h4 : ∀ i (h : i < s.queue.length), (fit s.queue[i] = true ∧ valid s.queue[i] = true) ∧ fstB s.queue i = true) : ok o s = true := by
  have hq : okq fit s.queue = true := okq_of fun i hi => ⟨(h4 i hi).1.1, (h4 i hi).2⟩
  have hv : ∀ w ∈ s.queue, valid w = true := fun w hw => by
    obtain ⟨i, hi, rfl⟩ := List.getElem_of_mem hw
    exact (h4 i hi).1.2
  exact ok_parts.2 ⟨h1, h2, h3, (check_fifo _).2 ⟨by have := okq_len hq hv; omega, hv⟩, hq⟩
theorem meet_state {s : St} (h : bare s = N0) : ({ s with queue := [], count := s.count + 1 } : St) = ⟨-1, s.count + 1, 0, [], [], [], [], false, 0⟩ := by
  obtain ⟨a1, a2, a3, a4, a5, a6, a7⟩ := (bare_iff s).1 h
  simp [a1, a2, a3, a4, a5, a6, a7]
theorem new_sm (o : Ob) {n : Nat} : smN n (new o).1 := by
  unfold new
  split
  · exact smN_S0
  · split
    · exact smN_S0
    · exact ⟨Nat.zero_le _, Nat.zero_le _, Nat.zero_le _, Nat.zero_le _, fun c hc => by simp [N0, S0] at hc⟩
theorem apply_sm {o : Ob} {s : St} {c : Cl} {n : Nat} (h : smN n s) : smN (n + 1) (apply o s c).1.state ∧ (apply o s c).1.woken.length ≤ n := by
  have h0 : smN (n + 1) R0.state ∧ R0.woken.length ≤ n := ⟨smN_S0, Nat.zero_le _⟩
  unfold apply
  split
  · exact h0
  · split
    · exact h0
    · split
      · exact ⟨(h.le (Nat.le_succ n)).withQ (by have := h.q; simp; omega), Nat.zero_le _⟩
      · split
        · exact h0
        · exact ⟨⟨Nat.le_succ_of_le h.h, Nat.zero_le _, Nat.le_succ_of_le h.b, Nat.le_succ_of_le h.c, fun c hc => Nat.le_succ_of_le (h.d c hc)⟩, by have := h.q; simp [meetR, wk_len]; omega⟩
theorem withdraw_sm {o : Ob} {s : St} {t : Int} {n : Nat} (h : smN n s) : smN n (withdraw o s t).1.state ∧ (withdraw o s t).1.woken.length ≤ 0 := by
  unfold withdraw
  split
  · exact ⟨smN_S0, Nat.zero_le _⟩
  · split
    · exact ⟨smN_S0, Nat.zero_le _⟩
    · exact ⟨h.withQ (by have := remove_len s.queue t; have := h.q; omega), Nat.zero_le _⟩
instance {o : Ob} : Sm (new o).1 0 := ⟨new_sm o⟩
instance {o : Ob} {s : St} {c : Cl} {n : Nat} [h : Sm s n] : Sm (apply o s c).1.state (n + 1) := ⟨(apply_sm h.sm).1⟩
instance {o : Ob} {s : St} {t : Int} {n : Nat} [h : Sm s n] : Sm (withdraw o s t).1.state n := ⟨(withdraw_sm h.sm).1⟩
theorem apply_wl {o : Ob} {s : St} {c : Cl} {n m : Nat} [h : Sm s n] (k : n ≤ m) : (apply o s c).1.woken.length ≤ m := Nat.le_trans (apply_sm h.sm).2 k
theorem withdraw_wl {o : Ob} {s : St} {t : Int} {n m : Nat} [h : Sm s n] : (withdraw o s t).1.woken.length ≤ m := Nat.le_trans (withdraw_sm h.sm).2 (Nat.zero_le _)
end Br
namespace Br
open Wl
/-! ### Laws -/
theorem ok_iff {o : Ob} {s : St} : ok o s = true ↔ bare s = N0 ∧ (0 ≤ s.count ∧ s.count ≤ 1099511627776) ∧ (s.queue.length : Int) < o.size ∧ (∀ w ∈ s.queue, valid w = true) ∧ okq fit s.queue = true := by
  rw [ok_parts]
  constructor
  · rintro ⟨h1, h2, h3, h4, h5⟩; exact ⟨h1, h2, h3, ((check_fifo _).1 h4).2, h5⟩
  · rintro ⟨h1, h2, h3, h4, h5⟩; exact ⟨h1, h2, h3, (check_fifo _).2 ⟨by have := okq_len h5 h4; omega, h4⟩, h5⟩
theorem err_zero {s : St} {c : Cl} (h : err s c = 0) : c.op = 63 ∧ (0 ≤ c.task ∧ c.task < 16) ∧ (0 ≤ c.prio ∧ c.prio ≤ 9) ∧ findB s.queue c.task = false := by
  unfold err at h
  split at h
  · cases h
  · split at h
    · cases h
    · split at h
      · cases h
      · split at h
        · cases h
        · rename_i h1 h2 h3 h4
          exact ⟨by omega, by omega, by omega, by simpa using h4⟩
theorem apply_zero {o : Ob} {s : St} {c : Cl} (h : (apply o s c).2 = 0) : chk o s = 0 ∧ err s c = 0 ∧ (((s.queue.length : Int) + 1 < o.size ∧ (apply o s c).1 = parkR s c) ∨ (¬ (s.queue.length : Int) + 1 < o.size ∧ s.count ≠ 1099511627776 ∧ (apply o s c).1 = meetR o s)) := by
  unfold apply at h ⊢
  split
  · rename_i e; rw [if_pos e] at h; exact absurd h e
  · rename_i e; rw [if_neg e] at h
    split
    · rename_i e2; rw [if_pos e2] at h; exact absurd h e2
    · rename_i e2; rw [if_neg e2] at h
      split
      · rename_i e3; exact ⟨by omega, by omega, .inl ⟨e3, rfl⟩⟩
      · rename_i e3; rw [if_neg e3] at h
        split
        · rename_i e4; rw [if_pos e4] at h; cases h
        · rename_i e4; exact ⟨by omega, by omega, .inr ⟨e3, e4, rfl⟩⟩
theorem withdraw_zero {o : Ob} {s : St} {t : Int} (h : (withdraw o s t).2 = 0) : chk o s = 0 ∧ findB s.queue t = true ∧ (withdraw o s t).1 = { R0 with state := { s with queue := remove s.queue t } } := by
  unfold withdraw at h ⊢
  split
  · rename_i e; rw [if_pos e] at h; exact absurd h e
  · rename_i e; rw [if_neg e] at h
    split
    · rename_i e2; rw [if_pos e2] at h; cases h
    · rename_i e2; exact ⟨by omega, by simpa using e2, rfl⟩
theorem waiter_valid {c : Cl} (ht : 0 ≤ c.task ∧ c.task < 16) (hp : 0 ≤ c.prio ∧ c.prio ≤ 9) : valid (waiter c) = true := (good_iff.2 ⟨rfl, rfl, rfl, ht.1, ht.2, hp.1, hp.2⟩).2
theorem chk_apply {o : Ob} {s : St} {c : Cl} (h : (apply o s c).2 = 0) : chk o (apply o s c).1.state = 0 := by
  obtain ⟨h1, h2, h3⟩ := apply_zero h
  obtain ⟨k1, k2⟩ := chk_zero.1 h1
  obtain ⟨z1, z2, z3, z4, _⟩ := new_zero k1
  obtain ⟨p1, p2, p3, p4, p5⟩ := ok_iff.1 k2
  obtain ⟨e1, e2, e3, e4⟩ := err_zero h2
  refine chk_zero.2 ⟨k1, ?_⟩
  rcases h3 with ⟨a, b⟩ | ⟨a, b, d⟩
  · rw [b, ok_iff]
    refine ⟨p1, p2, by show (((s.queue ++ [waiter c]).length : Nat) : Int) < o.size; simp; omega, fun w hw => ?_, okq_push p5 (by simp [fit, waiter]) e4⟩
    rcases List.mem_append.1 hw with hw | hw
    · exact p4 w hw
    · rw [List.mem_singleton.1 hw]; exact waiter_valid e2 e3
  · rw [d, ok_iff]
    exact ⟨p1, ⟨by show 0 ≤ s.count + 1; omega, by show s.count + 1 ≤ _; omega⟩, by show ((0 : Nat) : Int) < o.size; omega, by simp [meetR], by simp [meetR, okq]⟩
theorem chk_withdraw {o : Ob} {s : St} {t : Int} (h : (withdraw o s t).2 = 0) : chk o (withdraw o s t).1.state = 0 := by
  obtain ⟨h1, h2, h3⟩ := withdraw_zero h
  obtain ⟨k1, k2⟩ := chk_zero.1 h1
  obtain ⟨p1, p2, p3, p4, p5⟩ := ok_iff.1 k2
  refine chk_zero.2 ⟨k1, ?_⟩
  rw [h3, ok_iff]
  have := remove_len s.queue t
  exact ⟨p1, p2, by show ((remove s.queue t).length : Int) < o.size; omega, fun w hw => p4 w (List.mem_filter.1 hw).1, okq_sub p5 List.filter_sublist⟩
theorem chk_new {o : Ob} (h : (new o).2 = 0) : chk o (new o).1 = 0 := by
  obtain ⟨z1, z2, z3, z4, z5⟩ := new_zero h
  refine chk_zero.2 ⟨h, ?_⟩
  rw [z5, ok_iff]
  exact ⟨rfl, by decide, by show ((0 : Nat) : Int) < o.size; omega, by simp [N0, S0], by simp [N0, S0, okq]⟩
theorem ready_law {o : Ob} {s : St} {c : Cl} : ready o s c = (decide ((apply o s c).2 = 0) && decide (missing o s = 1)) := by
  unfold ready
  by_cases h : (apply o s c).2 = 0
  · obtain ⟨h1, h2, h3⟩ := apply_zero h
    obtain ⟨k1, k2⟩ := chk_zero.1 h1
    obtain ⟨p1, p2, p3, p4, p5⟩ := ok_iff.1 k2
    have hm : missing o s = o.size - s.queue.length := by rw [missing, if_neg (by omega)]
    rw [hm]
    rcases h3 with ⟨a, b⟩ | ⟨a, b, d⟩
    · rw [b]; simp [h, parkR]; omega
    · rw [d]; simp [h, meetR]; omega
  · simp [h]
end Br
namespace Br
open Wl
/-! ### Runs -/
abbrev md (x n : Int) : Int := (Go.IntKind.i64.wrap x).tmod n
theorem wrap_small {t : Int} (h : 0 ≤ t ∧ t ≤ 255) : Go.IntKind.i64.wrap t = t := by rw [Go.IntKind.wrap_i64]; omega
theorem md_lt {x n : Int} (h : 0 ≤ x ∧ x ≤ 255) (hn : 0 < n) : 0 ≤ md x n ∧ md x n < n := by
  unfold md; rw [wrap_small h, Int.tmod_eq_emod_of_nonneg h.1]
  exact ⟨Int.emod_nonneg _ (by omega), Int.emod_lt_of_pos _ hn⟩
def obj (n : Int) : Ob := ⟨⟨#[]⟩, 5, n, 0⟩
def arr (t : Int) : Cl := ⟨t, 63, 0, 0, 0⟩
theorem obj_new {n : Int} (h : 1 ≤ n ∧ n ≤ 100) : new (obj n) = (N0, 0) := by
  unfold new obj
  rw [if_neg (by simp), if_neg (by simp; omega)]
theorem remove_one {q : List W} {t : Int} (hn : (q.map (·.task)).Nodup) (h : findB q t = true) : (remove q t).length + 1 = q.length := by
  induction q with
  | nil => cases h
  | cons w q ih =>
    rw [List.map_cons, List.nodup_cons] at hn
    by_cases e : w.task = t
    · have hq : findB q t = false := findB_false.2 fun v hv hvt => hn.1 (List.mem_map.2 ⟨v, hv, by rw [hvt, e]⟩)
      have : remove (w :: q) t = remove q t := by simp [remove, e]
      rw [this, Cv.remove_notin hq]; rfl
    · have hq : findB q t = true := by
        obtain ⟨v, hv, hvt⟩ := findB_true.1 h
        rcases List.mem_cons.1 hv with rfl | hv
        · exact absurd hvt e
        · exact findB_true.2 ⟨v, hv, hvt⟩
      have : remove (w :: q) t = w :: remove q t := by simp [remove, e]
      rw [this, List.length_cons, List.length_cons, ih hn.2 hq]
abbrev CT := St × Int × Int × Int
def stepN (o : Ob) (x : CT) (v : Int) : CT :=
  if 16 ≤ v then (if (withdraw o x.1 (md v 16)).2 = 0 then ((withdraw o x.1 (md v 16)).1.state, x.2.1, x.2.2.1, x.2.2.2 + 1) else x)
  else if (apply o x.1 (arr (md v 16))).2 = 0 then ((apply o x.1 (arr (md v 16))).1.state, x.2.1 + 1, (if (apply o x.1 (arr (md v 16))).1.parked = true then x.2.2.1 else x.2.2.1 + (1 + ((apply o x.1 (arr (md v 16))).1.woken.length : Int))), x.2.2.2) else x
def runN (o : Ob) (l : List Int) (k : Nat) : CT := (l.take k).foldl (stepN o) ((new o).1, 0, 0, 0)
theorem runN_succ (o : Ob) (l : List Int) (k : Nat) (h : k < l.length) : runN o l (k + 1) = stepN o (runN o l k) l[k] := by
  unfold runN; rw [List.take_succ_eq_append_getElem h, List.foldl_append]; rfl
structure Cnt (o : Ob) (x : CT) (k : Nat) : Prop where
  c : chk o x.1 = 0
  e : x.2.2.1 = x.1.count * o.size
  a : x.2.1 = x.2.2.1 + x.2.2.2 + x.1.queue.length
  w : 0 ≤ x.2.2.2
  k : x.2.1 ≤ k
theorem Cnt.step {o : Ob} {x : CT} {k : Nat} (h : Cnt o x k) (v : Int) : Cnt o (stepN o x v) (k + 1) := by
  obtain ⟨h1, h2, h3, h4, h5⟩ := h
  obtain ⟨k1, k2⟩ := chk_zero.1 h1
  obtain ⟨p1, p2, p3, p4, p5⟩ := ok_iff.1 k2
  unfold stepN
  split
  · split
    · rename_i hw
      obtain ⟨w1, w2, w3⟩ := withdraw_zero hw
      have hc := chk_withdraw hw
      have hr := remove_one (okq_nd p5) w2
      refine ⟨hc, ?_, ?_, by show 0 ≤ x.2.2.2 + 1; omega, by show x.2.1 ≤ _; omega⟩
      · show x.2.2.1 = (withdraw o x.1 (md v 16)).1.state.count * o.size
        rw [w3]; exact h2
      · show x.2.1 = x.2.2.1 + (x.2.2.2 + 1) + ((withdraw o x.1 (md v 16)).1.state.queue.length : Nat)
        rw [w3]; show x.2.1 = x.2.2.1 + (x.2.2.2 + 1) + ((remove x.1.queue (md v 16)).length : Nat)
        omega
    · exact ⟨h1, h2, h3, h4, by omega⟩
  · split
    · rename_i ha
      obtain ⟨a1, a2, a3⟩ := apply_zero ha
      have hc := chk_apply ha
      rcases a3 with ⟨b1, b2⟩ | ⟨b1, b2, b3⟩
      · rw [b2] at hc ⊢
        refine ⟨hc, h2, ?_, h4, by show x.2.1 + 1 ≤ _; omega⟩
        show x.2.1 + 1 = x.2.2.1 + x.2.2.2 + ((x.1.queue ++ [waiter (arr (md v 16))]).length : Nat)
        simp; omega
      · rw [b3] at hc ⊢
        have hwl : (meetR o x.1).woken.length = x.1.queue.length := wk_len _ _
        refine ⟨hc, ?_, ?_, h4, by show x.2.1 + 1 ≤ _; omega⟩
        · show x.2.2.1 + (1 + ((meetR o x.1).woken.length : Int)) = (x.1.count + 1) * o.size
          rw [Int.add_mul, ← h2]; omega
        · show x.2.1 + 1 = x.2.2.1 + (1 + ((meetR o x.1).woken.length : Int)) + x.2.2.2 + ((0 : Nat) : Int)
          omega
    · exact ⟨h1, h2, h3, h4, by omega⟩
theorem runN_ok {o : Ob} (h : (new o).2 = 0) (l : List Int) : ∀ k, k ≤ l.length → Cnt o (runN o l k) k
  | 0, _ => by
    have hc := chk_new h
    have he := (new_zero h).2.2.2.2
    refine ⟨hc, ?_, ?_, Int.le_refl _, Int.le_refl _⟩
    · show (0 : Int) = (new o).1.count * o.size
      rw [he]; simp [N0, S0]
    · show (0 : Int) = 0 + 0 + ((new o).1.queue.length : Nat)
      rw [he]; rfl
  | k + 1, hk => by
    rw [runN_succ o l k (by omega)]
    exact (runN_ok h l k (by omega)).step _
theorem chk_sm {o : Ob} {s : St} (h : chk o s = 0) : smN 16 s := by
  obtain ⟨k1, k2⟩ := chk_zero.1 h
  obtain ⟨p1, p2, p3, p4, p5⟩ := ok_iff.1 k2
  obtain ⟨a1, a2, a3, a4, a5, a6, a7⟩ := (bare_iff s).1 p1
  refine ⟨by simp [a3], okq_len p5 p4, by simp [a4], by simp [a5], fun c hc => by rw [a5] at hc; cases hc⟩
theorem Cnt.bounds {o : Ob} {x : CT} {k : Nat} (h : Cnt o x k) : 0 ≤ x.2.1 ∧ 0 ≤ x.2.2.1 ∧ x.2.2.1 ≤ k ∧ 0 ≤ x.2.2.2 ∧ x.2.2.2 ≤ k ∧ 0 ≤ x.1.count := by
  obtain ⟨h1, h2, h3, h4, h5⟩ := h
  obtain ⟨k1, k2⟩ := chk_zero.1 h1
  obtain ⟨z1, z2, z3, z4, _⟩ := new_zero k1
  obtain ⟨p1, p2, p3, p4, p5⟩ := ok_iff.1 k2
  have := Int.mul_nonneg p2.1 (by omega : 0 ≤ o.size)
  omega
/-! ### With a waiter, and without -/
structure Bes (o : Ob) (t : Int) (x y : St) : Prop where
  cx : chk o x = 0
  cy : chk o y = 0
  q : ∃ a b w, w.task = t ∧ y.queue = a ++ b ∧ findB (a ++ b) t = false ∧ x = { y with queue := a ++ [w] ++ b }
theorem Bes.start {o : Ob} {s : St} {c : Cl} (h : (apply o s c).2 = 0) (hp : (apply o s c).1.parked = true) : Bes o c.task (apply o s c).1.state s := by
  obtain ⟨h1, h2, h3⟩ := apply_zero h
  have hc := chk_apply h
  obtain ⟨e1, e2, e3, e4⟩ := err_zero h2
  rcases h3 with ⟨a, b⟩ | ⟨a, b, d⟩
  · refine ⟨hc, h1, s.queue, [], waiter c, rfl, by simp, by simpa using e4, ?_⟩
    rw [b]; simp [parkR]
  · rw [d] at hp; cases hp
theorem Bes.step {o : Ob} {t u : Int} {x y : St} (h : Bes o t x y) (hu : u ≠ t) (h4 : (apply o x (arr u)).2 ≠ 4) (hp : (apply o x (arr u)).2 = 0 → (apply o x (arr u)).1.parked = true) :
    (apply o y (arr u)).2 = (apply o x (arr u)).2 ∧ ((apply o x (arr u)).2 = 0 → (apply o y (arr u)).1.parked = true ∧ Bes o t (apply o x (arr u)).1.state (apply o y (arr u)).1.state) := by
  obtain ⟨h1, h2, a, b, w, hw, hy, hn, hx⟩ := h
  have hq : x.queue = a ++ [w] ++ b := by rw [hx]
  have hcn : x.count = y.count := by rw [hx]
  have hf : findB x.queue u = findB y.queue u := by
    rw [hq, hy, Cv.findB_append, Cv.findB_append, Cv.findB_append]
    have : findB [w] u = false := findB_false.2 (fun v hv => by rw [List.mem_singleton.1 hv, hw]; exact fun e => hu e.symm)
    rw [this, Bool.or_false]
  have he : err x (arr u) = err y (arr u) := by
    unfold err; rw [show findB x.queue (arr u).task = findB y.queue (arr u).task from hf]
  have hl : x.queue.length = y.queue.length + 1 := by rw [hq, hy]; simp; omega
  by_cases he0 : err y (arr u) = 0
  · have hax : apply o x (arr u) = if (x.queue.length : Int) + 1 < o.size then (parkR x (arr u), 0) else if x.count = 1099511627776 then (R0, 4) else (meetR o x, 0) := by
      rw [apply, if_neg (by omega), if_neg (by omega)]
    have hay : apply o y (arr u) = if (y.queue.length : Int) + 1 < o.size then (parkR y (arr u), 0) else if y.count = 1099511627776 then (R0, 4) else (meetR o y, 0) := by
      rw [apply, if_neg (by omega), if_neg (by omega)]
    by_cases hz : (x.queue.length : Int) + 1 < o.size
    · rw [if_pos hz] at hax
      rw [if_pos (by omega)] at hay
      rw [hax, hay]
      refine ⟨rfl, fun _ => ⟨rfl, ?_, ?_, a, b ++ [waiter (arr u)], w, hw, by simp [parkR, hy], ?_, ?_⟩⟩
      · have := chk_apply (o := o) (s := x) (c := arr u) (by rw [hax]); rw [hax] at this; exact this
      · have := chk_apply (o := o) (s := y) (c := arr u) (by rw [hay]); rw [hay] at this; exact this
      · rw [← List.append_assoc, Cv.findB_append, hn, Bool.false_or]
        exact findB_false.2 (fun v hv => by rw [List.mem_singleton.1 hv]; exact hu)
      · rw [hx]; simp [parkR]
    · exfalso
      rw [if_neg hz] at hax
      by_cases h5 : x.count = 1099511627776
      · rw [if_pos h5] at hax; rw [hax] at h4; exact h4 rfl
      · rw [if_neg h5] at hax; rw [hax] at hp; cases hp rfl
  · have hax : apply o x (arr u) = (R0, err x (arr u)) := by rw [apply, if_neg (by omega), if_pos (by omega)]
    have hay : apply o y (arr u) = (R0, err y (arr u)) := by rw [apply, if_neg (by omega), if_pos (by omega)]
    rw [hax, hay, he]
    exact ⟨rfl, fun e => absurd e he0⟩
theorem Bes.fin {o : Ob} {t : Int} {x y : St} (h : Bes o t x y) : (withdraw o x t).2 = 0 ∧ (withdraw o x t).1.state = y ∧ (withdraw o y t).2 = 7 := by
  obtain ⟨h1, h2, a, b, w, hw, hy, hn, hx⟩ := h
  have hq : x.queue = a ++ [w] ++ b := by rw [hx]
  have hft : findB x.queue t = true := findB_true.2 ⟨w, by rw [hq]; simp, hw⟩
  have hr : withdraw o x t = ({ R0 with state := { x with queue := remove x.queue t } }, 0) := by
    rw [withdraw, if_neg (by omega), if_neg (by simp [hft])]
  rw [hr]
  refine ⟨rfl, ?_, by rw [withdraw, if_neg (by omega), if_pos (by rw [hy]; exact hn)]⟩
  show ({ x with queue := remove x.queue t } : St) = y
  rw [Cv.findB_append, Bool.or_eq_false_iff] at hn
  have hself : remove [w] t = [] := by rw [← hw]; exact Cv.remove_self w
  have hq2 : remove x.queue t = y.queue := by
    rw [hq, Cv.remove_append, Cv.remove_append, Cv.remove_notin hn.1, Cv.remove_notin hn.2, hself, List.append_nil, hy]
  rw [hq2, hx]
/-! ### In step -/
theorem pigeon (n : Nat) (l : List Int) (hn : l.Nodup) (h : ∀ x ∈ l, 0 ≤ x ∧ x < n) (hl : l.length = n) (j : Int) (hj : 0 ≤ j ∧ j < n) : j ∈ l := by
  rcases Classical.em (j ∈ l) with h1 | h1
  · exact h1
  · have := nodup16 n (j :: l) (List.nodup_cons.2 ⟨h1, hn⟩) (fun x hx => by
      rcases List.mem_cons.1 hx with rfl | hx
      · exact hj
      · exact h x hx)
    simp at this; omega
structure Stp (n : Int) (s : St) : Prop where
  c : chk (obj n) s = 0
  t : ∀ w ∈ s.queue, w.task < n
/-- How often task j has ended behind the first k that are woken. -/
def fW (c0 : Int) (p : Bool) (t : Int) (l : List Wk) (k : Nat) (j : Int) : Int := c0 + (if p = true then 0 else if j = t then 1 else 0) + (((l.take k).countP (fun w => decide (w.task = j)) : Nat) : Int)
theorem fW_succ (c0 : Int) (p : Bool) (t : Int) (l : List Wk) (k : Nat) (h : k < l.length) (j : Int) : fW c0 p t l (k + 1) j = if j = l[k].task then fW c0 p t l k j + 1 else fW c0 p t l k j := by
  unfold fW
  rw [List.take_succ_eq_append_getElem h, List.countP_append, List.countP_singleton]
  by_cases e : j = l[k].task
  · rw [if_pos e, if_pos (decide_eq_true e.symm)]; omega
  · rw [if_neg e, if_neg (show ¬ decide (l[k].task = j) = true from fun h => e (of_decide_eq_true h).symm)]; omega
theorem countP_nodup {l : List Int} (hn : l.Nodup) {j : Int} (h : j ∈ l) : l.countP (fun x => decide (x = j)) = 1 := by
  induction l with
  | nil => cases h
  | cons a l ih =>
    rw [List.nodup_cons] at hn
    rw [List.countP_cons]
    by_cases e : a = j
    · subst e
      have : l.countP (fun x => decide (x = a)) = 0 := by
        rw [List.countP_eq_zero]; intro x hx; simp; rintro rfl; exact hn.1 hx
      rw [this]; simp
    · rcases List.mem_cons.1 h with rfl | h
      · exact absurd rfl e
      · rw [ih hn.2 h]; simp [e]
theorem Stp.step {n : Int} {s : St} (h : Stp n s) (hn : 1 ≤ n ∧ n ≤ 6) {t : Int} (ht : 0 ≤ t ∧ t < n) (h0 : (apply (obj n) s (arr t)).2 = 0) :
    Stp n (apply (obj n) s (arr t)).1.state ∧ (∀ w ∈ (apply (obj n) s (arr t)).1.woken, 0 ≤ w.task ∧ w.task < n) ∧ (apply (obj n) s (arr t)).1.woken.length ≤ 6 ∧
    ∀ j, 0 ≤ j ∧ j < n → fW s.count (apply (obj n) s (arr t)).1.parked t (apply (obj n) s (arr t)).1.woken (apply (obj n) s (arr t)).1.woken.length j = (apply (obj n) s (arr t)).1.state.count := by
  obtain ⟨h1, h2⟩ := h
  obtain ⟨k1, k2⟩ := chk_zero.1 h1
  obtain ⟨p1, p2, p3, p4, p5⟩ := ok_iff.1 k2
  obtain ⟨a1, a2, a3⟩ := apply_zero h0
  obtain ⟨e1, e2, e3, e4⟩ := err_zero a2
  have hc := chk_apply h0
  have p3' : (s.queue.length : Int) < n := p3
  rcases a3 with ⟨b1, b2⟩ | ⟨b1, b2, b3⟩
  · rw [b2] at hc ⊢
    refine ⟨⟨hc, fun w hw => ?_⟩, by simp [parkR], by simp [parkR], fun j hj => by simp [fW, parkR]⟩
    rcases List.mem_append.1 hw with hw | hw
    · exact h2 w hw
    · rw [List.mem_singleton.1 hw]; exact ht.2
  · have b1' : ¬ (s.queue.length : Int) + 1 < n := b1
    rw [b3] at hc ⊢
    have htl : (meetR (obj n) s).woken.map (·.task) = s.queue.map (·.task) := by
      refine List.ext_getElem (by simp [meetR, wk_len]) fun i hi hi2 => ?_
      simp at hi2
      simp [meetR, wk, List.getD, hi2]
    have hwl : (meetR (obj n) s).woken.length = s.queue.length := wk_len _ _
    refine ⟨⟨hc, by simp [meetR]⟩, fun w hw => ?_, by omega, fun j hj => ?_⟩
    · have : w.task ∈ s.queue.map (·.task) := by rw [← htl]; exact List.mem_map.2 ⟨w, hw, rfl⟩
      obtain ⟨v, hv, e⟩ := List.mem_map.1 this
      have := (valid_task (p4 v hv)).1
      have := h2 v hv
      omega
    · have hnd : (t :: s.queue.map (·.task)).Nodup := List.nodup_cons.2 ⟨fun hm => by
        obtain ⟨v, hv, e⟩ := List.mem_map.1 hm
        exact findB_false.1 e4 v hv e, okq_nd p5⟩
      have hm := pigeon n.toNat (t :: s.queue.map (·.task)) hnd (fun x hx => by
        rcases List.mem_cons.1 hx with rfl | hx
        · omega
        · obtain ⟨v, hv, rfl⟩ := List.mem_map.1 hx
          have := (valid_task (p4 v hv)).1
          have := h2 v hv
          omega) (by simp; omega) j (by omega)
      have hcp := countP_nodup hnd hm
      have hcq : (meetR (obj n) s).woken.countP (fun w => decide (w.task = j)) = (s.queue.map (·.task)).countP (fun x => decide (x = j)) := by
        rw [← htl, List.countP_map]; rfl
      unfold fW
      rw [List.take_length, hcq]
      rw [List.countP_cons] at hcp
      show s.count + (if false = true then 0 else if j = t then 1 else 0) + _ = s.count + 1
      rw [if_neg (by simp)]
      by_cases e : j = t
      · subst e
        rw [if_pos rfl]
        rw [if_pos (by simp)] at hcp; omega
      · rw [if_neg e]
        rw [if_neg (by simp; exact fun h => e h.symm)] at hcp; omega
def stepS (n : Int) (s : St) (x : Int) : St := if (apply (obj n) s (arr (md x n))).2 = 0 then (apply (obj n) s (arr (md x n))).1.state else s
def runS (n : Int) (l : List Int) (k : Nat) : St := (l.take k).foldl (stepS n) (new (obj n)).1
theorem runS_succ (n : Int) (l : List Int) (k : Nat) (h : k < l.length) : runS n l (k + 1) = stepS n (runS n l k) l[k] := by
  unfold runS; rw [List.take_succ_eq_append_getElem h, List.foldl_append]; rfl
theorem runS_ok {n : Int} (hn : 1 ≤ n ∧ n ≤ 6) (l : List Int) (hl : ∀ x ∈ l, 0 ≤ x ∧ x ≤ 255) : ∀ k, k ≤ l.length → Stp n (runS n l k)
  | 0, _ => by
    have e := obj_new (n := n) (by omega)
    have hc := chk_new (o := obj n) (by rw [e])
    refine ⟨hc, ?_⟩
    show ∀ w ∈ (new (obj n)).1.queue, w.task < n
    rw [e]; intro w hw; simp [N0, S0] at hw
  | k + 1, hk => by
    rw [runS_succ n l k (by omega)]
    have ih := runS_ok hn l hl k (by omega)
    unfold stepS
    split
    · rename_i h0
      exact (ih.step hn (md_lt (hl _ (List.getElem_mem (by omega))) (by omega)) h0).1
    · exact ih
/-- Why an arrival is an error in step. -/
theorem Stp.err {n : Int} {s : St} (h : Stp n s) (hn : 1 ≤ n ∧ n ≤ 6) {t : Int} (ht : 0 ≤ t ∧ t < n) (hc : s.count < 1000) (h0 : (apply (obj n) s (arr t)).2 ≠ 0) : (apply (obj n) s (arr t)).2 = 17 ∧ findB s.queue t = true := by
  have h1 := h.c
  by_cases he : Br.err s (arr t) = 0
  · exfalso
    rw [apply, if_neg (by omega), if_neg (by omega)] at h0
    split at h0
    · exact h0 rfl
    · rw [if_neg (by omega)] at h0; exact h0 rfl
  · have e : apply (obj n) s (arr t) = (R0, Br.err s (arr t)) := by rw [apply, if_neg (by omega), if_pos he]
    rw [e]
    show Br.err s (arr t) = 17 ∧ _
    unfold Br.err at he ⊢
    rw [if_neg (by simp [arr])] at he ⊢
    rw [if_neg (show ¬ ¬ (0 ≤ (arr t).task ∧ (arr t).task < 16) by show ¬ ¬ (0 ≤ t ∧ t < 16); omega)] at he ⊢
    rw [if_neg (by simp [arr])] at he ⊢
    split at he
    · rename_i hf; rw [if_pos hf]; exact ⟨rfl, hf⟩
    · exact absurd rfl he
end Br
namespace Br
open Wl
theorem stepS_cnt (n : Int) (s : St) (x : Int) : (stepS n s x).count ≤ s.count + 1 := by
  unfold stepS
  split
  · rename_i h0
    obtain ⟨_, _, h3⟩ := apply_zero h0
    rcases h3 with ⟨a, b⟩ | ⟨a, b, d⟩
    · rw [b]; show s.count ≤ _; omega
    · rw [d]; show s.count + 1 ≤ _; omega
  · omega
theorem runS_cnt {n : Int} (hn : 1 ≤ n ∧ n ≤ 6) (l : List Int) : ∀ k, k ≤ l.length → (runS n l k).count ≤ k
  | 0, _ => by
    show (new (obj n)).1.count ≤ _
    rw [obj_new (by omega)]; exact Int.le_refl _
  | k + 1, hk => by
    rw [runS_succ n l k (by omega)]
    have := stepS_cnt n (runS n l k) l[k]
    have := runS_cnt hn l k (by omega)
    omega
end Br
namespace Br
theorem fW_t (c0 t : Int) (l : List Wl.Wk) {p : Bool} (hp : p = false) : (fun j => if j = t then c0 + 1 else c0) = fW c0 p t l 0 := by
  subst hp
  funext j; unfold fW
  rw [if_neg (show ¬ (false = true) by simp)]
  show _ = c0 + (if j = t then 1 else 0) + ((0 : Nat) : Int)
  split <;> omega
theorem fW_f (c0 t : Int) (l : List Wl.Wk) {p : Bool} (hp : p = true) : (fun _ => c0) = fW c0 p t l 0 := by
  subst hp
  funext j; unfold fW; simp
theorem fW_next (c0 : Int) (p : Bool) (t : Int) (l : List Wl.Wk) (k : Nat) (h : k < l.length) : (fun j => if j = l[k].task then fW c0 p t l k l[k].task + 1 else fW c0 p t l k j) = fW c0 p t l (k + 1) := by
  funext j; rw [fW_succ c0 p t l k h j]
  by_cases e : j = l[k].task
  · rw [if_pos e, if_pos e, e]
  · rw [if_neg e, if_neg e]
theorem fW_bd (c0 : Int) (p : Bool) (t : Int) (l : List Wl.Wk) (k : Nat) (j : Int) : c0 ≤ fW c0 p t l k j ∧ fW c0 p t l k j ≤ c0 + 1 + k := by
  unfold fW
  have : (l.take k).countP (fun w => decide (w.task = j)) ≤ (l.take k).length := List.countP_le_length
  have h2 : (l.take k).length ≤ k := by rw [List.length_take]; omega
  split <;> (try split) <;> omega
end Br
