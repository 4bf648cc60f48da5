/- Semaphores: the plain functions, and the laws of them. No condition. -/
import Derived.Test.YtajidldgnnainaaM18
set_option linter.unusedVariables false
set_option linter.unusedSimpArgs false
namespace Sp
open Wl
def new (o : Ob) : St × Int := if o.kind ≠ 4 then (S0, 8) else if (o.size < 1 ∨ 100 < o.size) ∨ (o.other ≠ 0 ∧ o.other ≠ 1) then (S0, 2) else ({ S0 with owner := -1, count := o.size }, 0)
def fit (o : Ob) (w : W) : Bool := decide (w.op = 60) && (decide (1 ≤ w.value) && decide (w.value ≤ o.size)) && decide (w.case_ = -1)
def stuck (o : Ob) (s : St) (i : Nat) : Bool := fit o (s.queue.getD i default) && fstB s.queue i && (decide (0 < i ∧ o.other = 0) || decide (s.count < (s.queue.getD i default).value))
def qok (o : Ob) (s : St) : Bool := (List.range s.queue.length).all (stuck o s)
def bare (s : St) : St := { s with queue := [], count := 0 }
def ok (o : Ob) (s : St) : Bool := decide (bare s = N0) && (decide (0 ≤ s.count) && decide (s.count ≤ o.size)) && decide (check 1 s.queue = 0) && qok o s
def chk (o : Ob) (s : St) : Int := if (new o).2 ≠ 0 then (new o).2 else if ok o s = false then 1 else 0
def wakeS (w : W) : Wk := ⟨w.task, w.op, 0, true, -1⟩
def any (o : Ob) : Bool := decide (o.other = 1)
def serveS (a : Bool) (s : St) : St := { s with queue := (grant a s.queue s.count).o, count := (grant a s.queue s.count).u }
def serveW (a : Bool) (s : St) : List Wk := (grant a s.queue s.count).g.map wakeS
def err (o : Ob) (s : St) (c : Cl) : Int := if validC c = false then 2 else if ¬ (c.op = 60 ∨ c.op = 61 ∨ c.op = 62) then 8 else if c.value < 1 ∨ o.size < c.value then 2 else if findB s.queue c.task = true ∨ (c.op = 62 ∧ o.size < s.count + c.value) then 17 else 0
def can (a : Bool) (s : St) (n : Int) : Bool := decide (n ≤ s.count) && (a || decide (s.queue.length = 0))
def waiter (c : Cl) : W := ⟨c.task, c.op, c.value, c.prio, -1⟩
def relR (a : Bool) (s : St) (n : Int) : Rp := ⟨serveS a { s with count := s.count + n }, false, 0, true, serveW a { s with count := s.count + n }⟩
def doit (a : Bool) (s : St) (c : Cl) : Rp :=
  if c.op = 62 then relR a s c.value
  else if can a s c.value = true then ⟨{ s with count := s.count - c.value }, false, 0, true, []⟩
  else if c.op = 61 then ⟨s, false, 0, false, []⟩
  else ⟨{ s with queue := pushL 1 s.queue (waiter c) }, true, 0, false, []⟩
def apply (o : Ob) (s : St) (c : Cl) : Rp × Int := if chk o s ≠ 0 then (R0, 1) else if err o s c ≠ 0 then (R0, err o s c) else (doit (any o) s c, 0)
def servR (a : Bool) (s : St) : Rp := ⟨serveS a s, false, 0, false, serveW a s⟩
def withdraw (o : Ob) (s : St) (t : Int) : Rp × Int := if chk o s ≠ 0 then (R0, 1) else if findB s.queue t = false then (R0, 7) else (servR (any o) { s with queue := remove s.queue t }, 0)
def ready (o : Ob) (s : St) (c : Cl) : Bool := decide ((apply o s c).2 = 0) && !(apply o s c).1.parked
def free (s : St) : Int := max s.count 0
theorem qok_iff {o : Ob} {s : St} : qok o s = true ↔ ∀ i (h : i < s.queue.length), stuck o s i = true := by
  simp [qok]
theorem qok_not {o : Ob} {s : St} {k : Nat} (hk : k < s.queue.length) (h : stuck o s k = false) : qok o s = false := by
  rw [Bool.eq_false_iff]; intro e; rw [qok_iff.1 e k hk] at h; cases h
theorem ok_parts {o : Ob} {s : St} : ok o s = true ↔ bare s = N0 ∧ (0 ≤ s.count ∧ s.count ≤ o.size) ∧ check 1 s.queue = 0 ∧ qok o s = true := by
  simp [ok, and_assoc]
theorem chk_zero {o : Ob} {s : St} : chk o s = 0 ↔ (new o).2 = 0 ∧ ok o s = true := by
  unfold chk
  by_cases h : (new o).2 = 0
  · rw [if_neg (by omega)]
    cases hs : ok o s <;> simp [h]
  · rw [if_pos h]; simp [h]
theorem new_zero {o : Ob} (h : (new o).2 = 0) : o.kind = 4 ∧ 1 ≤ o.size ∧ o.size ≤ 100 ∧ (o.other = 0 ∨ o.other = 1) ∧ (new o).1 = { S0 with owner := -1, count := o.size } := by
  unfold new at h ⊢
  split
  · rename_i e; rw [if_pos e] at h; cases h
  · rename_i e; rw [if_neg e] at h
    split
    · rename_i e2; rw [if_pos e2] at h; cases h
    · refine ⟨by omega, by omega, by omega, by omega, rfl⟩
theorem bare_iff (s : St) : bare s = N0 ↔ s.owner = -1 ∧ s.time = 0 ∧ s.holders = [] ∧ s.buffer = [] ∧ s.cursors = [] ∧ s.closed = false ∧ s.value = 0 := by
  simp [bare, N0, S0]
theorem grant_len (a : Bool) (l : List W) (u : Int) : (grant a l u).g.length ≤ l.length ∧ (grant a l u).o.length ≤ l.length := by
  have := gst_len a l u l.length; rw [gst_all] at this; exact this
theorem grant_u (a : Bool) (l : List W) (u : Int) (hu : -9223372036854775808 ≤ u ∧ u ≤ 9223372036854775807) : -9223372036854775808 ≤ (grant a l u).u ∧ (grant a l u).u ≤ 9223372036854775807 := by
  have := gst_u a l u hu l.length; rw [gst_all] at this; exact this
theorem serve_sm {a : Bool} {s : St} {n : Nat} (h : smN n s) : smN n (serveS a s) ∧ (serveW a s).length ≤ n := by
  have := grant_len a s.queue s.count
  have hq := h.q
  exact ⟨⟨h.h, by simp [serveS]; omega, h.b, h.c, h.d⟩, by simp [serveW]; omega⟩
theorem new_sm (o : Ob) {n : Nat} : smN n (new o).1 := by
  unfold new
  split
  · exact smN_S0
  · split
    · exact smN_S0
    · exact ⟨Nat.zero_le _, Nat.zero_le _, Nat.zero_le _, Nat.zero_le _, fun c hc => by simp [S0] at hc⟩
theorem withC_sm {s : St} {n : Nat} {x : Int} (h : smN n s) : smN n { s with count := x } := ⟨h.h, h.q, h.b, h.c, h.d⟩
theorem pushL_len (d : Int) (l : List W) (w : W) : (pushL d l w).length ≤ l.length + 1 := by
  unfold pushL
  split
  · simp
  · have := place_le d l w.prio l.length; simp; omega
theorem apply_sm {o : Ob} {s : St} {c : Cl} {n : Nat} (h : smN n s) : smN (n + 1) (apply o s c).1.state ∧ (apply o s c).1.woken.length ≤ n := by
  have h0 : smN (n + 1) R0.state ∧ R0.woken.length ≤ n := ⟨smN_S0, Nat.zero_le _⟩
  unfold apply
  split
  · exact h0
  · split
    · exact h0
    · unfold doit relR
      split
      · have := serve_sm (a := any o) (withC_sm (x := s.count + c.value) h)
        exact ⟨this.1.le (Nat.le_succ n), this.2⟩
      · split
        · exact ⟨(withC_sm h).le (Nat.le_succ n), Nat.zero_le _⟩
        · split
          · exact ⟨h.le (Nat.le_succ n), Nat.zero_le _⟩
          · refine ⟨(h.le (Nat.le_succ n)).withQ ?_, Nat.zero_le _⟩
            have := pushL_len 1 s.queue (waiter c); have := h.q; omega
theorem withdraw_sm {o : Ob} {s : St} {t : Int} {n : Nat} (h : smN n s) : smN n (withdraw o s t).1.state ∧ (withdraw o s t).1.woken.length ≤ n := by
  have h0 : smN n R0.state ∧ R0.woken.length ≤ n := ⟨smN_S0, Nat.zero_le _⟩
  unfold withdraw
  split
  · exact h0
  · split
    · exact h0
    · exact serve_sm (h.withQ (by have := remove_len s.queue t; have := h.q; omega))
instance {o : Ob} : Sm (new o).1 0 := ⟨new_sm o⟩
instance {o : Ob} {s : St} {c : Cl} {n : Nat} [h : Sm s n] : Sm (apply o s c).1.state (n + 1) := ⟨(apply_sm h.sm).1⟩
instance {o : Ob} {s : St} {t : Int} {n : Nat} [h : Sm s n] : Sm (withdraw o s t).1.state n := ⟨(withdraw_sm h.sm).1⟩
theorem apply_wl {o : Ob} {s : St} {c : Cl} {n m : Nat} [h : Sm s n] (k : n ≤ m) : (apply o s c).1.woken.length ≤ m := Nat.le_trans (apply_sm h.sm).2 k
theorem withdraw_wl {o : Ob} {s : St} {t : Int} {n m : Nat} [h : Sm s n] (k : n ≤ m) : (withdraw o s t).1.woken.length ≤ m := Nat.le_trans (withdraw_sm h.sm).2 k
theorem no_bare {o : Ob} {s : St} (h : ¬ bare s = N0) : ok o s = false := by
  rw [Bool.eq_false_iff]; exact fun e => h (ok_parts.1 e).1
theorem no_cnt {o : Ob} {s : St} (h : s.count < 0 ∨ o.size < s.count) : ok o s = false := by
  rw [Bool.eq_false_iff]; intro e; have := (ok_parts.1 e).2.1; omega
theorem no_check {o : Ob} {s : St} (h : ¬ check 1 s.queue = 0) : ok o s = false := by
  rw [Bool.eq_false_iff]; exact fun e => h (ok_parts.1 e).2.2.1
theorem no_q {o : Ob} {s : St} {k : Nat} (hk : k < s.queue.length) (h : stuck o s k = false) : ok o s = false := by
  rw [Bool.eq_false_iff]; intro e; have := (ok_parts.1 e).2.2.2; rw [qok_not hk h] at this; cases this
theorem can_iff {o : Ob} {s : St} {n : Int} : can (any o) s n = true ↔ n ≤ s.count ∧ (o.other = 1 ∨ s.queue.length = 0) := by
  simp [can, any]
theorem wakeS_step (q : List W) (k : Nat) (h : k < q.length) : (q.take k).map wakeS ++ [⟨q[k].task, q[k].op, 0, true, -1⟩] = (q.take (k + 1)).map wakeS := by
  rw [List.take_succ_eq_append_getElem h, List.map_append]; rfl
def servP (a : Bool) (s : St) (k : Nat) : Rp := ⟨S0, false, 0, false, (((grant a s.queue s.count).g).take k).map wakeS⟩
theorem servP_step (a : Bool) (s : St) (k : Nat) (h : k < (grant a s.queue s.count).g.length) : (servP a s k).woken ++ [⟨(grant a s.queue s.count).g[k].task, (grant a s.queue s.count).g[k].op, 0, true, -1⟩] = (servP a s (k + 1)).woken := wakeS_step _ k h
theorem servP_len (a : Bool) (s : St) (k : Nat) : (servP a s k).woken.length ≤ s.queue.length := by
  have := grant_len a s.queue s.count; simp [servP]; omega
theorem err_zero {o : Ob} {s : St} {c : Cl} (h : err o s c = 0) : validC c = true ∧ (c.op = 60 ∨ c.op = 61 ∨ c.op = 62) ∧ (1 ≤ c.value ∧ c.value ≤ o.size) ∧ findB s.queue c.task = false ∧ (c.op = 62 → s.count + c.value ≤ o.size) := by
  unfold err at h
  split at h
  · cases h
  · rename_i h1; split at h
    · cases h
    · rename_i h2; split at h
      · cases h
      · rename_i h3; split at h
        · cases h
        · rename_i h4
          refine ⟨by simpa using h1, by omega, by omega, ?_, fun e => ?_⟩
          · cases hn : findB s.queue c.task
            · rfl
            · exact absurd (.inl hn) h4
          · exact Int.not_lt.1 fun k => h4 (.inr ⟨e, k⟩)
end Sp
