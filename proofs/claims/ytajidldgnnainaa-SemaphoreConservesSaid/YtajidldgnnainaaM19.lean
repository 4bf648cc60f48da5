/- Semaphores: the plain functions, and the laws of them. No condition. -/
import Derived.Test.YtajidldgnnainaaM18
set_option linter.unusedVariables false
set_option linter.unusedSimpArgs false
namespace Sp
open Wl
def new (o : Ob) : St × Int := if o.kind ≠ 4 then (S0, 8) else if (o.size < 1 ∨ 100 < o.size) ∨ (o.other ≠ 0 ∧ o.other ≠ 1) then (S0, 2) else ({ S0 with owner := -1, count := o.size }, 0)
def fit (o : Ob) (w : W) : Bool := decide (w.op = 60) && (decide (1 ≤ w.value) && decide (w.value ≤ o.size)) && decide (w.case_ = -1)
def stuck (o : Ob) (s : St) (i : Nat) : Bool := fit o (s.queue.getD i default) && fstB s.queue i && (decide (0 < i ∧ o.other = 0) || decide (s.count < (s.queue.getD i default).value))
def qok (o : Ob) (s : St) : Bool := (List.range s.queue.length).all (stuck o s)
def bare (s : St) : St := { s with queue := [], count := 0 }
def ok (o : Ob) (s : St) : Bool := decide (bare s = N0) && (decide (0 ≤ s.count) && decide (s.count ≤ o.size)) && decide (check 1 s.queue = 0) && qok o s
def chk (o : Ob) (s : St) : Int := if (new o).2 ≠ 0 then (new o).2 else if ok o s = false then 1 else 0
def wakeS (w : W) : Wk := ⟨w.task, w.op, 0, true, -1⟩
def any (o : Ob) : Bool := decide (o.other = 1)
def serveS (a : Bool) (s : St) : St := { s with queue := (grant a s.queue s.count).o, count := (grant a s.queue s.count).u }
def serveW (a : Bool) (s : St) : List Wk := (grant a s.queue s.count).g.map wakeS
def err (o : Ob) (s : St) (c : Cl) : Int := if validC c = false then 2 else if ¬ (c.op = 60 ∨ c.op = 61 ∨ c.op = 62) then 8 else if c.value < 1 ∨ o.size < c.value then 2 else if findB s.queue c.task = true ∨ (c.op = 62 ∧ o.size < s.count + c.value) then 17 else 0
def can (a : Bool) (s : St) (n : Int) : Bool := decide (n ≤ s.count) && (a || decide (s.queue.length = 0))
def waiter (c : Cl) : W := ⟨c.task, c.op, c.value, c.prio, -1⟩
def relR (a : Bool) (s : St) (n : Int) : Rp := ⟨serveS a { s with count := s.count + n }, false, 0, true, serveW a { s with count := s.count + n }⟩
def doit (a : Bool) (s : St) (c : Cl) : Rp :=
  if c.op = 62 then relR a s c.value
  else if can a s c.value = true then ⟨{ s with count := s.count - c.value }, false, 0, true, []⟩
  else if c.op = 61 then ⟨s, false, 0, false, []⟩
  else ⟨{ s with queue := pushL 1 s.queue (waiter c) }, true, 0, false, []⟩
def apply (o : Ob) (s : St) (c : Cl) : Rp × Int := if chk o s ≠ 0 then (R0, 1) else if err o s c ≠ 0 then (R0, err o s c) else (doit (any o) s c, 0)
def servR (a : Bool) (s : St) : Rp := ⟨serveS a s, false, 0, false, serveW a s⟩
def withdraw (o : Ob) (s : St) (t : Int) : Rp × Int := if chk o s ≠ 0 then (R0, 1) else if findB s.queue t = false then (R0, 7) else (servR (any o) { s with queue := remove s.queue t }, 0)
def ready (o : Ob) (s : St) (c : Cl) : Bool := decide ((apply o s c).2 = 0) && !(apply o s c).1.parked
def free (s : St) : Int := max s.count 0
theorem qok_iff {o : Ob} {s : St} : qok o s = true ↔ ∀ i (h : i < s.queue.length), stuck o s i = true := by
  simp [qok]
theorem qok_not {o : Ob} {s : St} {k : Nat} (hk : k < s.queue.length) (h : stuck o s k = false) : qok o s = false := by
  rw [Bool.eq_false_iff]; intro e; rw [qok_iff.1 e k hk] at h; cases h
theorem ok_parts {o : Ob} {s : St} : ok o s = true ↔ bare s = N0 ∧ (0 ≤ s.count ∧ s.count ≤ o.size) ∧ check 1 s.queue = 0 ∧ qok o s = true := by
  simp [ok, and_assoc]
theorem chk_zero {o : Ob} {s : St} : chk o s = 0 ↔ (new o).2 = 0 ∧ ok o s = true := by
  unfold chk
  by_cases h : (new o).2 = 0
  · rw [if_neg (by omega)]
    cases hs : ok o s <;> simp [h]
  · rw [if_pos h]; simp [h]
theorem new_zero {o : Ob} (h : (new o).2 = 0) : o.kind = 4 ∧ 1 ≤ o.size ∧ o.size ≤ 100 ∧ (o.other = 0 ∨ o.other = 1) ∧ (new o).1 = { S0 with owner := -1, count := o.size } := by
  unfold new at h ⊢
  split
  · rename_i e; rw [if_pos e] at h; cases h
  · rename_i e; rw [if_neg e] at h
    split
    · rename_i e2; rw [if_pos e2] at h; cases h
    · refine ⟨by omega, by omega, by omega, by omega, rfl⟩
theorem bare_iff (s : St) : bare s = N0 ↔ s.owner = -1 ∧ s.time = 0 ∧ s.holders = [] ∧ s.buffer = [] ∧ s.cursors = [] ∧ s.closed = false ∧ s.value = 0 := by
  simp [bare, N0, S0]
theorem grant_len (a : Bool) (l : List W) (u : Int) : (grant a l u).g.length ≤ l.length ∧ (grant a l u).o.length ≤ l.length := by
  have := gst_len a l u l.length; rw [gst_all] at this; exact this
theorem grant_u (a : Bool) (l : List W) (u : Int) (hu : -9223372036854775808 ≤ u ∧ u ≤ 9223372036854775807) : -9223372036854775808 ≤ (grant a l u).u ∧ (grant a l u).u ≤ 9223372036854775807 := by
  have := gst_u a l u hu l.length; rw [gst_all] at this; exact this
theorem serve_sm {a : Bool} {s : St} {n : Nat} (h : smN n s) : smN n (serveS a s) ∧ (serveW a s).length ≤ n := by
  have := grant_len a s.queue s.count
  have hq := h.q
  exact ⟨⟨h.h, by simp [serveS]; omega, h.b, h.c, h.d⟩, by simp [serveW]; omega⟩
theorem new_sm (o : Ob) {n : Nat} : smN n (new o).1 := by
  unfold new
  split
  · exact smN_S0
  · split
    · exact smN_S0
    · exact ⟨Nat.zero_le _, Nat.zero_le _, Nat.zero_le _, Nat.zero_le _, fun c hc => by simp [S0] at hc⟩
theorem withC_sm {s : St} {n : Nat} {x : Int} (h : smN n s) : smN n { s with count := x } := ⟨h.h, h.q, h.b, h.c, h.d⟩
theorem pushL_len (d : Int) (l : List W) (w : W) : (pushL d l w).length ≤ l.length + 1 := by
  unfold pushL
  split
  · simp
  · have := place_le d l w.prio l.length; simp; omega
theorem apply_sm {o : Ob} {s : St} {c : Cl} {n : Nat} (h : smN n s) : smN (n + 1) (apply o s c).1.state ∧ (apply o s c).1.woken.length ≤ n := by
  have h0 : smN (n + 1) R0.state ∧ R0.woken.length ≤ n := ⟨smN_S0, Nat.zero_le _⟩
  unfold apply
  split
  · exact h0
  · split
    · exact h0
    · unfold doit relR
      split
      · have := serve_sm (a := any o) (withC_sm (x := s.count + c.value) h)
        exact ⟨this.1.le (Nat.le_succ n), this.2⟩
      · split
        · exact ⟨(withC_sm h).le (Nat.le_succ n), Nat.zero_le _⟩
        · split
          · exact ⟨h.le (Nat.le_succ n), Nat.zero_le _⟩
          · refine ⟨(h.le (Nat.le_succ n)).withQ ?_, Nat.zero_le _⟩
            have := pushL_len 1 s.queue (waiter c); have := h.q; omega
theorem withdraw_sm {o : Ob} {s : St} {t : Int} {n : Nat} (h : smN n s) : smN n (withdraw o s t).1.state ∧ (withdraw o s t).1.woken.length ≤ n := by
  have h0 : smN n R0.state ∧ R0.woken.length ≤ n := ⟨smN_S0, Nat.zero_le _⟩
  unfold withdraw
  split
  · exact h0
  · split
    · exact h0
    · exact serve_sm (h.withQ (by have := remove_len s.queue t; have := h.q; omega))
instance {o : Ob} : Sm (new o).1 0 := ⟨new_sm o⟩
instance {o : Ob} {s : St} {c : Cl} {n : Nat} [h : Sm s n] : Sm (apply o s c).1.state (n + 1) := ⟨(apply_sm h.sm).1⟩
instance {o : Ob} {s : St} {t : Int} {n : Nat} [h : Sm s n] : Sm (withdraw o s t).1.state n := ⟨(withdraw_sm h.sm).1⟩
theorem apply_wl {o : Ob} {s : St} {c : Cl} {n m : Nat} [h : Sm s n] (k : n ≤ m) : (apply o s c).1.woken.length ≤ m := Nat.le_trans (apply_sm h.sm).2 k
theorem withdraw_wl {o : Ob} {s : St} {t : Int} {n m : Nat} [h : Sm s n] (k : n ≤ m) : (withdraw o s t).1.woken.length ≤ m := Nat.le_trans (withdraw_sm h.sm).2 k
theorem no_bare {o : Ob} {s : St} (h : ¬ bare s = N0) : ok o s = false := by
  rw [Bool.eq_false_iff]; exact fun e => h (ok_parts.1 e).1
theorem no_cnt {o : Ob} {s : St} (h : s.count < 0 ∨ o.size < s.count) : ok o s = false := by
  rw [Bool.eq_false_iff]; intro e; have := (ok_parts.1 e).2.1; omega
theorem no_check {o : Ob} {s : St} (h : ¬ check 1 s.queue = 0) : ok o s = false := by
  rw [Bool.eq_false_iff]; exact fun e => h (ok_parts.1 e).2.2.1
theorem no_q {o : Ob} {s : St} {k : Nat} (hk : k < s.queue.length) (h : stuck o s k = false) : ok o s = false := by
  rw [Bool.eq_false_iff]; intro e; have := (ok_parts.1 e).2.2.2; rw [qok_not hk h] at this; cases this
theorem can_iff {o : Ob} {s : St} {n : Int} : can (any o) s n = true ↔ n ≤ s.count ∧ (o.other = 1 ∨ s.queue.length = 0) := by
  simp [can, any]
theorem wakeS_step (q : List W) (k : Nat) (h : k < q.length) : (q.take k).map wakeS ++ [⟨q[k].task, q[k].op, 0, true, -1⟩] = (q.take (k + 1)).map wakeS := by
  rw [List.take_succ_eq_append_getElem h, List.map_append]; rfl
def servP (a : Bool) (s : St) (k : Nat) : Rp := ⟨S0, false, 0, false, (((grant a s.queue s.count).g).take k).map wakeS⟩
theorem servP_step (a : Bool) (s : St) (k : Nat) (h : k < (grant a s.queue s.count).g.length) : (servP a s k).woken ++ [⟨(grant a s.queue s.count).g[k].task, (grant a s.queue s.count).g[k].op, 0, true, -1⟩] = (servP a s (k + 1)).woken := wakeS_step _ k h
theorem servP_len (a : Bool) (s : St) (k : Nat) : (servP a s k).woken.length ≤ s.queue.length := by
  have := grant_len a s.queue s.count; simp [servP]; omega
theorem err_zero {o : Ob} {s : St} {c : Cl} (h : err o s c = 0) : validC c = true ∧ (c.op = 60 ∨ c.op = 61 ∨ c.op = 62) ∧ (1 ≤ c.value ∧ c.value ≤ o.size) ∧ findB s.queue c.task = false ∧ (c.op = 62 → s.count + c.value ≤ o.size) := by
  unfold err at h
  split at h
  · cases h
  · rename_i h1; split at h
    · cases h
    · rename_i h2; split at h
      · cases h
      · rename_i h3; split at h
        · cases h
        · rename_i h4
          refine ⟨by simpa using h1, by omega, by omega, ?_, fun e => ?_⟩
          · cases hn : findB s.queue c.task
            · rfl
            · exact absurd (.inl hn) h4
          · exact Int.not_lt.1 fun k => h4 (.inr ⟨e, k⟩)
end Sp
namespace Sp
open Wl
/-! ### Laws -/
def blocked (a : Bool) (q : List W) (u : Int) : Prop := ∀ w ∈ (if a = true then q else q.take 1), u < w.value
theorem any_cases {o : Ob} (h : o.other = 0 ∨ o.other = 1) : (any o = true ↔ o.other = 1) ∧ (any o = false ↔ o.other = 0) := by
  simp [any]; omega
theorem ok_iff {o : Ob} {s : St} (hz : o.other = 0 ∨ o.other = 1) : ok o s = true ↔ bare s = N0 ∧ (0 ≤ s.count ∧ s.count ≤ o.size) ∧ (∀ w ∈ s.queue, valid w = true) ∧ okq (fit o) s.queue = true ∧ blocked (any o) s.queue s.count := by
  rw [ok_parts, qok_iff]
  constructor
  · rintro ⟨h1, h2, h3, h4⟩
    have h4' : ∀ i (h : i < s.queue.length), fit o s.queue[i] = true ∧ fstB s.queue i = true ∧ ((0 < i ∧ o.other = 0) ∨ s.count < s.queue[i].value) := by
      intro i hi
      have := h4 i hi
      simp only [stuck, List.getD, List.getElem?_eq_getElem hi, Option.getD_some, Bool.and_eq_true, Bool.or_eq_true, decide_eq_true_eq, and_assoc] at this
      exact this
    refine ⟨h1, h2, ((check_fifo _).1 h3).2, okq_of (fun i hi => ⟨(h4' i hi).1, (h4' i hi).2.1⟩), ?_⟩
    intro w hw
    split at hw
    · rename_i ha
      obtain ⟨i, hi, rfl⟩ := List.getElem_of_mem hw
      have := (any_cases hz).1.1 ha
      rcases (h4' i hi).2.2 with h | h
      · omega
      · exact h
    · cases hq : s.queue with
      | nil => rw [hq] at hw; simp at hw
      | cons x r =>
        rw [hq] at hw; simp at hw
        have h0 := (h4' 0 (by rw [hq]; simp)).2.2
        simp only [hq, List.getElem_cons_zero] at h0
        rw [hw]
        rcases h0 with h | h
        · omega
        · exact h
  · rintro ⟨h1, h2, h3, h4, h5⟩
    refine ⟨h1, h2, (check_fifo _).2 ⟨by have := okq_len h4 h3; omega, h3⟩, fun i hi => ?_⟩
    simp only [stuck, List.getD, List.getElem?_eq_getElem hi, Option.getD_some, Bool.and_eq_true, Bool.or_eq_true, decide_eq_true_eq]
    refine ⟨⟨okq_all h4 _ (List.getElem_mem hi), (fst_nodup _).1 (okq_nd h4) i hi⟩, ?_⟩
    rcases hz with hz | hz
    · by_cases h0 : 0 < i
      · exact .inl ⟨h0, hz⟩
      · right
        have : i = 0 := by omega
        subst this
        have ha : ¬ any o = true := by simp [any, hz]
        refine h5 _ ?_
        rw [if_neg ha]
        exact List.mem_take_iff_getElem.2 ⟨0, by omega, rfl⟩
    · right
      have ha : any o = true := by simp [any, hz]
      refine h5 _ ?_
      rw [if_pos ha]; exact List.getElem_mem hi
theorem fit_val {o : Ob} {w : W} (h : fit o w = true) : w.op = 60 ∧ 1 ≤ w.value ∧ w.value ≤ o.size ∧ w.case_ = -1 := by
  simp [fit, and_assoc] at h; exact h
/-! Granting -/
theorem fold_stop (l : List W) : ∀ x : G, x.s = true → l.foldl (gstep false) x = { x with o := x.o ++ l } := by
  induction l with
  | nil => intro x h; simp
  | cons w l ih =>
    intro x h
    have : gstep false x w = { x with o := x.o ++ [w], s := x.s || !false } := by unfold gstep; rw [if_neg (by simp [h])]
    rw [List.foldl_cons, this, ih _ (by simp)]
    simp [h]
theorem fold_none (l : List W) : ∀ x : G, x.s = false → (∀ w ∈ l, x.u < w.value) → l.foldl (gstep true) x = { x with o := x.o ++ l } := by
  induction l with
  | nil => intro x h _; simp
  | cons w l ih =>
    intro x h hb
    have hw := hb w (by simp)
    have : gstep true x w = { x with o := x.o ++ [w], s := x.s || !true } := by unfold gstep; rw [if_neg (by omega)]
    rw [List.foldl_cons, this, ih { x with o := x.o ++ [w], s := x.s || !true } (by simp [h]) (fun v hv => hb v (by simp [hv]))]
    simp
theorem grant_none {a : Bool} {l : List W} {u : Int} (h : blocked a l u) : (grant a l u).g = [] ∧ (grant a l u).o = l ∧ (grant a l u).u = u := by
  unfold grant
  cases a with
  | true => rw [fold_none l _ rfl (by simpa [blocked] using h)]; exact ⟨rfl, rfl, rfl⟩
  | false =>
    cases l with
    | nil => exact ⟨rfl, rfl, rfl⟩
    | cons w l =>
      have hw : u < w.value := h w (by simp)
      have : gstep false ⟨[], [], u, false⟩ w = ⟨[], [w], u, true⟩ := by unfold gstep; rw [if_neg (by simp; omega)]; rfl
      rw [List.foldl_cons, this, fold_stop l _ rfl]
      exact ⟨rfl, rfl, rfl⟩
theorem fold_any (l : List W) : ∀ x : G, x.s = false → (∀ w ∈ l, 0 ≤ w.value) → (l.foldl (gstep true) x).u ≤ x.u ∧ ∃ r, (l.foldl (gstep true) x).o = x.o ++ r ∧ (∀ w ∈ r, (l.foldl (gstep true) x).u < w.value) := by
  induction l with
  | nil => intro x h _; exact ⟨Int.le_refl _, [], by simp, by simp⟩
  | cons w l ih =>
    intro x h hp
    have hw := hp w (by simp)
    have hp2 : ∀ v ∈ l, 0 ≤ v.value := fun v hv => hp v (by simp [hv])
    rw [List.foldl_cons]
    by_cases hc : w.value ≤ x.u
    · have : gstep true x w = { x with g := x.g ++ [w], u := x.u - w.value } := by unfold gstep; rw [if_pos ⟨h, hw, hc⟩]
      rw [this]
      obtain ⟨h1, r, h2, h3⟩ := ih { x with g := x.g ++ [w], u := x.u - w.value } h hp2
      exact ⟨by simp only at h1; omega, r, h2, h3⟩
    · have : gstep true x w = { x with o := x.o ++ [w], s := x.s || !true } := by unfold gstep; rw [if_neg (by omega)]
      rw [this]
      obtain ⟨h1, r, h2, h3⟩ := ih { x with o := x.o ++ [w], s := x.s || !true } (by simp [h]) hp2
      simp only at h1
      refine ⟨h1, w :: r, by rw [h2]; simp, fun v hv => ?_⟩
      rcases List.mem_cons.1 hv with e | e
      · rw [e]; omega
      · exact h3 v e
theorem grant_blocked {a : Bool} {l : List W} {u : Int} (hp : ∀ w ∈ l, 1 ≤ w.value) : blocked a (grant a l u).o (grant a l u).u := by
  cases a with
  | true =>
    obtain ⟨h1, r, h2, h3⟩ := fold_any l ⟨[], [], u, false⟩ rfl (fun w hw => by have := hp w hw; omega)
    intro w hw
    rw [if_pos rfl] at hw
    have hw' : w ∈ (l.foldl (gstep true) ⟨[], [], u, false⟩).o := hw
    rw [h2] at hw'
    exact h3 w (by simpa using hw')
  | false =>
    intro w hw
    rw [if_neg Bool.false_ne_true] at hw
    have hh := strict_head l u l.length (Nat.le_refl _)
    rw [gst_all] at hh
    cases ho : (grant false l u).o with
    | nil => rw [ho] at hw; simp at hw
    | cons x r =>
      rw [ho] at hw hh
      simp at hw
      have := hh (by simp)
      simp at this
      have hx : x ∈ l := by rw [← strict_all l u, ho]; simp
      have := hp x hx
      rw [hw]; omega
theorem fold_sub (a : Bool) (l : List W) : ∀ x : G, ∃ g o, (l.foldl (gstep a) x).g = x.g ++ g ∧ (l.foldl (gstep a) x).o = x.o ++ o ∧ g.Sublist l ∧ o.Sublist l ∧ (g ++ o).Perm l := by
  induction l with
  | nil => intro x; exact ⟨[], [], by simp, by simp, .slnil, .slnil, .nil⟩
  | cons w l ih =>
    intro x
    rw [List.foldl_cons]
    obtain ⟨g, o, h1, h2, h3, h4, h5⟩ := ih (gstep a x w)
    unfold gstep at h1 h2 ⊢
    split at h1
    · rename_i hc
      rw [if_pos hc] at h2 ⊢
      exact ⟨w :: g, o, by rw [h1]; simp, h2, h3.cons_cons _, h4.cons _, h5.cons _⟩
    · rename_i hc
      rw [if_neg hc] at h2 ⊢
      exact ⟨g, w :: o, h1, by rw [h2]; simp, h3.cons _, h4.cons_cons _, List.perm_middle.trans (h5.cons _)⟩
theorem grant_sub (a : Bool) (l : List W) (u : Int) : (grant a l u).g.Sublist l ∧ (grant a l u).o.Sublist l ∧ ((grant a l u).g ++ (grant a l u).o).Perm l := by
  obtain ⟨g, o, h1, h2, h3, h4, h5⟩ := fold_sub a l ⟨[], [], u, false⟩
  unfold grant; rw [h1, h2]; exact ⟨h3, h4, h5⟩
theorem grant_le {a : Bool} {l : List W} {u : Int} (hp : ∀ w ∈ l, 1 ≤ w.value) (h0 : 0 ≤ u) : 0 ≤ (grant a l u).u ∧ (grant a l u).u ≤ u := by
  obtain ⟨h1, h2, h3⟩ := grant_sum a l u
  refine ⟨h2 h0, ?_⟩
  have : ∀ r : List W, (∀ w ∈ r, w ∈ l) → 0 ≤ sumV r := by
    intro r
    induction r with
    | nil => intro _; simp [sumV]
    | cons w r ih => intro h; have h1 := ih (fun v hv => h v (by simp [hv])); have h2 := hp w (h w (by simp)); simp [sumV] at h1 ⊢; omega
  have := this _ h3
  omega
theorem grant_head {a : Bool} {w : W} {l : List W} {u : Int} (h0 : 0 ≤ w.value) (h1 : w.value ≤ u) : ∃ g, (grant a (w :: l) u).g = w :: g := by
  obtain ⟨g, o, h3, _⟩ := fold_sub a l (gstep a ⟨[], [], u, false⟩ w)
  have : gstep a ⟨[], [], u, false⟩ w = ⟨[w], [], u - w.value, false⟩ := by unfold gstep; rw [if_pos ⟨rfl, h0, h1⟩]; rfl
  rw [this] at h3
  exact ⟨g, by unfold grant; rw [List.foldl_cons, this, h3]; rfl⟩
/-- A state with positive waiters, served. -/
theorem ok_serve {o : Ob} {s : St} (hz : o.other = 0 ∨ o.other = 1) (hb : bare s = N0) (hc : 0 ≤ s.count ∧ s.count ≤ o.size) (hv : ∀ w ∈ s.queue, valid w = true) (hq : okq (fit o) s.queue = true) : ok o (serveS (any o) s) = true := by
  have hp : ∀ w ∈ s.queue, 1 ≤ w.value := fun w hw => (fit_val (okq_all hq w hw)).2.1
  obtain ⟨_, h2, _⟩ := grant_sub (any o) s.queue s.count
  have h4 := grant_le (a := any o) hp hc.1
  rw [ok_iff hz]
  refine ⟨hb, ⟨h4.1, ?_⟩, fun w hw => hv w (h2.subset hw), okq_sub hq h2, grant_blocked hp⟩
  show (grant (any o) s.queue s.count).u ≤ o.size
  omega
theorem serve_id {a : Bool} {s : St} (h : blocked a s.queue s.count) : serveS a s = s ∧ serveW a s = [] := by
  obtain ⟨h1, h2, h3⟩ := grant_none h
  simp [serveS, serveW, h1, h2, h3]
end Sp
namespace Sp
open Wl
theorem apply_zero {o : Ob} {s : St} {c : Cl} (h : (apply o s c).2 = 0) : chk o s = 0 ∧ err o s c = 0 ∧ (apply o s c).1 = doit (any o) s c := by
  unfold apply at h ⊢
  split
  · rename_i e; rw [if_pos e] at h; cases h
  · rename_i e; rw [if_neg e] at h
    split
    · rename_i e2; rw [if_pos e2] at h; exact absurd h e2
    · exact ⟨by omega, by omega, rfl⟩
theorem apply_nz {o : Ob} {s : St} {c : Cl} (h : (apply o s c).2 ≠ 0) : (apply o s c).1 = R0 := by
  unfold apply at h ⊢
  split
  · rfl
  · rename_i e; rw [if_neg e] at h
    split
    · rfl
    · rename_i e2; rw [if_neg e2] at h; exact absurd rfl h
theorem withdraw_zero {o : Ob} {s : St} {t : Int} (h : (withdraw o s t).2 = 0) : chk o s = 0 ∧ findB s.queue t = true ∧ (withdraw o s t).1 = servR (any o) { s with queue := remove s.queue t } := by
  unfold withdraw at h ⊢
  split
  · rename_i e; rw [if_pos e] at h; cases h
  · rename_i e; rw [if_neg e] at h
    split
    · rename_i e2; rw [if_pos e2] at h; cases h
    · rename_i e2; exact ⟨by omega, by simpa using e2, rfl⟩
theorem chk_parts {o : Ob} {s : St} (h : chk o s = 0) : (o.kind = 4 ∧ 1 ≤ o.size ∧ o.size ≤ 100) ∧ (o.other = 0 ∨ o.other = 1) ∧ (new o).2 = 0 ∧ bare s = N0 ∧ (0 ≤ s.count ∧ s.count ≤ o.size) ∧ (∀ w ∈ s.queue, valid w = true) ∧ okq (fit o) s.queue = true ∧ blocked (any o) s.queue s.count := by
  obtain ⟨h1, h2⟩ := chk_zero.1 h
  obtain ⟨a, b, c, d, _⟩ := new_zero h1
  exact ⟨⟨a, b, c⟩, d, h1, (ok_iff d).1 h2⟩
theorem chk_of {o : Ob} {s : St} (h1 : (new o).2 = 0) (h : ok o s = true) : chk o s = 0 := chk_zero.2 ⟨h1, h⟩
theorem waiter_valid {c : Cl} (h : validC c = true) (ho : c.op = 60 ∨ c.op = 61 ∨ c.op = 62) (hv : 1 ≤ c.value ∧ c.value ≤ 100) : valid (waiter c) = true := by
  simp [validC] at h
  have e : waiter c = ⟨c.task, c.op, c.value, c.prio, -1⟩ := rfl
  rw [e]
  generalize c.task = a at *
  generalize c.prio = b at *
  generalize c.op = d at *
  generalize c.value = v at *
  simp [valid]
  omega
theorem push_eq {o : Ob} {s : St} {c : Cl} (h : chk o s = 0) (he : err o s c = 0) : pushL 1 s.queue (waiter c) = s.queue ++ [waiter c] := by
  obtain ⟨⟨_, _, h3⟩, _, _, _, _, hv, hq, _⟩ := chk_parts h
  obtain ⟨e1, e2, e3, _, _⟩ := err_zero he
  have hl := okq_len hq hv
  exact (push_fifo ((check_fifo _).2 ⟨by omega, hv⟩) (waiter_valid e1 e2 ⟨e3.1, by omega⟩) (by omega)).1
theorem ok_doit {o : Ob} {s : St} {c : Cl} (h : chk o s = 0) (he : err o s c = 0) : ok o (doit (any o) s c).state = true := by
  have hpu := push_eq h he
  obtain ⟨⟨_, _, h3⟩, hz, _, hb, hc, hv, hq, hbl⟩ := chk_parts h
  obtain ⟨e1, e2, e3, e4, e5⟩ := err_zero he
  unfold doit
  split
  · rename_i ho
    have := e5 ho
    exact ok_serve (s := { s with count := s.count + c.value }) hz hb ⟨by show 0 ≤ s.count + c.value; omega, this⟩ hv hq
  · rename_i ho
    split
    · rename_i hcan
      rw [can_iff] at hcan
      rw [ok_iff hz]
      refine ⟨hb, ⟨by show 0 ≤ s.count - c.value; omega, by show s.count - c.value ≤ o.size; omega⟩, hv, hq, fun w hw => ?_⟩
      have := hbl w hw
      show s.count - c.value < w.value
      omega
    · rename_i hcan
      split
      · exact (ok_iff hz).2 ⟨hb, hc, hv, hq, hbl⟩
      · rename_i ho2
        rw [can_iff] at hcan
        have hop : c.op = 60 := by omega
        rw [ok_iff hz]
        show bare s = N0 ∧ (0 ≤ s.count ∧ s.count ≤ o.size) ∧ (∀ w ∈ pushL 1 s.queue (waiter c), valid w = true) ∧ okq (fit o) (pushL 1 s.queue (waiter c)) = true ∧ blocked (any o) (pushL 1 s.queue (waiter c)) s.count
        rw [hpu]
        refine ⟨hb, hc, fun w hw => ?_, okq_push hq (by simp [fit, waiter, hop]; omega) e4, fun w hw => ?_⟩
        · rcases List.mem_append.1 hw with hw | hw
          · exact hv w hw
          · rw [List.mem_singleton.1 hw]; exact waiter_valid e1 e2 ⟨e3.1, by omega⟩
        · by_cases ha : any o = true
          · rw [if_pos ha] at hw
            rcases List.mem_append.1 hw with hw | hw
            · exact hbl w (by rw [if_pos ha]; exact hw)
            · rw [List.mem_singleton.1 hw]
              have := (any_cases hz).1.1 ha
              show s.count < c.value; omega
          · rw [if_neg ha] at hw
            cases hq2 : s.queue with
            | nil =>
              rw [hq2] at hw; simp at hw
              rw [hw]
              have : s.queue.length = 0 := by rw [hq2]; rfl
              show s.count < c.value; omega
            | cons x r =>
              rw [hq2] at hw; simp at hw
              exact hbl w (by rw [if_neg ha, hq2]; simp [hw])
theorem chk_apply {o : Ob} {s : St} {c : Cl} (h : (apply o s c).2 = 0) : chk o (apply o s c).1.state = 0 := by
  obtain ⟨h1, h2, h3⟩ := apply_zero h
  rw [h3]; exact chk_of (chk_parts h1).2.2.1 (ok_doit h1 h2)
theorem chk_withdraw {o : Ob} {s : St} {t : Int} (h : (withdraw o s t).2 = 0) : chk o (withdraw o s t).1.state = 0 := by
  obtain ⟨h1, h2, h3⟩ := withdraw_zero h
  obtain ⟨_, hz, hn, hb, hc, hv, hq, _⟩ := chk_parts h1
  rw [h3]
  refine chk_of hn (ok_serve (s := { s with queue := remove s.queue t }) hz hb hc (fun w hw => hv w (List.mem_filter.1 hw).1) (okq_sub hq List.filter_sublist))
theorem apply_bad {o : Ob} {s : St} {c : Cl} (h : chk o s ≠ 0) : (apply o s c).2 = 1 := by rw [apply, if_pos h]
theorem try_law (o : Ob) (s : St) (c : Cl) : (apply o s ⟨c.task, 61, c.value, c.prio, c.now⟩).2 = (apply o s ⟨c.task, 60, c.value, c.prio, c.now⟩).2 ∧
    ((apply o s ⟨c.task, 61, c.value, c.prio, c.now⟩).2 = 0 → (apply o s ⟨c.task, 61, c.value, c.prio, c.now⟩).1.parked = false ∧ (apply o s ⟨c.task, 61, c.value, c.prio, c.now⟩).1.woken = [] ∧
      (apply o s ⟨c.task, 61, c.value, c.prio, c.now⟩).1.ok = !(apply o s ⟨c.task, 60, c.value, c.prio, c.now⟩).1.parked ∧
      (apply o s ⟨c.task, 61, c.value, c.prio, c.now⟩).1.state = if (apply o s ⟨c.task, 61, c.value, c.prio, c.now⟩).1.ok = true then (apply o s ⟨c.task, 60, c.value, c.prio, c.now⟩).1.state else s) := by
  have he : err o s ⟨c.task, 61, c.value, c.prio, c.now⟩ = err o s ⟨c.task, 60, c.value, c.prio, c.now⟩ := by simp [err, validC]
  unfold apply
  rw [he]
  by_cases hk : chk o s ≠ 0
  · rw [if_pos hk, if_pos hk]; exact ⟨rfl, fun h => by cases h⟩
  · rw [if_neg hk, if_neg hk]
    by_cases h2 : err o s ⟨c.task, 60, c.value, c.prio, c.now⟩ ≠ 0
    · rw [if_pos h2, if_pos h2]; exact ⟨rfl, fun h => absurd h h2⟩
    · rw [if_neg h2, if_neg h2]
      refine ⟨rfl, fun _ => ?_⟩
      have n1 : ¬ (61 : Int) = 62 := by decide
      have n2 : ¬ (60 : Int) = 62 := by decide
      have n3 : ¬ (60 : Int) = 61 := by decide
      simp only [doit, if_neg n1, if_neg n2, if_neg n3, if_true]
      cases hc : can (any o) s c.value <;> simp
theorem remove_append (a b : List W) (t : Int) : remove (a ++ b) t = remove a t ++ remove b t := by simp [remove]
theorem remove_notin {a : List W} {t : Int} (h : findB a t = false) : remove a t = a := by
  unfold remove; rw [List.filter_eq_self]; intro w hw
  have := findB_false.1 h w hw; simp [this]
theorem undo_park {o : Ob} {s : St} {c : Cl} (h : (apply o s c).2 = 0) (hop : c.op = 60) (hp : (apply o s c).1.parked = true) :
    withdraw o (apply o s c).1.state c.task = (⟨s, false, 0, false, []⟩, 0) := by
  have hk2 := chk_apply h
  obtain ⟨h1, h2, h3⟩ := apply_zero h
  have hpu := push_eq h1 h2
  obtain ⟨_, hz, _, _, _, _, _, hbl⟩ := chk_parts h1
  obtain ⟨e1, e2, e3, e4, e5⟩ := err_zero h2
  rw [h3] at hk2 hp ⊢
  have hd : doit (any o) s c = ⟨{ s with queue := s.queue ++ [waiter c] }, true, 0, false, []⟩ := by
    unfold doit at hp ⊢
    rw [if_neg (by omega)] at hp ⊢
    split at hp
    · cases hp
    · rename_i hc
      rw [if_neg (by omega)] at hp
      rw [if_neg hc, if_neg (by omega), hpu]
  rw [hd] at hk2 ⊢
  have hf : findB (s.queue ++ [waiter c]) c.task = true := findB_true.2 ⟨waiter c, by simp, rfl⟩
  rw [withdraw, if_neg (by omega), if_neg (by simp [hf])]
  have : remove (s.queue ++ [waiter c]) c.task = s.queue := by rw [remove_append, remove_notin e4]; simp [remove, waiter]
  simp only [this, servR]
  obtain ⟨k1, k2⟩ := serve_id (s := { s with queue := s.queue }) hbl
  rw [k1, k2]
theorem undo_take {o : Ob} {s : St} {c : Cl} (h : (apply o s c).2 = 0) (hop : c.op = 60) (hp : (apply o s c).1.parked = false) (hq : s.queue = []) :
    apply o (apply o s c).1.state ⟨c.task, 62, c.value, c.prio, c.now⟩ = (⟨s, false, 0, true, []⟩, 0) := by
  have hk2 := chk_apply h
  obtain ⟨h1, h2, h3⟩ := apply_zero h
  obtain ⟨_, hz, _, _, hcn, _, _, hbl⟩ := chk_parts h1
  obtain ⟨e1, e2, e3, e4, e5⟩ := err_zero h2
  rw [h3] at hk2 hp ⊢
  have hd : doit (any o) s c = ⟨{ s with count := s.count - c.value }, false, 0, true, []⟩ := by
    unfold doit at hp ⊢
    rw [if_neg (by omega)] at hp ⊢
    split at hp
    · rename_i hc; rw [if_pos hc]
    · rw [if_neg (by omega)] at hp; cases hp
  rw [hd] at hk2 ⊢
  have he : err o { s with count := s.count - c.value } ⟨c.task, 62, c.value, c.prio, c.now⟩ = 0 := by
    unfold err
    rw [if_neg (by have e1' : validC ⟨c.task, 62, c.value, c.prio, c.now⟩ = true := e1
                   simp [e1']), if_neg (by simp), if_neg (by simp only; omega), if_neg]
    rintro (k | ⟨_, k⟩)
    · have : findB s.queue c.task = true := k
      rw [e4] at this; cases this
    · simp only at k; omega
  rw [apply, if_neg (by omega), if_neg (by simp only; omega)]
  have : s.count - c.value + c.value = s.count := by omega
  simp only [doit, relR, if_true, this]
  obtain ⟨k1, k2⟩ := serve_id (s := s) hbl
  have e : ({ s with count := s.count } : St) = s := rfl
  rw [e, k1, k2]
theorem progress_law {o : Ob} {s : St} {t : Int} {w : W} {r : List W} (h : chk o s = 0) (hq : s.queue = w :: r) (ht : 0 ≤ t ∧ t < 16) (hf : findB s.queue t = false) :
    (apply o s ⟨t, 62, o.size - s.count, 0, 0⟩).2 = 0 ∧ ∃ l, (apply o s ⟨t, 62, o.size - s.count, 0, 0⟩).1.woken = wakeS w :: l := by
  obtain ⟨_, hz, _, _, hcn, _, hqf, hbl⟩ := chk_parts h
  have hw := fit_val (okq_all hqf w (by rw [hq]; simp))
  have hbw : s.count < w.value := hbl w (by split <;> rw [hq] <;> simp)
  have he : err o s ⟨t, 62, o.size - s.count, 0, 0⟩ = 0 := by
    unfold err
    rw [if_neg (by simp [validC]; omega), if_neg (by simp), if_neg (by simp only; omega), if_neg]
    rintro (k | ⟨_, k⟩)
    · have : findB s.queue t = true := k
      rw [hf] at this; cases this
    · simp only at k; omega
  rw [apply, if_neg (by omega), if_neg (by omega)]
  refine ⟨rfl, ?_⟩
  have : s.count + (o.size - s.count) = o.size := by omega
  simp only [doit, relR, if_true, this, serveW, hq]
  obtain ⟨g, hg⟩ := grant_head (a := any o) (w := w) (l := r) (u := o.size) (by omega) hw.2.2.1
  rw [hg]
  exact ⟨_, rfl⟩
end Sp
namespace Sp
open Wl
def VR (s : St) (R : Rp) : Prop := (R.woken.map (·.task)).Sublist (s.queue.map (·.task)) ∧ ∀ w ∈ R.woken, w.ok = true ∧ w.op = 60 ∧ w.case_ = -1 ∧ R.state.queue.any (fun y => decide (y.task = w.task)) = false
theorem serve_VR {o : Ob} {s s' : St} {a : Bool} {R : Rp} (hs : s'.queue.Sublist s.queue) (hq : okq (fit o) s'.queue = true) (h1 : R.state = serveS a s') (h2 : R.woken = serveW a s') : VR s R := by
  obtain ⟨g1, g2, g3⟩ := grant_sub a s'.queue s'.count
  unfold VR
  rw [h1, h2]
  refine ⟨?_, fun w hw => ?_⟩
  · have : (serveW a s').map (·.task) = (grant a s'.queue s'.count).g.map (·.task) := by simp [serveW, wakeS]
    rw [this]
    exact (g1.trans hs).map _
  · obtain ⟨x, hx, rfl⟩ := List.mem_map.1 hw
    have hf := fit_val (okq_all hq x (g1.subset hx))
    refine ⟨rfl, hf.1, rfl, ?_⟩
    rw [Bool.eq_false_iff]
    intro e
    obtain ⟨y, hy, e⟩ := List.any_eq_true.1 e
    have e := of_decide_eq_true e
    have hy' : y ∈ (grant a s'.queue s'.count).o := hy
    have hn : (((grant a s'.queue s'.count).g ++ (grant a s'.queue s'.count).o).map (·.task)).Nodup := (g3.map _).nodup_iff.2 (okq_nd hq)
    rw [List.map_append, List.nodup_append] at hn
    exact hn.2.2 x.task (List.mem_map.2 ⟨x, hx, rfl⟩) y.task (List.mem_map.2 ⟨y, hy', rfl⟩) e.symm
theorem VR_none {s : St} {R : Rp} (h : R.woken = []) : VR s R := by
  unfold VR; rw [h]; exact ⟨by simp, by simp⟩
theorem VR_apply {o : Ob} {s : St} {c : Cl} (h : (apply o s c).2 = 0) : VR s (apply o s c).1 := by
  obtain ⟨h1, h2, h3⟩ := apply_zero h
  obtain ⟨_, _, _, _, _, _, hq, _⟩ := chk_parts h1
  rw [h3]
  unfold doit
  split
  · exact serve_VR (s' := { s with count := s.count + c.value }) (List.Sublist.refl _) hq rfl rfl
  · split
    · exact VR_none rfl
    · split
      · exact VR_none rfl
      · exact VR_none rfl
theorem VR_withdraw {o : Ob} {s : St} {t : Int} (h : (withdraw o s t).2 = 0) : VR s (withdraw o s t).1 := by
  obtain ⟨h1, h2, h3⟩ := withdraw_zero h
  obtain ⟨_, _, _, _, _, _, hq, _⟩ := chk_parts h1
  rw [h3]
  exact serve_VR (s' := { s with queue := remove s.queue t }) (List.filter_sublist) (okq_sub hq List.filter_sublist) rfl rfl
/-- The rest of those who are woken, and the rest of the queue. -/
def inQ (s : St) (l : List Wk) (j k : Nat) : Prop := ((l.drop j).map (·.task)).Sublist ((s.queue.drop k).map (·.task))
theorem inQ_skip {s : St} {l : List Wk} {j k : Nat} (hj : j < l.length) (hk : k < s.queue.length) (h : inQ s l j k) (hn : ¬ s.queue[k].task = l[j].task) : inQ s l j (k + 1) := by
  unfold inQ at h ⊢
  rw [List.drop_eq_getElem_cons hj, List.drop_eq_getElem_cons hk, List.map_cons, List.map_cons] at h
  rw [List.drop_eq_getElem_cons hj, List.map_cons]
  rcases List.sublist_cons_iff.1 h with h | ⟨r, e, h⟩
  · exact h
  · exact absurd (List.cons.inj e).1.symm hn
theorem inQ_end {s : St} {l : List Wk} {j k : Nat} (hj : j < l.length) (hk : s.queue.length ≤ k) (h : inQ s l j k) : False := by
  unfold inQ at h
  rw [List.drop_eq_getElem_cons hj, List.drop_of_length_le hk, List.map_cons, List.map_nil] at h
  exact List.cons_ne_nil _ _ (List.eq_nil_of_sublist_nil h)
theorem inQ_next {s : St} {l : List Wk} {j k : Nat} (hj : j < l.length) (h : inQ s l j k) : inQ s l (j + 1) k := by
  unfold inQ at h ⊢
  rw [List.drop_eq_getElem_cons hj, List.map_cons] at h
  exact (List.sublist_cons_self _ _).trans h
end Sp
namespace Sp
open Wl
/-! ### In order of arrival -/
theorem ord_law {o : Ob} {s : St} {c : Cl} (hz : o.other = 0) (h : (apply o s c).2 = 0) :
    ((apply o s c).1.ok = true → c.op ≠ 62 → s.queue = []) ∧ (apply o s c).1.state.queue.map (·.task) = (s.queue.map (·.task)).drop (apply o s c).1.woken.length ++ (if (apply o s c).1.parked = true then [c.task] else []) ∧
    (∀ j (h : j < (apply o s c).1.woken.length), j < s.queue.length ∧ (s.queue.getD j default).task = (apply o s c).1.woken[j].task) := by
  obtain ⟨h1, h2, h3⟩ := apply_zero h
  have hpu := push_eq h1 h2
  have ha : any o = false := by simp [any, hz]
  rw [h3, ha]
  unfold doit
  by_cases hop : c.op = 62
  · rw [if_pos hop]
    have hs := strict_all s.queue (s.count + c.value)
    refine ⟨fun _ k => absurd hop k, ?_, fun j hj => ?_⟩
    · have e1 : (relR false s c.value).state.queue = (grant false s.queue (s.count + c.value)).o := rfl
      have e2 : (relR false s c.value).woken.length = (grant false s.queue (s.count + c.value)).g.length := by simp [relR, serveW]
      rw [e1, e2, ← List.map_drop]
      have : s.queue.drop (grant false s.queue (s.count + c.value)).g.length = (grant false s.queue (s.count + c.value)).o := by
        conv => lhs; arg 2; rw [← hs]
        simp
      rw [this]; simp [relR]
    · have hj' : j < (grant false s.queue (s.count + c.value)).g.length := by simpa [relR, serveW] using hj
      have e3 : s.queue[j]? = some (grant false s.queue (s.count + c.value)).g[j] := by
        conv => lhs; arg 1; rw [← hs]
        rw [List.getElem?_append_left hj', List.getElem?_eq_getElem hj']
      refine ⟨(List.getElem?_eq_some_iff.1 e3).1, ?_⟩
      simp only [List.getD, e3, Option.getD_some]
      simp [relR, serveW, wakeS]
  · rw [if_neg hop]
    by_cases hc : can false s c.value = true
    · rw [if_pos hc]
      simp [can] at hc
      exact ⟨fun _ _ => hc.2, by simp, fun j hj => by simp at hj⟩
    · rw [if_neg hc]
      by_cases h61 : c.op = 61
      · rw [if_pos h61]; exact ⟨fun k => by simp at k, by simp, fun j hj => by simp at hj⟩
      · rw [if_neg h61, hpu]; exact ⟨fun k => by simp at k, by simp [waiter], fun j hj => by simp at hj⟩
def stepO (o : Ob) (s : St) (c : Cl) : St := if (apply o s c).2 ≠ 0 then s else (apply o s c).1.state
def runO (o : Ob) (l : List Cl) (k : Nat) : St := (l.take k).foldl (stepO o) (new o).1
theorem runO_succ (o : Ob) (l : List Cl) (k : Nat) (h : k < l.length) : runO o l (k + 1) = stepO o (runO o l k) l[k] := by
  unfold runO; rw [List.take_succ_eq_append_getElem h, List.foldl_append]; rfl
theorem new_ok {o : Ob} (h : (new o).2 = 0) : chk o (new o).1 = 0 := by
  obtain ⟨_, h2, h3, h4, h5⟩ := new_zero h
  rw [h5]
  refine chk_of h ((ok_iff h4).2 ⟨rfl, ⟨by show 0 ≤ o.size; omega, Int.le_refl _⟩, fun w hw => by simp [S0] at hw, by simp [S0, okq], fun w hw => ?_⟩)
  simp [S0] at hw
theorem runO_ok {o : Ob} (h : (new o).2 = 0) (l : List Cl) : ∀ k, k ≤ l.length → chk o (runO o l k) = 0
  | 0, _ => new_ok h
  | k + 1, hk => by
    rw [runO_succ o l k (by omega)]
    unfold stepO
    split
    · exact runO_ok h l k (by omega)
    · rename_i e; exact chk_apply (by omega)
theorem runO_sm (o : Ob) (l : List Cl) : ∀ k, k ≤ l.length → smN k (runO o l k)
  | 0, _ => new_sm o
  | k + 1, hk => by
    rw [runO_succ o l k (by omega)]
    unfold stepO
    split
    · exact (runO_sm o l k (by omega)).le (Nat.le_succ k)
    · exact (apply_sm (runO_sm o l k (by omega))).1
theorem runO_t {o : Ob} {l : List Cl} {k : Nat} (h : k < l.length) (e : (apply o (runO o l k) l[k]).2 = 0) : runO o l (k + 1) = (apply o (runO o l k) l[k]).1.state := by
  rw [runO_succ o l k h, stepO, if_neg (by omega)]
theorem runO_f {o : Ob} {l : List Cl} {k : Nat} (h : k < l.length) (e : ¬ (apply o (runO o l k) l[k]).2 = 0) : runO o l (k + 1) = runO o l k := by
  rw [runO_succ o l k h, stepO, if_pos e]
theorem qlen {o : Ob} {s : St} (h : chk o s = 0) : s.queue.length ≤ 16 := by
  obtain ⟨_, _, _, _, _, hv, hq, _⟩ := chk_parts h; exact okq_len hq hv
end Sp
namespace Sp
open Wl
def wts (s : St) : List Int := s.queue.map (·.task)
theorem wts_len (s : St) : (wts s).length = s.queue.length := by simp [wts]
end Sp
namespace Sp
open Wl
/-! ### Conservation -/
def heldM (c : Cl) (y : Rp) (m : List (Int × Int)) : List (Int × Int) := if y.parked = true then stl m c.task c.value else m
def heldB (n : Int) (c : Cl) (y : Rp) : Int := if y.parked = true then n else if c.op = 62 then n - c.value else if y.ok = true then n + c.value else n
def hsum (m : List (Int × Int)) : List Wk → Nat → Int
  | _, 0 => 0
  | [], _ => 0
  | w :: l, k + 1 => (gl m w.task).getD 0 + hsum m l k
theorem hsum_zero (m : List (Int × Int)) (l : List Wk) : hsum m l 0 = 0 := by cases l <;> rfl
theorem hsum_succ (m : List (Int × Int)) : ∀ (l : List Wk) (k : Nat) (h : k < l.length), hsum m l (k + 1) = hsum m l k + (gl m l[k].task).getD 0
  | [], k, h => by simp at h
  | w :: l, 0, h => by simp [hsum, hsum_zero]
  | w :: l, k + 1, h => by
    have := hsum_succ m l k (by simpa using h)
    show (gl m w.task).getD 0 + hsum m l (k + 1) = (gl m w.task).getD 0 + hsum m l k + _
    rw [this]; simp; omega
theorem hsum_wake (m : List (Int × Int)) : ∀ (g : List W) (k : Nat), (∀ w ∈ g, gl m w.task = some w.value ∧ 0 ≤ w.value) → 0 ≤ hsum m (g.map wakeS) k ∧ hsum m (g.map wakeS) k ≤ sumV g ∧ hsum m (g.map wakeS) g.length = sumV g
  | [], k, _ => by cases k <;> simp [hsum, sumV]
  | w :: g, 0, h => by
    obtain ⟨a, b, c⟩ := hsum_wake m g 0 (fun v hv => h v (by simp [hv]))
    obtain ⟨e, p⟩ := h w (by simp)
    rw [hsum_zero] at a b ⊢
    simp only [List.map_cons, List.length_cons, hsum, wakeS, e, Option.getD_some]
    simp [sumV] at b c ⊢
    omega
  | w :: g, k + 1, h => by
    obtain ⟨a, b, c⟩ := hsum_wake m g k (fun v hv => h v (by simp [hv]))
    obtain ⟨e, p⟩ := h w (by simp)
    simp only [List.map_cons, List.length_cons, hsum, wakeS, e, Option.getD_some]
    simp [sumV] at a b c ⊢
    omega
structure Cons (o : Ob) (s : St) (n : Int) (m : List (Int × Int)) : Prop where
  chk : chk o s = 0
  sum : s.count + n = o.size
  wants : ∀ w ∈ s.queue, gl m w.task = some w.value
theorem Cons.step {o : Ob} {s : St} {n : Int} {m : List (Int × Int)} {c : Cl} (h : Cons o s n m) (h0 : (apply o s c).2 = 0) :
    Cons o (apply o s c).1.state (heldB n c (apply o s c).1 + hsum (heldM c (apply o s c).1 m) (apply o s c).1.woken (apply o s c).1.woken.length) (heldM c (apply o s c).1 m) ∧
    (∀ k, k ≤ (apply o s c).1.woken.length → 0 ≤ hsum (heldM c (apply o s c).1 m) (apply o s c).1.woken k ∧ hsum (heldM c (apply o s c).1 m) (apply o s c).1.woken k ≤ 100) ∧ (0 ≤ n ∧ n ≤ 100) ∧ (1 ≤ c.value ∧ c.value ≤ 100) := by
  have hck := chk_apply h0
  obtain ⟨h1, h2, h3⟩ := apply_zero h0
  have hpu := push_eq h1 h2
  obtain ⟨⟨_, k1, k2⟩, hz, _, _, hcn, _, hqf, hbl⟩ := chk_parts h1
  obtain ⟨e1, e2, e3, e4, e5⟩ := err_zero h2
  have hsum0 := h.sum
  refine ⟨?_, ?_, by omega, by omega⟩
  · refine ⟨hck, ?_, ?_⟩
    all_goals rw [h3]
    all_goals unfold doit
    all_goals by_cases h62 : c.op = 62
    · rw [if_pos h62]
      have hw := hsum_wake m (grant (any o) s.queue (s.count + c.value)).g 0 (fun w hw => by
        have hm := (grant_sub (any o) s.queue (s.count + c.value)).1.subset hw
        have := fit_val (okq_all hqf w hm)
        exact ⟨h.wants w hm, by omega⟩)
      have hg := (grant_sum (any o) s.queue (s.count + c.value)).1
      have a1 : (relR (any o) s c.value).state.count = (grant (any o) s.queue (s.count + c.value)).u := rfl
      have a2 : heldB n c (relR (any o) s c.value) = n - c.value := by simp [heldB, relR, h62]
      have a3 : heldM c (relR (any o) s c.value) m = m := by simp [heldM, relR]
      have a4 : (relR (any o) s c.value).woken = (grant (any o) s.queue (s.count + c.value)).g.map wakeS := rfl
      rw [a1, a2, a3, a4, List.length_map, hw.2.2]
      omega
    · rw [if_neg h62]
      by_cases hc : can (any o) s c.value = true
      · rw [if_pos hc]; simp [heldB, h62, hsum]; omega
      · rw [if_neg hc]
        by_cases h61 : c.op = 61
        · rw [if_pos h61]; simp [heldB, h62, hsum]; omega
        · rw [if_neg h61]; simp [heldB, h62, hsum]; omega
    · rw [if_pos h62]
      intro w hw
      have hw' : w ∈ (grant (any o) s.queue (s.count + c.value)).o := hw
      have a3 : heldM c (relR (any o) s c.value) m = m := by simp [heldM, relR]
      rw [a3]
      exact h.wants w ((grant_sub (any o) s.queue (s.count + c.value)).2.1.subset hw')
    · rw [if_neg h62]
      by_cases hc : can (any o) s c.value = true
      · rw [if_pos hc]; exact h.wants
      · rw [if_neg hc]
        by_cases h61 : c.op = 61
        · rw [if_pos h61]; exact h.wants
        · rw [if_neg h61, hpu]
          intro w hw
          simp only [heldM, if_true]
          rw [gl_stl]
          rcases List.mem_append.1 hw with hw | hw
          · rw [if_neg (findB_false.1 e4 w hw)]; exact h.wants w hw
          · rw [List.mem_singleton.1 hw]; rw [if_pos (show (waiter c).task = c.task from rfl)]; rfl
  · intro k hk
    rw [h3]
    unfold doit
    by_cases h62 : c.op = 62
    · rw [if_pos h62]
      have hw := hsum_wake m (grant (any o) s.queue (s.count + c.value)).g k (fun w hw => by
        have hm := (grant_sub (any o) s.queue (s.count + c.value)).1.subset hw
        have := fit_val (okq_all hqf w hm)
        exact ⟨h.wants w hm, by omega⟩)
      obtain ⟨hg, hg2, _⟩ := grant_sum (any o) s.queue (s.count + c.value)
      have hg3 := hg2 (by omega)
      have a3 : heldM c (relR (any o) s c.value) m = m := by simp [heldM, relR]
      have a4 : (relR (any o) s c.value).woken = (grant (any o) s.queue (s.count + c.value)).g.map wakeS := rfl
      have := e5 h62
      rw [a3, a4]
      omega
    · rw [if_neg h62]
      by_cases hc : can (any o) s c.value = true
      · rw [if_pos hc]; cases k <;> simp [hsum]
      · rw [if_neg hc]
        by_cases h61 : c.op = 61
        · rw [if_pos h61]; cases k <;> simp [hsum]
        · rw [if_neg h61]; cases k <;> simp [hsum]
theorem Cons.fin {o : Ob} {s : St} {n : Int} {m : List (Int × Int)} (h : Cons o s n m) : ¬ (s.count = o.size ∧ 0 < s.queue.length) := by
  obtain ⟨_, _, _, _, _, _, hqf, hbl⟩ := chk_parts h.chk
  rintro ⟨a, b⟩
  cases hq : s.queue with
  | nil => rw [hq] at b; simp at b
  | cons w r =>
    have h1 : s.count < w.value := hbl w (by split <;> rw [hq] <;> simp)
    have h2 := fit_val (okq_all hqf w (by rw [hq]; simp))
    omega
abbrev CS := St × Int × List (Int × Int)
def stepC (o : Ob) (x : CS) (c : Cl) : CS := if (apply o x.1 c).2 ≠ 0 then x else ((apply o x.1 c).1.state, heldB x.2.1 c (apply o x.1 c).1 + hsum (heldM c (apply o x.1 c).1 x.2.2) (apply o x.1 c).1.woken (apply o x.1 c).1.woken.length, heldM c (apply o x.1 c).1 x.2.2)
def runC (o : Ob) (l : List Cl) (k : Nat) : CS := (l.take k).foldl (stepC o) ((new o).1, 0, [])
theorem runC_succ (o : Ob) (l : List Cl) (k : Nat) (h : k < l.length) : runC o l (k + 1) = stepC o (runC o l k) l[k] := by
  unfold runC; rw [List.take_succ_eq_append_getElem h, List.foldl_append]; rfl
theorem runC_ok {o : Ob} (h : (new o).2 = 0) (l : List Cl) : ∀ k, k ≤ l.length → Cons o (runC o l k).1 (runC o l k).2.1 (runC o l k).2.2
  | 0, _ => ⟨new_ok h, by show (new o).1.count + 0 = _; rw [(new_zero h).2.2.2.2]; simp, fun w hw => by
      have hw' : w ∈ (new o).1.queue := hw
      rw [(new_zero h).2.2.2.2] at hw'; simp [S0] at hw'⟩
  | k + 1, hk => by
    rw [runC_succ o l k (by omega)]
    unfold stepC
    split
    · exact runC_ok h l k (by omega)
    · rename_i e; exact ((runC_ok h l k (by omega)).step (by omega)).1
theorem runC_sm (o : Ob) (l : List Cl) : ∀ k, k ≤ l.length → smN k (runC o l k).1
  | 0, _ => new_sm o
  | k + 1, hk => by
    rw [runC_succ o l k (by omega)]
    unfold stepC
    split
    · exact (runC_sm o l k (by omega)).le (Nat.le_succ k)
    · exact (apply_sm (runC_sm o l k (by omega))).1
end Sp
