/- The plain records of the interface, and how values hold them. For every program. No condition. -/
import Derived.Test.YtjjgchblmejooaaAwC
import Derived.Test.YtjjgchblmejooaaM07
set_option linter.unusedVariables false
set_option linter.unusedSimpArgs false
namespace Wl
structure Ob where
  name : ByteArray
  kind : Int
  size : Int
  other : Int
  deriving DecidableEq
structure Cur where
  task : Int
  backlog : List Int
  deriving DecidableEq, Inhabited
structure St where
  owner : Int
  count : Int
  time : Int
  holders : List Int
  queue : List W
  buffer : List Int
  cursors : List Cur
  closed : Bool
  value : Int
  deriving DecidableEq, Inhabited
structure Cl where
  task : Int
  op : Int
  value : Int
  prio : Int
  now : Int
  deriving DecidableEq, Inhabited
structure Wk where
  task : Int
  op : Int
  value : Int
  ok : Bool
  case_ : Int
  deriving DecidableEq, Inhabited
structure Rp where
  state : St
  parked : Bool
  value : Int
  ok : Bool
  woken : List Wk
  deriving DecidableEq, Inhabited
/-- The zero state, the state of owner n, the empty reply. -/
def S0 : St := ⟨0, 0, 0, [], [], [], [], false, 0⟩
def R0 : Rp := ⟨S0, false, 0, false, []⟩
/-- No list of the state is longer than n. -/
def smN (n : Nat) (s : St) : Prop := s.holders.length ≤ n ∧ s.queue.length ≤ n ∧ s.buffer.length ≤ n ∧ s.cursors.length ≤ n ∧ ∀ c ∈ s.cursors, c.backlog.length ≤ n
theorem smN.le {n m : Nat} {s : St} (h : smN n s) (k : n ≤ m) : smN m s := ⟨Nat.le_trans h.1 k, Nat.le_trans h.2.1 k, Nat.le_trans h.2.2.1 k, Nat.le_trans h.2.2.2.1 k, fun c hc => Nat.le_trans (h.2.2.2.2 c hc) k⟩
/-- How long the lists of a state may be. -/
class Sm (s : St) (n : outParam Nat) : Prop where
  sm : smN n s
theorem Sm.to {s : St} {n m : Nat} [h : Sm s n] (k : n ≤ m) : smN m s := h.sm.le k
theorem Sm.q {s : St} {n m : Nat} [h : Sm s n] (k : n ≤ m) : s.queue.length ≤ m := Nat.le_trans h.sm.2.1 k
theorem smN.h {n : Nat} {s : St} (h : smN n s) : s.holders.length ≤ n := h.1
theorem smN.q {n : Nat} {s : St} (h : smN n s) : s.queue.length ≤ n := h.2.1
theorem smN.b {n : Nat} {s : St} (h : smN n s) : s.buffer.length ≤ n := h.2.2.1
theorem smN.c {n : Nat} {s : St} (h : smN n s) : s.cursors.length ≤ n := h.2.2.2.1
theorem smN.d {n : Nat} {s : St} (h : smN n s) : ∀ c ∈ s.cursors, c.backlog.length ≤ n := h.2.2.2.2
theorem smN.withQ {n : Nat} {s : St} (h : smN n s) {q : List W} (hq : q.length ≤ n) : smN n { s with queue := q } := ⟨h.1, hq, h.2.2.1, h.2.2.2.1, h.2.2.2.2⟩
theorem smN_S0 {n : Nat} : smN n S0 := ⟨Nat.zero_le _, Nat.zero_le _, Nat.zero_le _, Nat.zero_le _, fun c hc => by simp [S0] at hc⟩
theorem Cur_ext {x y : Cur} (h : x.task = y.task) (k : x.backlog = y.backlog) : x = y := by cases x; cases y; simp at h k; simp [h, k]
end Wl
namespace Go.Aw
open Wl
def encW (w : W) : List AV := [.int w.task, .int w.op, .int w.value, .int w.prio, .int w.case_]
def encO (o : Ob) : List AV := [.val (.string o.name), .int o.kind, .int o.size, .int o.other]
def encCur (c : Cur) : List AV := [.int c.task, .sl 1 (c.backlog.map encI)]
def encS (s : St) : List AV := [.int s.owner, .int s.count, .int s.time, .sl 1 (s.holders.map encI), .sl 5 (s.queue.map encW), .sl 1 (s.buffer.map encI), .sl 2 (s.cursors.map encCur), .bool s.closed, .int s.value]
def encC (c : Cl) : List AV := [.int c.task, .int c.op, .int c.value, .int c.prio, .int c.now]
def encK (w : Wk) : List AV := [.int w.task, .int w.op, .int w.value, .bool w.ok, .int w.case_]
def encR (r : Rp) : List AV := [.int r.state.owner, .int r.state.count, .int r.state.time, .sl 1 (r.state.holders.map encI), .sl 5 (r.state.queue.map encW), .sl 1 (r.state.buffer.map encI), .sl 2 (r.state.cursors.map encCur), .bool r.state.closed, .int r.state.value, .bool r.parked, .int r.value, .bool r.ok, .sl 5 (r.woken.map encK)]
abbrev avW (w : W) : AV := .agg (encW w)
abbrev slI (l : List Int) : AV := .sl 1 (l.map encI)
abbrev slW (l : List W) : AV := .sl 5 (l.map encW)
instance {a b c d e : Int} : RowOf [.val (.int .i64 a), .val (.int .i64 b), .val (.int .i64 c), .val (.int .i64 d), .val (.int .i64 e)] encW ⟨a, b, c, d, e⟩ := ⟨ImpL.refl _⟩
instance {a b c d e : Int} : RowOf [.val (.int .i64 a), .val (.int .i64 b), .val (.int .i64 c), .val (.int .i64 d), .val (.int .i64 e)] encC ⟨a, b, c, d, e⟩ := ⟨ImpL.refl _⟩
instance {n : ByteArray} {b c d : Int} : RowOf [.val (.string n), .val (.int .i64 b), .val (.int .i64 c), .val (.int .i64 d)] encO ⟨n, b, c, d⟩ := ⟨ImpL.refl _⟩
instance {a b c d : Int} {o : Bool} : RowOf [.val (.int .i64 a), .val (.int .i64 b), .val (.int .i64 c), .val (.bool o), .val (.int .i64 d)] encK ⟨a, b, c, o, d⟩ := ⟨ImpL.refl _⟩
instance {a : Int} {v : AV} {l : List Int} [h : Sl v 1 encI l] : RowOf [.val (.int .i64 a), v] encCur ⟨a, l⟩ := ⟨.cons (AV.Imp.refl _) (.cons h.imp .nil)⟩
instance {a b c d : Int} {o : Bool} {v1 v2 v3 v4 : AV} {l1 : List Int} {l2 : List W} {l3 : List Int} {l4 : List Cur} [h1 : Sl v1 1 encI l1] [h2 : Sl v2 5 encW l2] [h3 : Sl v3 1 encI l3] [h4 : Sl v4 2 encCur l4] :
    RowOf [.val (.int .i64 a), .val (.int .i64 b), .val (.int .i64 c), v1, v2, v3, v4, .val (.bool o), .val (.int .i64 d)] encS ⟨a, b, c, l1, l2, l3, l4, o, d⟩ :=
  ⟨.cons (AV.Imp.refl _) (.cons (AV.Imp.refl _) (.cons (AV.Imp.refl _) (.cons h1.imp (.cons h2.imp (.cons h3.imp (.cons h4.imp (.cons (AV.Imp.refl _) (.cons (AV.Imp.refl _) .nil))))))))⟩
instance {a b c d e : Int} {o p q : Bool} {v1 v2 v3 v4 v5 : AV} {l1 : List Int} {l2 : List W} {l3 : List Int} {l4 : List Cur} {l5 : List Wk} [h1 : Sl v1 1 encI l1] [h2 : Sl v2 5 encW l2] [h3 : Sl v3 1 encI l3] [h4 : Sl v4 2 encCur l4] [h5 : Sl v5 5 encK l5] :
    RowOf [.val (.int .i64 a), .val (.int .i64 b), .val (.int .i64 c), v1, v2, v3, v4, .val (.bool o), .val (.int .i64 d), .val (.bool p), .val (.int .i64 e), .val (.bool q), v5] encR ⟨⟨a, b, c, l1, l2, l3, l4, o, d⟩, p, e, q, l5⟩ :=
  ⟨.cons (AV.Imp.refl _) (.cons (AV.Imp.refl _) (.cons (AV.Imp.refl _) (.cons h1.imp (.cons h2.imp (.cons h3.imp (.cons h4.imp (.cons (AV.Imp.refl _) (.cons (AV.Imp.refl _) (.cons (AV.Imp.refl _) (.cons (AV.Imp.refl _) (.cons (AV.Imp.refl _) (.cons h5.imp .nil))))))))))))⟩
/-- The same, taken apart and put together again. -/
instance (priority := high) {s : St} : RowOf [.val (.int .i64 s.owner), .val (.int .i64 s.count), .val (.int .i64 s.time), .sl 1 (s.holders.map encI), .sl 5 (s.queue.map encW), .sl 1 (s.buffer.map encI), .sl 2 (s.cursors.map encCur), .val (.bool s.closed), .val (.int .i64 s.value)] encS s := ⟨ImpL.refl _⟩
instance (priority := high) {r : Rp} : RowOf [.val (.int .i64 r.state.owner), .val (.int .i64 r.state.count), .val (.int .i64 r.state.time), .sl 1 (r.state.holders.map encI), .sl 5 (r.state.queue.map encW), .sl 1 (r.state.buffer.map encI), .sl 2 (r.state.cursors.map encCur), .val (.bool r.state.closed), .val (.int .i64 r.state.value), .val (.bool r.parked), .val (.int .i64 r.value), .val (.bool r.ok), .sl 5 (r.woken.map encK)] encR r := ⟨ImpL.refl _⟩
instance (priority := high) {w : W} : RowOf [.val (.int .i64 w.task), .val (.int .i64 w.op), .val (.int .i64 w.value), .val (.int .i64 w.prio), .val (.int .i64 w.case_)] encW w := ⟨ImpL.refl _⟩
instance (priority := high) {w : Cl} : RowOf [.val (.int .i64 w.task), .val (.int .i64 w.op), .val (.int .i64 w.value), .val (.int .i64 w.prio), .val (.int .i64 w.now)] encC w := ⟨ImpL.refl _⟩
/-- A reply whose wakes are still growing. -/
def encRt (t : Option Nat) (r : Rp) : List AV := [.int r.state.owner, .int r.state.count, .int r.state.time, .sl 1 (r.state.holders.map encI), .sl 5 (r.state.queue.map encW), .sl 1 (r.state.buffer.map encI), .sl 2 (r.state.cursors.map encCur), .bool r.state.closed, .int r.state.value, .bool r.parked, .int r.value, .bool r.ok, .grow 5 t (r.woken.map encK)]
instance {t : Option Nat} {r : Rp} : RowOf (encRt t r) encR r := ⟨.cons (AV.Imp.refl _) (.cons (AV.Imp.refl _) (.cons (AV.Imp.refl _) (.cons (AV.Imp.refl _) (.cons (AV.Imp.refl _) (.cons (AV.Imp.refl _) (.cons (AV.Imp.refl _) (.cons (AV.Imp.refl _) (.cons (AV.Imp.refl _) (.cons (AV.Imp.refl _) (.cons (AV.Imp.refl _) (.cons (AV.Imp.refl _) (.cons AV.Imp.grow_sl .nil))))))))))))⟩
/-- The state of a reply. -/
instance {r : Rp} : RowOf (encS r.state) encS r.state := ⟨ImpL.refl _⟩
end Go.Aw
namespace Wl
theorem St_eq {a b : St} (h : ((((a.owner = b.owner ∧ a.count = b.count) ∧ a.time = b.time) ∧ a.closed = b.closed) ∧ a.value = b.value)) : a = b ↔ ((a.holders = b.holders ∧ a.buffer = b.buffer) ∧ a.queue = b.queue) ∧ a.cursors = b.cursors := by
  cases a; cases b; simp only [St.mk.injEq] at h ⊢; constructor
  · rintro ⟨_, _, _, h1, h2, h3, h4, _, _⟩; exact ⟨⟨⟨h1, h3⟩, h2⟩, h4⟩
  · rintro ⟨⟨⟨h1, h3⟩, h2⟩, h4⟩; exact ⟨h.1.1.1.1, h.1.1.1.2, h.1.1.2, h1, h2, h3, h4, h.1.2, h.2⟩
theorem St_of {a b : St} (h : ((((((((a.owner = b.owner ∧ a.count = b.count) ∧ a.time = b.time) ∧ a.closed = b.closed) ∧ a.value = b.value) ∧ a.queue = b.queue) ∧ a.holders = b.holders) ∧ a.buffer = b.buffer) ∧ a.cursors.length = b.cursors.length)) (k : a.cursors = b.cursors) : a = b := by
  cases a; cases b; simp at h k; simp [h, k]
theorem Wk_ext {x y : Wk} (h : x.task = y.task ∧ x.op = y.op ∧ x.value = y.value ∧ x.ok = y.ok ∧ x.case_ = y.case_ ∧ True) : x = y := by
  cases x; cases y; simp at h; simp [h]
theorem Rp_eq {a b : Rp} (h : ((((a.state = b.state ∧ a.parked = b.parked) ∧ a.value = b.value) ∧ a.ok = b.ok) ∧ a.woken.length = b.woken.length)) (k : a.woken = b.woken) : a = b := by
  cases a; cases b; simp at h k; simp [h, k]
/-- Where a number stands. -/
def idxI (l : List Int) (t : Int) : Int := match l.findIdx? (fun n => decide (n = t)) with | some i => i | none => -1
theorem idxI_at (l : List Int) (t : Int) (k : Nat) (hk : k < l.length) (h : l[k] = t) (hno : ∀ i (h : i < l.length), i < k → l[i] ≠ t) : idxI l t = (k : Int) := by
  have : l.findIdx? (fun n => decide (n = t)) = some k := by
    rw [List.findIdx?_eq_some_iff_getElem]
    exact ⟨hk, by simpa using h, fun j hj => by simpa using hno j (by omega) hj⟩
  unfold idxI; rw [this]
theorem idxI_no (l : List Int) (t : Int) (hno : ∀ i (h : i < l.length), l[i] ≠ t) : idxI l t = -1 := by
  have : l.findIdx? (fun n => decide (n = t)) = none := by
    rw [List.findIdx?_eq_none_iff]
    intro x hx
    obtain ⟨i, hi, rfl⟩ := List.getElem_of_mem hx
    simpa using hno i hi
  unfold idxI; rw [this]
theorem idxI_mem (l : List Int) (t : Int) : 0 ≤ idxI l t ↔ t ∈ l := by
  unfold idxI
  cases h : l.findIdx? (fun n => decide (n = t)) with
  | some i =>
    rw [List.findIdx?_eq_some_iff_getElem] at h
    obtain ⟨hi, he, _⟩ := h
    exact ⟨fun _ => by simp at he; rw [← he]; exact List.getElem_mem hi, fun _ => by simp⟩
  | none =>
    rw [List.findIdx?_eq_none_iff] at h
    constructor
    · intro h; simp at h
    · intro hm; have := h t hm; simp at this
theorem Rp_iff {a b : Rp} (k : a.woken = b.woken) : a = b ↔ ((a.state = b.state ∧ a.parked = b.parked) ∧ a.value = b.value) ∧ a.ok = b.ok := by
  cases a; cases b; simp at k; simp [k, and_assoc]
/-- Larger than n. -/
def greatN (n : Nat) (s : St) : Bool := decide (n < s.queue.length) || decide (n < s.holders.length) || decide (n < s.buffer.length) || decide (n < s.cursors.length) || s.cursors.any (fun c => decide (n < c.backlog.length))
theorem greatN_sm {n : Nat} {s : St} (h : greatN n s = false) : smN n s := by
  simp [greatN] at h
  obtain ⟨⟨⟨⟨h1, h2⟩, h3⟩, h4⟩, h5⟩ := h
  exact ⟨by omega, by omega, by omega, by omega, fun c hc => by have := h5 c hc; omega⟩
/-- Larger than the statements examine. -/
def great16 (s : St) : Bool := decide (40 < s.holders.length) || decide (40 < s.queue.length) || decide (120 < s.buffer.length) || decide (40 < s.cursors.length) || s.cursors.any (fun c => decide (120 < c.backlog.length))
theorem great16_sm {s : St} (h : great16 s = false) : smN 120 s ∧ s.queue.length ≤ 40 := by
  simp [great16] at h
  obtain ⟨⟨⟨⟨h1, h2⟩, h3⟩, h4⟩, h5⟩ := h
  exact ⟨⟨by omega, by omega, by omega, by omega, fun c hc => by have := h5 c hc; omega⟩, by omega⟩
end Wl
namespace Go.Aw
open Wl
/-- The cells of what is seen of the first k. -/
def sn (l : List W) (k : Nat) : List AV := (List.range 16).map (fun (j : Nat) => AV.bool (seenB l k (j : Int)))
theorem sn_get (l : List W) (k j : Nat) (hj : j < 16) : (sn l k)[0 + j * 1]? = some (.bool (seenB l k (j : Int))) := by
  rw [Nat.zero_add, Nat.mul_one, sn, List.getElem?_map, List.getElem?_range hj]; rfl
theorem sn_zero (l : List W) : sn l 0 = List.replicate 16 (.bool false) := by
  simp only [sn, seenB, List.take_zero, List.any_nil]; rfl
theorem sn_same (l : List W) (k : Nat) (hk : k < l.length) (h : (∀ j : Nat, j < 16 → l[k].task ≠ (j : Int)) ∨ seenB l k l[k].task = true) : sn l (k + 1) = sn l k := by
  unfold sn
  refine List.map_congr_left fun j hj => ?_
  rw [seen_succ l k hk]
  by_cases e : l[k].task = (j : Int)
  · rcases h with h | h
    · exact absurd e (h j (by simpa using hj))
    · rw [e] at h; rw [h]; rfl
  · simp [e]
theorem sn_set (l : List W) (k : Nat) (hk : k < l.length) (h0 : 0 ≤ l[k].task) (h1 : l[k].task < 16) : setMany (sn l k) (0 + l[k].task.toNat * 1) [AV.bool true] = sn l (k + 1) := by
  rw [Nat.zero_add, Nat.mul_one]
  have hl : (setMany (sn l k) l[k].task.toNat [AV.bool true]).length = 16 := by rw [setMany_len (by simp [sn]; omega)]; simp [sn]
  refine List.ext_getElem? fun j => ?_
  rcases Nat.lt_or_ge j 16 with hj | hj
  · have e1 := sn_get l (k + 1) j hj
    have e0 := sn_get l k j hj
    rw [Nat.zero_add, Nat.mul_one] at e1 e0
    rw [e1, seen_succ l k hk]
    have hn : (List.take l[k].task.toNat (sn l k)).length = l[k].task.toNat := by rw [List.length_take]; simp [sn]; omega
    unfold setMany
    rcases Nat.lt_trichotomy j l[k].task.toNat with h | h | h
    · rw [List.append_assoc, List.getElem?_append_left (by omega), List.getElem?_take_of_lt h, e0]
      rw [decide_eq_false (by omega), Bool.or_false]
    · subst h
      rw [List.append_assoc, List.getElem?_append_right (by omega), hn, Nat.sub_self]
      rw [decide_eq_true (by omega), Bool.or_true]; rfl
    · rw [List.getElem?_append_right (by simp only [List.length_append, hn, List.length_singleton]; omega)]
      simp only [List.length_append, hn, List.length_singleton, List.getElem?_drop]
      rw [show l[k].task.toNat + 1 + (j - (l[k].task.toNat + 1)) = j by omega, e0, decide_eq_false (by omega), Bool.or_false]
  · rw [List.getElem?_eq_none (by omega), List.getElem?_eq_none (by simp [sn]; omega)]
end Go.Aw
namespace Wl
abbrev okI (n : Int) : Prop := -9223372036854775808 ≤ n ∧ n ≤ 9223372036854775807
def okW (w : W) : Prop := okI w.task ∧ okI w.op ∧ okI w.value ∧ okI w.prio ∧ okI w.case_
def okO (o : Ob) : Prop := okI o.kind ∧ okI o.size ∧ okI o.other
def okCur (c : Cur) : Prop := okI c.task ∧ ∀ n ∈ c.backlog, okI n
def okC (c : Cl) : Prop := okI c.task ∧ okI c.op ∧ okI c.value ∧ okI c.prio ∧ okI c.now
def okS (s : St) : Prop := okI s.owner ∧ okI s.count ∧ okI s.time ∧ (∀ n ∈ s.holders, okI n) ∧ (∀ w ∈ s.queue, okW w) ∧ (∀ n ∈ s.buffer, okI n) ∧ (∀ c ∈ s.cursors, okCur c) ∧ okI s.value
end Wl
namespace Wl
/-- Where the first that a predicate holds of stands. -/
def idxF {α : Type} (p : α → Bool) (l : List α) : Int := match l.findIdx? p with | some i => i | none => -1
theorem idxF_at {α : Type} (p : α → Bool) (l : List α) (k : Nat) (hk : k < l.length) (h : p l[k] = true) (hno : ∀ i (h : i < l.length), i < k → p l[i] = false) : idxF p l = (k : Int) := by
  have : l.findIdx? p = some k := by
    rw [List.findIdx?_eq_some_iff_getElem]
    exact ⟨hk, h, fun j hj => by simpa using hno j (by omega) hj⟩
  unfold idxF; rw [this]
theorem idxF_no {α : Type} (p : α → Bool) (l : List α) (hno : ∀ i (h : i < l.length), p l[i] = false) : idxF p l = -1 := by
  have : l.findIdx? p = none := by
    rw [List.findIdx?_eq_none_iff]
    intro x hx
    obtain ⟨i, hi, rfl⟩ := List.getElem_of_mem hx
    simpa using hno i hi
  unfold idxF; rw [this]
theorem idxF_any {α : Type} (p : α → Bool) (l : List α) : decide (0 ≤ idxF p l) = l.any p := by
  unfold idxF
  cases h : l.findIdx? p with
  | some i =>
    have := List.findIdx?_isSome (xs := l) (p := p)
    rw [h] at this
    rw [← this]; simp
  | none =>
    have := List.findIdx?_isSome (xs := l) (p := p)
    rw [h] at this
    rw [← this]; simp
end Wl
namespace Wl
/-! Maps from numbers to numbers -/
def gl : List (Int × Int) → Int → Option Int
  | [], _ => none
  | (k', v) :: r, k => if k = k' then some v else gl r k
def stl : List (Int × Int) → Int → Int → List (Int × Int)
  | [], k, v => [(k, v)]
  | (k', v') :: r, k, v => if k = k' then (k, v) :: r else (k', v') :: stl r k v
theorem gl_cons (a b k : Int) (m : List (Int × Int)) : gl ((a, b) :: m) k = if k = a then some b else gl m k := rfl
theorem gl_stl (m : List (Int × Int)) (k v k' : Int) : gl (stl m k v) k' = if k' = k then some v else gl m k' := by
  induction m with
  | nil => rfl
  | cons p m ih =>
    obtain ⟨a, b⟩ := p
    unfold stl
    by_cases h : k = a
    · subst h; rw [if_pos rfl, gl_cons, gl_cons]
      by_cases h2 : k' = k
      · rw [if_pos h2, if_pos h2]
      · rw [if_neg h2, if_neg h2, if_neg h2]
    · rw [if_neg h, gl_cons, gl_cons, ih]
      by_cases h2 : k' = a
      · subst h2; rw [if_pos rfl, if_neg (Ne.symm h), if_pos rfl]
      · rw [if_neg h2, if_neg h2]
end Wl
namespace Go.Aw
open Wl
def mm (m : List (Int × Int)) : List (Int × AV) := m.map (fun p => (p.1, AV.int p.2))
theorem getM_mm (m : List (Int × Int)) (k : Int) : getM (mm m) k = (gl m k).map AV.int := by
  induction m with
  | nil => rfl
  | cons p m ih =>
    obtain ⟨a, b⟩ := p
    show (if k = a then _ else getM (mm m) k) = _
    rw [ih, gl]; split <;> rfl
theorem setM_mm (m : List (Int × Int)) (k v : Int) : setM (mm m) k (.int v) = mm (stl m k v) := by
  induction m with
  | nil => rfl
  | cons p m ih =>
    obtain ⟨a, b⟩ := p
    show (if k = a then (k, AV.int v) :: mm m else (a, AV.int b) :: setM (mm m) k (.int v)) = _
    rw [ih, stl]; split <;> rfl
end Go.Aw
