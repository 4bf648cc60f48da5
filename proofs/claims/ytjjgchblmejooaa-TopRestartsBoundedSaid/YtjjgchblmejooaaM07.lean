/- The plain functions of the queue of waiters. -/
namespace Wl
structure W where
  task : Int
  op : Int
  value : Int
  prio : Int
  case_ : Int
  deriving DecidableEq, Inhabited

theorem W_ext {x y : W} (h : x.task = y.task ∧ x.op = y.op ∧ x.value = y.value ∧ x.prio = y.prio ∧ x.case_ = y.case_ ∧ True) : x = y := by
  cases x; cases y; simp at h; simp [h]

def valid (w : W) : Bool := !(decide (w.task < 0) || decide (16 ≤ w.task) || decide (w.op < 1) || decide (99 < w.op) || decide (w.value < -1099511627776) || decide (1099511627776 < w.value)) && (decide (0 ≤ w.prio) && decide (w.prio ≤ 9) && decide (-1 ≤ w.case_) && decide (w.case_ < 6))

/-- Why a list is no queue; p: the waiter ahead of it. -/
def chk (d : Int) : Option W → List W → Int
  | _, [] => 0
  | p, w :: r => if valid w = false then 2 else if d = 2 ∧ (∃ q ∈ p, q.prio < w.prio) then 9 else chk d (some w) r
def check (d : Int) (l : List W) : Int := if d ≠ 1 ∧ d ≠ 2 then 8 else if 96 < l.length then 4 else chk d none l

def find (l : List W) (t : Int) : Option Nat := l.findIdx? (fun w => decide (w.task = t))
def findI (l : List W) (t : Int) : Int := match find l t with | some i => i | none => 0
def findB (l : List W) (t : Int) : Bool := (find l t).isSome
theorem find_at (l : List W) (t : Int) (k : Nat) (hk : k < l.length) (h : l[k].task = t) (hno : ∀ i (h : i < l.length), i < k → l[i].task ≠ t) : find l t = some k := by
  unfold find
  rw [List.findIdx?_eq_some_iff_getElem]
  exact ⟨hk, by simpa using h, fun j hj => by simpa using hno j (by omega) hj⟩
theorem find_no (l : List W) (t : Int) (hno : ∀ i (h : i < l.length), l[i].task ≠ t) : find l t = none := by
  unfold find
  rw [List.findIdx?_eq_none_iff]
  intro x hx
  obtain ⟨i, hi, rfl⟩ := List.getElem_of_mem hx
  simpa using hno i hi

def prev (l : List W) (k : Nat) : Option W := if k = 0 then none else l[k - 1]?
theorem toNat_pred (k : Nat) : ((k : Int) - 1).toNat = k - 1 := by omega
theorem drop_cons (l : List W) (k : Nat) (hk : k < l.length) : l.drop k = l[k] :: l.drop (k + 1) := (List.drop_eq_getElem_cons hk)
theorem prev_lt (l : List W) (k : Nat) (hk : k < l.length) (w : W) : (∃ q ∈ prev l k, q.prio < w.prio) ↔ (0 < k ∧ (l.getD (k - 1) default).prio < w.prio) := by
  unfold prev
  by_cases h : k = 0
  · simp [h]
  · have h1 : k - 1 < l.length := by omega
    simp only [if_neg h, List.getElem?_eq_getElem h1, Option.mem_def, Option.some.injEq, List.getD, Option.getD_some]
    exact ⟨fun ⟨q, e, hq⟩ => ⟨by omega, by rw [e]; exact hq⟩, fun ⟨_, hq⟩ => ⟨_, rfl, hq⟩⟩
theorem chk_step (d : Int) (l : List W) (k : Nat) (hk : k < l.length) (hv : valid l[k] = true) (hn : ¬ ((d = 2 ∧ 0 < k) ∧ (l.getD (k - 1) default).prio < l[k].prio)) : chk d (prev l k) (l.drop k) = chk d (prev l (k + 1)) (l.drop (k + 1)) := by
  rw [drop_cons l k hk, chk]
  rw [if_neg (by simp [hv]), if_neg (fun ⟨h1, h2⟩ => hn (by have := (prev_lt l k hk _).1 h2; exact ⟨⟨h1, this.1⟩, this.2⟩))]
  simp [prev, hk]
theorem chk_bad (d : Int) (l : List W) (k : Nat) (hk : k < l.length) (hv : valid l[k] = false) : chk d (prev l k) (l.drop k) = 2 := by
  rw [drop_cons l k hk, chk, if_pos hv]
theorem chk_order (d : Int) (l : List W) (k : Nat) (hk : k < l.length) (hv : valid l[k] = true) (h : (d = 2 ∧ 0 < k) ∧ (l.getD (k - 1) default).prio < l[k].prio) : chk d (prev l k) (l.drop k) = 9 := by
  rw [drop_cons l k hk, chk, if_neg (by simp [hv]), if_pos ⟨h.1.1, (prev_lt l k hk _).2 ⟨h.1.2, h.2⟩⟩]
theorem chk_end (d : Int) (l : List W) (k : Nat) (hk : l.length ≤ k) : chk d (prev l k) (l.drop k) = 0 := by
  rw [List.drop_of_length_le hk]; cases prev l k <;> rfl

/-- Where a waiter is put: behind the last one of the first k that does not yield to it. -/
def place (d : Int) (l : List W) (p : Int) : Nat → Nat
  | 0 => 0
  | k + 1 => if d = 2 ∧ (l.getD k default).prio < p then place d l p k else k + 1
theorem place_le (d : Int) (l : List W) (p : Int) : ∀ k, place d l p k ≤ k
  | 0 => Nat.le_refl _
  | k + 1 => by unfold place; split; (have := place_le d l p k; omega); exact Nat.le_refl _
def pushE (d : Int) (l : List W) (w : W) : Int := if check d l ≠ 0 then check d l else if valid w = false then 2 else if l.length = 96 then 4 else 0
def pushL (d : Int) (l : List W) (w : W) : List W := if pushE d l w ≠ 0 then [] else l.take (place d l w.prio l.length) ++ [w] ++ l.drop (place d l w.prio l.length)
theorem place_stay (d : Int) (l : List W) (p : Int) (k : Nat) (h : ¬ ((d = 2 ∧ 0 < k) ∧ (l.getD (k - 1) default).prio < p)) : place d l p k = k := by
  cases k with
  | zero => rfl
  | succ k => unfold place; rw [if_neg]; rintro ⟨h1, h2⟩; exact h ⟨⟨h1, by omega⟩, by simpa using h2⟩
theorem place_go (d : Int) (l : List W) (p : Int) (k : Nat) (h : (d = 2 ∧ 0 < k) ∧ (l.getD (k - 1) default).prio < p) : place d l p k = place d l p (k - 1) := by
  cases k with
  | zero => omega
  | succ k => rw [place, if_pos ⟨h.1.1, by simpa using h.2⟩]; rfl

/-- What a filter keeps of the first k. -/
def kp (l : List W) (p : Nat → Bool) : Nat → List W
  | 0 => []
  | k + 1 => if p k then kp l p k ++ [l.getD k default] else kp l p k
theorem kp_t (l : List W) (p : Nat → Bool) (k : Nat) (hk : k < l.length) (h : p k = true) : kp l p (k + 1) = kp l p k ++ [l[k]] := by
  simp [kp, h, List.getD, hk]
theorem kp_f (l : List W) (p : Nat → Bool) (k : Nat) (h : p k = false) : kp l p (k + 1) = kp l p k := by simp [kp, h]
theorem kp_len (l : List W) (p : Nat → Bool) : ∀ k, (kp l p k).length ≤ k
  | 0 => Nat.le_refl _
  | k + 1 => by have := kp_len l p k; unfold kp; split <;> simp <;> omega
theorem kp_filter (l : List W) (q : W → Bool) : kp l (fun k => q (l.getD k default)) l.length = l.filter q := by
  have key : ∀ k, k ≤ l.length → kp l (fun k => q (l.getD k default)) k = (l.take k).filter q := by
    intro k
    induction k with
    | zero => intro _; simp [kp]
    | succ k ih =>
      intro hk
      have hk' : k < l.length := by omega
      rw [List.take_succ_eq_append_getElem hk', List.filter_append, kp, ih (by omega)]
      simp only [List.getD, List.getElem?_eq_getElem hk', Option.getD_some]
      cases hq : q l[k] with
      | true => rw [if_pos rfl, List.filter_cons_of_pos hq, List.filter_nil]
      | false => rw [if_neg (by decide), List.filter_cons_of_neg (by simp [hq]), List.filter_nil, List.append_nil]
  rw [key _ (Nat.le_refl _), List.take_length]
def remove (l : List W) (t : Int) : List W := l.filter (fun w => !decide (w.task = t))
theorem remove_len (l : List W) (t : Int) : (remove l t).length ≤ l.length := List.length_filter_le _ _
theorem remove_t (l : List W) (t : Int) (k : Nat) (hk : k < l.length) (h : l[k].task ≠ t) : remove (l.take (k + 1)) t = remove (l.take k) t ++ [l[k]] := by
  rw [List.take_succ_eq_append_getElem hk, remove, List.filter_append, List.filter_cons_of_pos (by simp [h]), List.filter_nil]; rfl
theorem remove_f (l : List W) (t : Int) (k : Nat) (hk : k < l.length) (h : l[k].task = t) : remove (l.take (k + 1)) t = remove (l.take k) t := by
  rw [List.take_succ_eq_append_getElem hk, remove, List.filter_append, List.filter_cons_of_neg (by simp [h]), List.filter_nil, List.append_nil]; rfl

/-- The state of granting. -/
structure G where
  g : List W
  o : List W
  u : Int
  s : Bool
def gstep (any : Bool) (x : G) (w : W) : G := if x.s = false ∧ 0 ≤ w.value ∧ w.value ≤ x.u then { x with g := x.g ++ [w], u := x.u - w.value } else { x with o := x.o ++ [w], s := x.s || !any }
def gst (any : Bool) (l : List W) (u : Int) (k : Nat) : G := (l.take k).foldl (gstep any) ⟨[], [], u, false⟩
def grant (any : Bool) (l : List W) (u : Int) : G := l.foldl (gstep any) ⟨[], [], u, false⟩
theorem gst_all (any : Bool) (l : List W) (u : Int) : gst any l u l.length = grant any l u := by simp [gst, grant]
theorem gst_succ (any : Bool) (l : List W) (u : Int) (k : Nat) (hk : k < l.length) : gst any l u (k + 1) = gstep any (gst any l u k) l[k] := by
  unfold gst; rw [List.take_succ_eq_append_getElem hk, List.foldl_append]; rfl
def gcan (x : G) (w : W) : Bool := !x.s && (decide (0 ≤ w.value) && decide (w.value ≤ x.u))
theorem gstep_t (any : Bool) (x : G) (w : W) (h : gcan x w = true) : gstep any x w = { x with g := x.g ++ [w], u := x.u - w.value } := by
  unfold gstep; rw [if_pos]; simp [gcan] at h; exact h
theorem gstep_f (any : Bool) (x : G) (w : W) (h : gcan x w = false) : gstep any x w = { x with o := x.o ++ [w], s := x.s || !any } := by
  unfold gstep; rw [if_neg]; intro h'; simp [gcan, h'] at h
theorem gst_u (any : Bool) (l : List W) (u : Int) (hu : -9223372036854775808 ≤ u ∧ u ≤ 9223372036854775807) : ∀ k, -9223372036854775808 ≤ (gst any l u k).u ∧ (gst any l u k).u ≤ 9223372036854775807
  | 0 => by simpa [gst] using hu
  | k + 1 => by
    have ih := gst_u any l u hu k
    by_cases hk : k < l.length
    · rw [gst_succ any l u k hk]
      unfold gstep
      split
      · simp only; omega
      · exact ih
    · have : gst any l u (k + 1) = gst any l u k := by simp [gst, List.take_of_length_le (show l.length ≤ k by omega), List.take_of_length_le (show l.length ≤ k + 1 by omega)]
      rw [this]; exact ih
theorem gst_kp (any : Bool) (l : List W) (u : Int) : ∀ k, k ≤ l.length → kp l (fun k => gcan (gst any l u k) (l.getD k default)) k = (gst any l u k).g
  | 0, _ => by simp [kp, gst]
  | k + 1, hk => by
    have hk' : k < l.length := by omega
    have ih := gst_kp any l u k (by omega)
    rw [gst_succ any l u k hk', kp]
    simp only [List.getD, List.getElem?_eq_getElem hk', Option.getD_some] at ih ⊢
    cases hc : gcan (gst any l u k) l[k] with
    | true => rw [gstep_t any _ _ hc]; simp [ih]
    | false => rw [gstep_f any _ _ hc]; simp [ih]
theorem gst_s (any : Bool) (l : List W) (u : Int) : ∀ k, (gst any l u k).s = true → any = false
  | 0, h => by simp [gst] at h
  | k + 1, h => by
    by_cases hk : k < l.length
    · rw [gst_succ any l u k hk] at h
      unfold gstep at h
      split at h
      · exact gst_s any l u k h
      · simp at h; rcases h with h | h
        · exact gst_s any l u k h
        · exact h
    · have : gst any l u (k + 1) = gst any l u k := by simp [gst, List.take_of_length_le (show l.length ≤ k by omega), List.take_of_length_le (show l.length ≤ k + 1 by omega)]
      rw [this] at h; exact gst_s any l u k h
theorem gst_or (any : Bool) (l : List W) (u : Int) (k : Nat) : ((gst any l u k).s || !any) = !any := by
  cases hs : (gst any l u k).s with
  | false => rfl
  | true => rw [gst_s any l u k hs]; rfl
theorem gst_len (any : Bool) (l : List W) (u : Int) : ∀ k, (gst any l u k).g.length ≤ k ∧ (gst any l u k).o.length ≤ k
  | 0 => by simp [gst]
  | k + 1 => by
    have ih := gst_len any l u k
    by_cases hk : k < l.length
    · rw [gst_succ any l u k hk]
      unfold gstep
      split <;> simp <;> omega
    · have : gst any l u (k + 1) = gst any l u k := by simp [gst, List.take_of_length_le (show l.length ≤ k by omega), List.take_of_length_le (show l.length ≤ k + 1 by omega)]
      rw [this]; omega

/-- Whether waiter k is the first of its task. -/
def fstB (l : List W) (k : Nat) : Bool := decide (findI l (l.getD k default).task = (k : Int))
def tasks (l : List W) : List Int := (kp l (fstB l) l.length).map (·.task)
theorem find_first (l : List W) (k : Nat) (hk : k < l.length) : ∃ j, j ≤ k ∧ findI l l[k].task = (j : Int) ∧ (∀ i (h : i < l.length), i < j → l[i].task ≠ l[k].task) ∧ ∃ h : j < l.length, l[j].task = l[k].task := by
  cases hf : find l l[k].task with
  | none =>
    unfold find at hf
    rw [List.findIdx?_eq_none_iff] at hf
    have := hf l[k] (List.getElem_mem hk)
    simp at this
  | some j =>
    have hf2 := hf
    unfold find at hf2
    rw [List.findIdx?_eq_some_iff_getElem] at hf2
    obtain ⟨h1, h2, h3⟩ := hf2
    refine ⟨j, ?_, by simp [findI, hf], fun i h hi => by simpa using h3 i hi, h1, by simpa using h2⟩
    rcases Nat.lt_or_ge k j with h | h
    · have := h3 k h; simp at this
    · exact h
theorem fst_iff (l : List W) (k : Nat) (hk : k < l.length) : fstB l k = true ↔ ∀ i (h : i < l.length), i < k → l[i].task ≠ l[k].task := by
  obtain ⟨j, h1, h2, h3, h4, h5⟩ := find_first l k hk
  simp only [fstB, List.getD, List.getElem?_eq_getElem hk, Option.getD_some, h2, decide_eq_true_eq]
  constructor
  · intro e i h hi; exact h3 i h (by omega)
  · intro h
    rcases Nat.lt_or_ge j k with hj | hj
    · exact absurd h5 (h j h4 hj)
    · have : j = k := by omega
      rw [this]
theorem fst_le (l : List W) (k : Nat) (hk : k < l.length) (h : findI l l[k].task < (k : Int)) : fstB l k = false := by
  simp only [fstB, List.getD, List.getElem?_eq_getElem hk, Option.getD_some]; simp; omega
theorem fst_ge (l : List W) (k : Nat) (hk : k < l.length) (h : ¬ findI l l[k].task < (k : Int)) : fstB l k = true := by
  obtain ⟨j, h1, h2, _⟩ := find_first l k hk
  simp only [fstB, List.getD, List.getElem?_eq_getElem hk, Option.getD_some]; simp; omega
/-- Whether one of the first k has the task t. -/
def seenB (l : List W) (k : Nat) (t : Int) : Bool := (l.take k).any (fun w => decide (w.task = t))
theorem seen_iff (l : List W) (k : Nat) (t : Int) : seenB l k t = true ↔ ∃ i, ∃ h : i < l.length, i < k ∧ l[i].task = t := by
  simp only [seenB, List.any_eq_true, decide_eq_true_eq]
  constructor
  · rintro ⟨w, hw, e⟩
    obtain ⟨i, hi, rfl⟩ := List.getElem_of_mem hw
    simp at hi
    exact ⟨i, by omega, by omega, by simpa using e⟩
  · rintro ⟨i, h, hi, e⟩
    exact ⟨l[i], List.mem_take_iff_getElem.2 ⟨i, by omega, rfl⟩, e⟩
theorem seen_succ (l : List W) (k : Nat) (hk : k < l.length) (t : Int) : seenB l (k + 1) t = (seenB l k t || decide (l[k].task = t)) := by
  unfold seenB; rw [List.take_succ_eq_append_getElem hk, List.any_append]; simp only [List.any_cons, List.any_nil, Bool.or_false]
theorem fst_seenB (l : List W) (k : Nat) (hk : k < l.length) : fstB l k = !seenB l k l[k].task := by
  rw [Bool.eq_iff_iff, fst_iff l k hk]
  simp only [Bool.not_eq_true', Bool.eq_false_iff, ne_eq, seen_iff]
  exact ⟨fun h ⟨i, a, b, e⟩ => h i a b e, fun h i a b e => h ⟨i, a, b, e⟩⟩

/-- The lists of the wakeful check. -/
abbrev wk (t v p : Int) : W := ⟨t, 60, v, p, -1⟩
def aw1 : List W := [wk 1 2 5, wk 2 4 3]
def aw2 : List W := [wk 1 2 0, wk 2 4 0, wk 3 1 0]

theorem pushL_len (d : Int) (l : List W) (w : W) : (pushL d l w).length ≤ l.length + 1 := by
  unfold pushL; split
  · simp
  · simp; omega
theorem grant_len (any : Bool) (l : List W) (u : Int) : (grant any l u).g.length ≤ l.length ∧ (grant any l u).o.length ≤ l.length := by
  rw [← gst_all]; exact gst_len any l u _
theorem tasks_len (l : List W) : (tasks l).length ≤ l.length := by
  unfold tasks; rw [List.length_map]; exact kp_len l _ _

theorem rem_at (l : List W) (t : Int) (k : Nat) (hk : k < l.length) (h : l[k].task ≠ t) : ∃ hj : (remove (l.take k) t).length < (remove l t).length, (remove l t)[(remove (l.take k) t).length] = l[k] := by
  have e : remove l t = remove (l.take k) t ++ l[k] :: remove (l.drop (k + 1)) t := by
    have e1 : l = l.take k ++ l[k] :: l.drop (k + 1) := by rw [← List.drop_eq_getElem_cons hk, List.take_append_drop]
    have e2 : remove l t = remove (l.take k ++ l[k] :: l.drop (k + 1)) t := congrArg (remove · t) e1
    rw [e2]; unfold remove; rw [List.filter_append, List.filter_cons_of_pos (by simp [h])]
  have hj : (remove (l.take k) t).length < (remove l t).length := by rw [e]; simp
  refine ⟨hj, ?_⟩
  have : (remove l t)[(remove (l.take k) t).length]? = some l[k] := by rw [e]; simp
  rw [List.getElem?_eq_getElem hj] at this
  exact Option.some.inj this
theorem remove_idem (l : List W) (t : Int) : remove (remove l t) t = remove l t := by
  unfold remove; rw [List.filter_filter]; simp
theorem remove_comm (l : List W) (t u : Int) : remove (remove l t) u = remove (remove l u) t := by
  unfold remove; rw [List.filter_filter, List.filter_filter]; congr 1; funext w; exact Bool.and_comm _ _
theorem findB_remove (l : List W) (t : Int) : findB (remove l t) t = false := by
  rw [findB, find_no _ _ (fun i hi e => ?_)]; rfl
  have := List.getElem_mem hi
  unfold remove at this
  rw [List.mem_filter] at this
  have h2 := this.2
  simp only [Bool.not_eq_true', decide_eq_false_iff_not] at h2
  exact h2 e

/-- The first place that q likes, else -1. -/
def ix {α : Type} (l : List α) (q : α → Bool) : Int := match l.findIdx? q with | some i => i | none => -1
theorem ix_at {α : Type} (l : List α) (q : α → Bool) (k : Nat) (hk : k < l.length) (h : q l[k] = true) (hno : ∀ i (h : i < l.length), i < k → q l[i] = false) : ix l q = (k : Int) := by
  unfold ix
  rw [(List.findIdx?_eq_some_iff_getElem).2 ⟨hk, h, fun j hj => by simp [hno j (by omega) hj]⟩]
theorem ix_no {α : Type} (l : List α) (q : α → Bool) (hno : ∀ i (h : i < l.length), q l[i] = false) : ix l q = -1 := by
  unfold ix
  rw [List.findIdx?_eq_none_iff.2 (fun x hx => by obtain ⟨i, hi, rfl⟩ := List.getElem_of_mem hx; exact hno i hi)]
theorem ix_any {α : Type} (l : List α) (q : α → Bool) : decide (0 ≤ ix l q) = l.any q := by
  unfold ix
  cases h : l.findIdx? q with
  | some i =>
    rw [List.findIdx?_eq_some_iff_getElem] at h
    obtain ⟨h1, h2, _⟩ := h
    have : l.any q = true := List.any_eq_true.2 ⟨_, List.getElem_mem h1, h2⟩
    rw [this]; simp
  | none =>
    rw [List.findIdx?_eq_none_iff] at h
    have : l.any q = false := by
      rw [← Bool.not_eq_true, List.any_eq_true]
      rintro ⟨x, hx, e⟩; rw [h x hx] at e; cases e
    rw [this]; simp
def big (n : Int) : Bool := decide (n < -1099511627776) || decide (1099511627776 < n)
def smallB (l : List W) (u : Int) : Bool := !big u && !l.any (fun w => big w.value)
def sumV : List W → Int
  | [] => 0
  | w :: l => w.value + sumV l
theorem sumV_append (a b : List W) : sumV (a ++ b) = sumV a + sumV b := by
  induction a with
  | nil => simp [sumV]
  | cons w a ih => simp [sumV, ih]; omega
theorem sumV_bound (l : List W) (h : ∀ w ∈ l, big w.value = false) : ∀ k, k ≤ l.length → -(1099511627776 * (k : Int)) ≤ sumV (l.take k) ∧ sumV (l.take k) ≤ 1099511627776 * (k : Int)
  | 0, _ => by simp [sumV]
  | k + 1, hk => by
    have ih := sumV_bound l h k (by omega)
    have hk' : k < l.length := by omega
    rw [List.take_succ_eq_append_getElem hk', sumV_append]
    have hb := h l[k] (List.getElem_mem hk')
    simp only [big, Bool.or_eq_false_iff, decide_eq_false_iff_not] at hb
    simp only [sumV]
    omega
theorem sumV_step (l : List W) (k : Nat) (hk : k < l.length) : sumV (l.take (k + 1)) = sumV (l.take k) + l[k].value := by
  rw [List.take_succ_eq_append_getElem hk, sumV_append]; simp [sumV]

/-- The places of the first ones of their tasks. -/
def fsts (l : List W) (n : Nat) : List Nat := (List.range n).filter (fstB l)
theorem kp_fsts (l : List W) : ∀ n, kp l (fstB l) n = (fsts l n).map (fun i => l.getD i default)
  | 0 => rfl
  | n + 1 => by
    rw [kp, kp_fsts l n, fsts, fsts, List.range_succ, List.filter_append]
    cases h : fstB l n with
    | true => rw [if_pos rfl, List.filter_cons_of_pos h, List.filter_nil, List.map_append]; rfl
    | false => rw [if_neg (by decide), List.filter_cons_of_neg (by simp [h]), List.filter_nil, List.append_nil]
theorem tasks_fsts (l : List W) : tasks l = (fsts l l.length).map (fun i => (l.getD i default).task) := by
  rw [tasks, kp_fsts, List.map_map]; rfl
def lastI (l : List W) (k : Nat) : Int := if k = 0 then -1 else findI l ((tasks l).getD (k - 1) 0)
theorem lastI_succ (l : List W) (k : Nat) (hk : k < (tasks l).length) : lastI l (k + 1) = findI l (tasks l)[k] := by
  simp [lastI, List.getD, hk]
theorem tasks_at (l : List W) (k : Nat) (hk : k < (tasks l).length) : ∃ hf : k < (fsts l l.length).length, (fsts l l.length)[k] < l.length ∧ findI l (tasks l)[k] = ((fsts l l.length)[k] : Int) ∧ findB l (tasks l)[k] = true ∧ (l.getD (fsts l l.length)[k] default).task = (tasks l)[k] := by
  have hf : k < (fsts l l.length).length := by rw [tasks_fsts, List.length_map] at hk; exact hk
  have hm2 : (fsts l l.length)[k] ∈ (List.range l.length).filter (fstB l) := List.getElem_mem hf
  rw [List.mem_filter, List.mem_range] at hm2
  have ht : (tasks l)[k] = (l.getD (fsts l l.length)[k] default).task := by simp [tasks_fsts]
  have hi : findI l (tasks l)[k] = ((fsts l l.length)[k] : Int) := by
    rw [ht]
    have := hm2.2
    unfold fstB at this
    exact of_decide_eq_true this
  refine ⟨hf, hm2.1, hi, ?_, ht.symm⟩
  unfold findB
  cases hq : find l (tasks l)[k] with
  | some j => rfl
  | none =>
    exfalso
    unfold find at hq
    rw [List.findIdx?_eq_none_iff] at hq
    have h3 := hq l[(fsts l l.length)[k]] (List.getElem_mem hm2.1)
    rw [ht, List.getD, List.getElem?_eq_getElem hm2.1] at h3
    simp at h3
theorem tasks_up (l : List W) (k : Nat) (hk : k < (tasks l).length) : lastI l k < findI l (tasks l)[k] := by
  obtain ⟨hf, h1, h2, _, _⟩ := tasks_at l k hk
  rw [h2]
  cases k with
  | zero => simp [lastI]; omega
  | succ k =>
    rw [lastI_succ l k (by omega)]
    obtain ⟨hf', h1', h2', _, _⟩ := tasks_at l k (by omega)
    rw [h2']
    have hp : (fsts l l.length).Pairwise (· < ·) := List.Pairwise.filter _ List.pairwise_lt_range
    have := List.pairwise_iff_getElem.1 hp k (k + 1) hf' hf (by omega)
    omega
theorem tasks_none (l : List W) (j : Nat) (hj : j < l.length) (t : Int) (h : findI l t = (j : Int)) (hb : findB l t = true) : (l.take j).any (fun w => decide (w.task = t)) = false := by
  unfold findI at h
  unfold findB at hb
  cases hf : find l t with
  | none => rw [hf] at hb; cases hb
  | some i =>
    rw [hf] at h
    have : i = j := by simp only at h; omega
    subst this
    unfold find at hf
    rw [List.findIdx?_eq_some_iff_getElem] at hf
    obtain ⟨_, _, h3⟩ := hf
    rw [← Bool.not_eq_true]
    intro e
    have := (seen_iff l i t).1 e
    obtain ⟨a, ha, hai, hat⟩ := this
    have := h3 a hai
    simp [hat] at this
theorem tasks_all (l : List W) : l.any (fun w => !(tasks l).any (fun n => decide (w.task = n))) = false := by
  rw [← Bool.not_eq_true, List.any_eq_true]
  rintro ⟨w, hw, e⟩
  obtain ⟨k, hk, rfl⟩ := List.getElem_of_mem hw
  obtain ⟨j, h1, h2, h3, h4, h5⟩ := find_first l k hk
  have hfst : fstB l j = true := (fst_iff l j h4).2 (fun i h hi => by rw [h5]; exact h3 i h hi)
  have hm : j ∈ fsts l l.length := List.mem_filter.2 ⟨List.mem_range.2 h4, hfst⟩
  have : l[k].task ∈ tasks l := by
    rw [tasks_fsts, ← h5]
    exact List.mem_map.2 ⟨j, hm, by simp [List.getD, h4]⟩
  have : (tasks l).any (fun n => decide (l[k].task = n)) = true := List.any_eq_true.2 ⟨_, this, by simp⟩
  rw [this] at e; cases e

theorem gst_sb (any : Bool) (l : List W) (u : Int) : ∀ k, k ≤ l.length → (gst any l u k).s = (!any && !decide ((gst any l u k).o.length = 0))
  | 0, _ => by simp [gst]
  | k + 1, hk => by
    have hk' : k < l.length := by omega
    have ih := gst_sb any l u k (by omega)
    rw [gst_succ any l u k hk']
    cases hc : gcan (gst any l u k) l[k] with
    | true => rw [gstep_t any _ _ hc]; exact ih
    | false =>
      rw [gstep_f any _ _ hc]
      simp only [List.length_append, List.length_singleton]
      rw [gst_or]; simp
theorem gst_prefix (any : Bool) (l : List W) (u : Int) (k : Nat) : ∀ n, k + n ≤ l.length → (∃ r, (gst any l u (k + n)).g = (gst any l u k).g ++ r) ∧ ∃ r, (gst any l u (k + n)).o = (gst any l u k).o ++ r
  | 0, _ => ⟨⟨[], by simp⟩, [], by simp⟩
  | n + 1, h => by
    obtain ⟨⟨r, e⟩, r', e'⟩ := gst_prefix any l u k n (by omega)
    rw [show k + (n + 1) = (k + n) + 1 by omega, gst_succ any l u (k + n) (by omega)]
    cases hc : gcan (gst any l u (k + n)) l[k + n] with
    | true => rw [gstep_t any _ _ hc]; exact ⟨⟨r ++ [l[k + n]], by simp [e]⟩, r', e'⟩
    | false => rw [gstep_f any _ _ hc]; exact ⟨⟨r, e⟩, r' ++ [l[k + n]], by simp [e']⟩
theorem at_of {a b r : List W} {w : W} (e : b = (a ++ [w]) ++ r) : ∃ h : a.length < b.length, b[a.length] = w := by
  subst e; exact ⟨by simp, by simp⟩
theorem g_at (any : Bool) (l : List W) (u : Int) (k : Nat) (hk : k < l.length) (hc : gcan (gst any l u k) l[k] = true) : ∃ h : (gst any l u k).g.length < (grant any l u).g.length, (grant any l u).g[(gst any l u k).g.length] = l[k] := by
  obtain ⟨⟨r, e⟩, _⟩ := gst_prefix any l u (k + 1) (l.length - (k + 1)) (by omega)
  rw [show k + 1 + (l.length - (k + 1)) = l.length by omega, gst_all, gst_succ any l u k hk, gstep_t any _ _ hc] at e
  exact at_of e
theorem o_at (any : Bool) (l : List W) (u : Int) (k : Nat) (hk : k < l.length) (hc : gcan (gst any l u k) l[k] = false) : ∃ h : (gst any l u k).o.length < (grant any l u).o.length, (grant any l u).o[(gst any l u k).o.length] = l[k] := by
  obtain ⟨_, r, e⟩ := gst_prefix any l u (k + 1) (l.length - (k + 1)) (by omega)
  rw [show k + 1 + (l.length - (k + 1)) = l.length by omega, gst_all, gst_succ any l u k hk, gstep_f any _ _ hc] at e
  exact at_of e
theorem gst_sum (any : Bool) (l : List W) (u : Int) : ∀ k, k ≤ l.length → (gst any l u k).u + sumV (gst any l u k).g = u ∧ (0 ≤ u → 0 ≤ (gst any l u k).u) ∧ ∀ w ∈ (gst any l u k).g, w ∈ l
  | 0, _ => by simp [gst, sumV]
  | k + 1, hk => by
    have hk' : k < l.length := by omega
    obtain ⟨h1, h2, h3⟩ := gst_sum any l u k (by omega)
    rw [gst_succ any l u k hk']
    cases hc : gcan (gst any l u k) l[k] with
    | true =>
      rw [gstep_t any _ _ hc]
      simp [gcan] at hc
      refine ⟨by simp only [sumV_append, sumV]; omega, fun _ => by simp only; omega, fun w hw => ?_⟩
      rcases List.mem_append.1 hw with hw | hw
      · exact h3 w hw
      · rw [List.mem_singleton.1 hw]; exact List.getElem_mem hk'
    | false => rw [gstep_f any _ _ hc]; exact ⟨h1, h2, h3⟩
theorem grant_sum (any : Bool) (l : List W) (u : Int) : (grant any l u).u + sumV (grant any l u).g = u ∧ (0 ≤ u → 0 ≤ (grant any l u).u) ∧ ∀ w ∈ (grant any l u).g, w ∈ l := by
  rw [← gst_all]; exact gst_sum any l u _ (Nat.le_refl _)
theorem small_u (l : List W) (u : Int) (h : smallB l u = true) : -1099511627776 ≤ u ∧ u ≤ 1099511627776 := by
  simp only [smallB, big, Bool.and_eq_true, Bool.not_eq_true', Bool.or_eq_false_iff, decide_eq_false_iff_not] at h; omega
theorem small_v (l : List W) (u : Int) (h : smallB l u = true) : ∀ w ∈ l, big w.value = false := by
  simp only [smallB, Bool.and_eq_true, Bool.not_eq_true'] at h
  intro w hw
  have := h.2
  rw [← Bool.not_eq_true, List.any_eq_true] at this
  cases hb : big w.value with
  | false => rfl
  | true => exact absurd ⟨w, hw, hb⟩ this

theorem gcan_iff (any : Bool) (l : List W) (u : Int) (k : Nat) (hk : k ≤ l.length) (w : W) : gcan (gst any l u k) w = true ↔ (0 ≤ w.value ∧ w.value ≤ (gst any l u k).u) ∧ (any = true ∨ (((gst any l u k).o.length : Nat) : Int) = 0) := by
  rw [gcan, gst_sb any l u k hk]
  cases any
  · simp [and_comm]
  · simp

def flatK {α : Type} (L : List (List α)) (k : Nat) : List α := (L.take k).flatten
theorem flat_all {α : Type} (L : List (List α)) : flatK L L.length = L.flatten := by unfold flatK; rw [List.take_length]
theorem flat_step {α : Type} (L : List (List α)) (k : Nat) (hk : k < L.length) : flatK L (k + 1) = flatK L k ++ L[k] := by
  unfold flatK; rw [List.take_succ_eq_append_getElem hk, List.flatten_append]; simp
theorem flat_len {α : Type} (L : List (List α)) (k : Nat) : (flatK L k).length ≤ L.flatten.length := by
  have : L.flatten = (L.take k).flatten ++ (L.drop k).flatten := by rw [← List.flatten_append, List.take_append_drop]
  unfold flatK; rw [this, List.length_append]; omega
theorem flat_len2 {α : Type} (L : List (List α)) (k : Nat) (hk : k < L.length) : (flatK L k).length + L[k].length ≤ L.flatten.length := by
  have := flat_len L (k + 1); rw [flat_step L k hk, List.length_append] at this; exact this

theorem gcan_false_iff (x : G) (w : W) (hs : x.s = false) : gcan x w = true ↔ 0 ≤ w.value ∧ w.value ≤ x.u := by simp [gcan, hs]
theorem strict_split (l : List W) (u : Int) : ∀ k, k ≤ l.length → (gst false l u k).g ++ (gst false l u k).o = l.take k
  | 0, _ => by simp [gst]
  | k + 1, hk => by
    have hk' : k < l.length := by omega
    have ih := strict_split l u k (by omega)
    have hsb := gst_sb false l u k (by omega)
    rw [gst_succ false l u k hk', List.take_succ_eq_append_getElem hk', ← ih]
    cases hc : gcan (gst false l u k) l[k] with
    | true =>
      rw [gstep_t false _ _ hc]
      have hs : (gst false l u k).s = false := by simp [gcan] at hc; exact hc.1
      rw [hs] at hsb
      have ho : (gst false l u k).o = [] := by simpa using hsb.symm
      simp [ho]
    | false => rw [gstep_f false _ _ hc]; simp
theorem strict_all (l : List W) (u : Int) : (grant false l u).g ++ (grant false l u).o = l := by
  rw [← gst_all, strict_split l u _ (Nat.le_refl _), List.take_length]
theorem strict_head (l : List W) (u : Int) : ∀ k, k ≤ l.length → 0 < (gst false l u k).o.length → ¬ (0 ≤ ((gst false l u k).o.getD 0 default).value ∧ ((gst false l u k).o.getD 0 default).value ≤ (gst false l u k).u)
  | 0, _ => by simp [gst]
  | k + 1, hk => by
    have hk' : k < l.length := by omega
    have ih := strict_head l u k (by omega)
    have hsb := gst_sb false l u k (by omega)
    rw [gst_succ false l u k hk']
    cases hc : gcan (gst false l u k) l[k] with
    | true => rw [gstep_t false _ _ hc]; intro h; exfalso; simp [gcan] at hc; rw [hc.1] at hsb; simp at hsb; rw [hsb] at h; simp at h
    | false =>
      rw [gstep_f false _ _ hc]
      intro _
      rcases List.eq_nil_or_concat (gst false l u k).o with ho | ⟨r, w, ho⟩
      · rw [ho] at hsb ⊢
        have hs : (gst false l u k).s = false := by simpa using hsb
        have h2 := (gcan_false_iff (gst false l u k) l[k] hs)
        rw [hc] at h2
        simpa using h2
      · have hp : 0 < (gst false l u k).o.length := by rw [ho]; simp
        have := ih hp
        have e : ((gst false l u k).o ++ [l[k]]).getD 0 default = (gst false l u k).o.getD 0 default := by
          simp only [List.getD]; rw [List.getElem?_append_left hp]
        simp only [e]; exact this
theorem strict_prefix (l : List W) (u : Int) : ∀ k, k ≤ l.length → ((gst false l u k).o = [] → (gst true l u k).g = (gst false l u k).g ∧ (gst true l u k).u = (gst false l u k).u) ∧ (gst false l u k).g <+: (gst true l u k).g
  | 0, _ => by simp [gst]
  | k + 1, hk => by
    have hk' : k < l.length := by omega
    obtain ⟨ih1, ih2⟩ := strict_prefix l u k (by omega)
    have hsb := gst_sb false l u k (by omega)
    have hst : (gst true l u k).s = false := by have := gst_sb true l u k (by omega); simpa using this
    rw [gst_succ false l u k hk', gst_succ true l u k hk']
    rcases Classical.em ((gst false l u k).o = []) with ho | ho
    · obtain ⟨e1, e2⟩ := ih1 ho
      have hsf : (gst false l u k).s = false := by rw [hsb, ho]; rfl
      have hg : gcan (gst true l u k) l[k] = gcan (gst false l u k) l[k] := by unfold gcan; rw [hst, hsf, e2]
      cases hc : gcan (gst false l u k) l[k] with
      | true =>
        rw [gstep_t false _ _ hc, gstep_t true _ _ (hg.trans hc)]
        exact ⟨fun _ => ⟨by simp [e1], by simp [e2]⟩, by simp [e1]⟩
      | false =>
        rw [gstep_f false _ _ hc, gstep_f true _ _ (hg.trans hc)]
        exact ⟨fun h => by simp at h, ih2⟩
    · have hsf : (gst false l u k).s = true := by rw [hsb]; simp [ho]
      have hc : gcan (gst false l u k) l[k] = false := by unfold gcan; rw [hsf]; rfl
      rw [gstep_f false _ _ hc]
      refine ⟨fun h => by simp at h, ?_⟩
      cases hc2 : gcan (gst true l u k) l[k] with
      | true => rw [gstep_t true _ _ hc2]; exact ih2.trans (List.prefix_append _ _)
      | false => rw [gstep_f true _ _ hc2]; exact ih2
theorem fair_take (l : List W) (u : Int) : (grant true l u).g.take (grant false l u).g.length = (grant false l u).g := by
  rw [← gst_all, ← gst_all]
  exact (List.prefix_iff_eq_take.1 (strict_prefix l u _ (Nat.le_refl _)).2).symm
theorem any_refused (l : List W) (u : Int) : ∀ k, k ≤ l.length → ∀ w ∈ (gst true l u k).o, ¬ (0 ≤ w.value ∧ w.value ≤ (gst true l u k).u)
  | 0, _ => by simp [gst]
  | k + 1, hk => by
    have hk' : k < l.length := by omega
    have ih := any_refused l u k (by omega)
    have hst : (gst true l u k).s = false := by have := gst_sb true l u k (by omega); simpa using this
    rw [gst_succ true l u k hk']
    cases hc : gcan (gst true l u k) l[k] with
    | true =>
      rw [gstep_t true _ _ hc]
      have := (gcan_false_iff _ _ hst).1 hc
      intro w hw; have := ih w hw; simp only; omega
    | false =>
      rw [gstep_f true _ _ hc]
      intro w hw
      rcases List.mem_append.1 hw with hw | hw
      · exact ih w hw
      · rw [List.mem_singleton.1 hw]
        intro e; rw [(gcan_false_iff _ _ hst).2 e] at hc; cases hc
theorem fair_any (l : List W) (u : Int) : (grant true l u).o.any (fun w => decide (0 ≤ w.value) && decide (w.value ≤ (grant true l u).u)) = false := by
  rw [← Bool.not_eq_true, List.any_eq_true]
  rintro ⟨w, hw, e⟩
  rw [← gst_all] at hw e
  simp only [Bool.and_eq_true, decide_eq_true_eq] at e
  exact any_refused l u _ (Nat.le_refl _) w hw e

def feq (x w : W) : Bool := decide (x.task = w.task) && (decide (x.op = w.op) && (decide (x.value = w.value) && (decide (x.prio = w.prio) && (decide (x.case_ = w.case_) && true))))
def arrC (d : Int) (l : List W) (w : W) (p : List W) (k : Nat) (x : W) : Bool :=
  (((feq x w) && decide ([p.take k, p.drop (k + 1)].flatten = l)) && !((p.drop (k + 1)).any fun y => decide (y.prio = w.prio))) && (decide (d = 2) || decide ((k : Int) = (l.length : Int)))
theorem place_after (d : Int) (l : List W) (p : Int) : ∀ n, n ≤ l.length → ∀ j (h : j < l.length), place d l p n ≤ j → j < n → d = 2 ∧ l[j].prio < p
  | 0, _ => by intro j h h1 h2; omega
  | n + 1, hn => by
    intro j h h1 h2
    have hn' : n < l.length := by omega
    unfold place at h1
    split at h1
    · rename_i hc
      rcases Nat.lt_or_ge j n with hj | hj
      · exact place_after d l p n (by omega) j h h1 hj
      · have : j = n := by omega
        subst this
        rw [List.getD, List.getElem?_eq_getElem hn', Option.getD_some] at hc
        exact hc
    · omega
theorem place_one (d : Int) (l : List W) (p : Int) (hd : d ≠ 2) (n : Nat) : place d l p n = n := by
  cases n with
  | zero => rfl
  | succ n => unfold place; rw [if_neg (fun h => hd h.1)]
theorem pushL_eq (d : Int) (l : List W) (w : W) (hE : pushE d l w = 0) : pushL d l w = l.take (place d l w.prio l.length) ++ w :: l.drop (place d l w.prio l.length) := by
  unfold pushL; rw [if_neg (by rw [hE]; decide)]; simp
theorem pushL_full (d : Int) (l : List W) (w : W) (hE : pushE d l w = 0) : (pushL d l w).length = l.length + 1 := by
  have := place_le d l w.prio l.length
  rw [pushL_eq d l w hE]; simp; omega
theorem arrival_ok (d : Int) (l : List W) (w : W) (hE : pushE d l w = 0) (k : Nat) (hk : k < (pushL d l w).length) (e : k = place d l w.prio l.length) : arrC d l w (pushL d l w) k (pushL d l w)[k] = true := by
  have hpl := place_le d l w.prio l.length
  have ht : (l.take (place d l w.prio l.length)).length = place d l w.prio l.length := by rw [List.length_take]; omega
  have h1 : (pushL d l w)[k]? = some w := by
    rw [pushL_eq d l w hE, List.getElem?_append_right (by omega), ht, e, Nat.sub_self]; rfl
  have hw : (pushL d l w)[k] = w := by rw [List.getElem?_eq_getElem hk] at h1; exact Option.some.inj h1
  have h2 : (pushL d l w).take k = l.take k := by
    rw [pushL_eq d l w hE, e, List.take_append_of_le_length (by omega), List.take_of_length_le (by omega)]
  have h3 : (pushL d l w).drop (k + 1) = l.drop k := by
    rw [pushL_eq d l w hE, e, List.drop_append]
    rw [List.drop_of_length_le (by omega), ht, show place d l w.prio l.length + 1 - place d l w.prio l.length = 1 by omega]; rfl
  rw [hw]
  unfold arrC
  rw [h2, h3]
  have hfl : [l.take k, l.drop k].flatten = l := by simp
  rw [hfl]
  have ha : (l.drop k).any (fun y => decide (y.prio = w.prio)) = false := by
    rw [← Bool.not_eq_true, List.any_eq_true]
    rintro ⟨y, hy, hp⟩
    obtain ⟨i, hi, rfl⟩ := List.getElem_of_mem hy
    rw [List.length_drop] at hi
    have := (place_after d l w.prio l.length (Nat.le_refl _) (k + i) (by omega) (by omega) (by omega)).2
    rw [List.getElem_drop] at hp
    simp only [decide_eq_true_eq] at hp
    omega
  rw [ha]
  have hd : (decide (d = 2) || decide ((k : Int) = (l.length : Int))) = true := by
    rcases Classical.em (d = 2) with h | h
    · simp [h]
    · rw [place_one d l w.prio h] at e; simp [e]
  rw [hd]
  simp [feq]

/-- x put into q, behind all that do not yield to it. -/
def ins (q : List W) (x : W) : List W := q.take (place 2 q x.prio q.length) ++ x :: q.drop (place 2 q x.prio q.length)
def psort (L : List W) : Nat → List W
  | 0 => []
  | k + 1 => ins (psort L k) (L.getD k default)
theorem ins_len (q : List W) (x : W) : (ins q x).length = q.length + 1 := by
  have := place_le 2 q x.prio q.length
  unfold ins; simp; omega
theorem psort_len (L : List W) : ∀ k, (psort L k).length = k
  | 0 => rfl
  | k + 1 => by rw [psort, ins_len, psort_len L k]
/-- The list while x moves to its place. -/
def il (q : List W) (x : W) (r : List W) (j : Nat) : List W := q.take j ++ x :: (q.drop j ++ r)
theorem il_len (q : List W) (x : W) (r : List W) (j : Nat) (hj : j ≤ q.length) : (il q x r j).length = q.length + 1 + r.length := by unfold il; simp; omega
theorem il_at (q : List W) (x : W) (r : List W) (j : Nat) (hj : j ≤ q.length) : ∃ h : j < (il q x r j).length, (il q x r j)[j] = x := by
  refine ⟨by rw [il_len q x r j hj]; omega, ?_⟩
  have : (il q x r j)[j]? = some x := by
    unfold il; rw [List.getElem?_append_right (List.length_take_le _ _), List.length_take, Nat.min_eq_left hj, Nat.sub_self]; rfl
  rw [List.getElem?_eq_getElem (by rw [il_len q x r j hj]; omega)] at this
  exact Option.some.inj this
theorem il_pred (q : List W) (x : W) (r : List W) (j : Nat) (hj : j ≤ q.length) (h0 : 0 < j) : ∃ h : j - 1 < (il q x r j).length, (il q x r j)[j - 1] = q.getD (j - 1) default := by
  refine ⟨by rw [il_len q x r j hj]; omega, ?_⟩
  have : (il q x r j)[j - 1]? = some (q.getD (j - 1) default) := by
    unfold il; rw [List.getElem?_append_left (by simp; omega), List.getElem?_take_of_lt (by omega), List.getD, List.getElem?_eq_getElem (by omega)]; rfl
  rw [List.getElem?_eq_getElem (by rw [il_len q x r j hj]; omega)] at this
  exact Option.some.inj this
theorem il_swap (q : List W) (x : W) (r : List W) (j : Nat) (hj : j ≤ q.length) (h0 : 0 < j) : ((il q x r j).set j (q.getD (j - 1) default)).set (j - 1) x = il q x r (j - 1) := by
  obtain ⟨j, rfl⟩ : ∃ i, j = i + 1 := ⟨j - 1, by omega⟩
  have hj' : j < q.length := by omega
  simp only [Nat.add_sub_cancel]
  unfold il
  rw [List.take_succ_eq_append_getElem hj', List.getD, List.getElem?_eq_getElem hj', Option.getD_some]
  have e1 : (q.take j ++ [q[j]]).length = j + 1 := by simp; omega
  have e2 : (q.take j).length = j := by simp; omega
  rw [List.set_append_right _ _ (by omega), e1, Nat.sub_self, List.set_cons_zero, List.append_assoc, List.set_append_right _ _ (by omega), e2, Nat.sub_self]
  rw [List.singleton_append, List.set_cons_zero, List.drop_eq_getElem_cons hj']; rfl
theorem il_start (q : List W) (x : W) (r : List W) : il q x r q.length = q ++ x :: r := by unfold il; simp
theorem il_end (q : List W) (x : W) (r : List W) (j : Nat) (e : place 2 q x.prio q.length = j) : il q x r j = ins q x ++ r := by unfold il ins; rw [e]; simp

theorem psort_mem (L : List W) : ∀ k, k ≤ L.length → ∀ w ∈ psort L k, w ∈ L
  | 0, _ => by intro w hw; simp [psort] at hw
  | k + 1, hk => by
    intro w hw
    have ih := psort_mem L k (by omega)
    rw [psort] at hw
    unfold ins at hw
    rcases List.mem_append.1 hw with h | h
    · exact ih w (List.mem_of_mem_take h)
    · rcases List.mem_cons.1 h with h | h
      · subst h; rw [List.getD, List.getElem?_eq_getElem (by omega)]; exact List.getElem_mem _
      · exact ih w (List.mem_of_mem_drop h)
theorem psort_prio (L : List W) (hp : ∀ w ∈ L, 0 ≤ w.prio ∧ w.prio ≤ 9) (k : Nat) (hk : k ≤ L.length) (n : Nat) (hn : n < k) : 0 ≤ ((psort L k).getD n default).prio ∧ ((psort L k).getD n default).prio ≤ 9 := by
  have hl := psort_len L k
  rw [List.getD, List.getElem?_eq_getElem (by omega)]
  exact hp _ (psort_mem L k hk _ (List.getElem_mem _))
end Wl
