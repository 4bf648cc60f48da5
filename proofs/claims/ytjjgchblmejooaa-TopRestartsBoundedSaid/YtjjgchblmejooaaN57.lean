/- Supervisors: laws of the plain functions. No condition. -/
import Derived.Test.YtjjgchblmejooaaM57
import Derived.Test.YtjjgchblmejooaaAwC
set_option linter.unusedVariables false
set_option linter.unusedSimpArgs false
namespace Sv
/-! Deleting from a list in place. -/
def kept (p : Int → Bool) (l : List Int) (k : Nat) : List Int := (l.take k).filter (fun t => !p t)
def mid (p : Int → Bool) (l : List Int) (k : Nat) : List Int := kept p l k ++ l.drop (kept p l k).length
theorem kept_le (p : Int → Bool) (l : List Int) (k : Nat) : (kept p l k).length ≤ k ∧ (kept p l k).length ≤ l.length := by
  have h := List.length_filter_le (fun t => !p t) (l.take k)
  rw [List.length_take] at h
  unfold kept
  exact ⟨by omega, by omega⟩
theorem mid_len (p : Int → Bool) (l : List Int) (k : Nat) : (mid p l k).length = l.length := by
  have h := kept_le p l k
  unfold mid
  rw [List.length_append, List.length_drop]; omega
theorem mid_get (p : Int → Bool) (l : List Int) (k : Nat) (hk : k < l.length) : (mid p l k)[k]? = some l[k] := by
  have h := kept_le p l k
  unfold mid
  rw [List.getElem?_append_right h.1, List.getElem?_drop, show (kept p l k).length + (k - (kept p l k).length) = k by omega, List.getElem?_eq_getElem hk]
theorem kept_t (p : Int → Bool) (l : List Int) (k : Nat) (hk : k < l.length) (h : p l[k] = true) : kept p l (k + 1) = kept p l k := by
  unfold kept
  rw [List.take_add_one, List.getElem?_eq_getElem hk, List.filter_append]
  simp [h]
theorem kept_f (p : Int → Bool) (l : List Int) (k : Nat) (hk : k < l.length) (h : p l[k] = false) : kept p l (k + 1) = kept p l k ++ [l[k]] := by
  unfold kept
  rw [List.take_add_one, List.getElem?_eq_getElem hk, List.filter_append]
  simp [h]
theorem mid_t (p : Int → Bool) (l : List Int) (k : Nat) (hk : k < l.length) (h : p l[k] = true) : mid p l (k + 1) = mid p l k := by
  unfold mid; rw [kept_t p l k hk h]
theorem mid_set (p : Int → Bool) (l : List Int) (k : Nat) (hk : k < l.length) (h : p l[k] = false) : Go.Aw.setMany ((mid p l k).map Go.Aw.AV.int) (kept p l k).length [Go.Aw.AV.int l[k]] = (mid p l (k + 1)).map Go.Aw.AV.int := by
  have hl := kept_le p l k
  unfold mid
  rw [kept_f p l k hk h]
  unfold Go.Aw.setMany
  rw [List.map_append, List.take_left' (by simp), List.length_append, List.map_append, List.map_append, List.append_assoc, List.append_assoc]
  congr 2
  rw [List.drop_append, List.drop_eq_nil_of_le (by simp), List.nil_append, List.length_map]
  simp only [List.length_cons, List.length_nil]
  rw [show (kept p l k).length + (0 + 1) - (kept p l k).length = 1 by omega, ← List.map_drop, List.drop_drop]
theorem kept_first (p : Int → Bool) (l : List Int) (i : Nat) (hi : i < l.length) (h : p l[i] = true) (hno : ∀ j (h : j < l.length), j < i → p l[j] = false) : kept p l (i + 1) = l.take i := by
  rw [kept_t p l i hi h]
  unfold kept
  rw [List.filter_eq_self]
  intro a ha
  obtain ⟨j, hj, rfl⟩ := List.getElem_of_mem ha
  rw [List.length_take] at hj
  rw [List.getElem_take, hno j (by omega) (by omega)]; rfl
theorem mid_first (p : Int → Bool) (l : List Int) (i : Nat) (hi : i < l.length) (h : p l[i] = true) (hno : ∀ j (h : j < l.length), j < i → p l[j] = false) : mid p l (i + 1) = l := by
  unfold mid
  rw [kept_first p l i hi h hno, List.length_take, Nat.min_eq_left (by omega), List.take_append_drop]
theorem mid_take (p : Int → Bool) (l : List Int) (k : Nat) : (mid p l k).take (kept p l k).length = kept p l k := by
  unfold mid; rw [List.take_left]
theorem kept_all (p : Int → Bool) (l : List Int) : kept p l l.length = l.filter (fun t => !p t) := by
  unfold kept; rw [List.take_length]
theorem filter_none (p : Int → Bool) (l : List Int) (hno : ∀ i (h : i < l.length), p l[i] = false) : l.filter (fun t => !p t) = l := by
  rw [List.filter_eq_self]
  intro a ha
  obtain ⟨j, hj, rfl⟩ := List.getElem_of_mem ha
  rw [hno j hj]; rfl
theorem idxF_cases (p : Int → Bool) (l : List Int) : (Wl.idxF p l = -1 ∧ ∀ i (h : i < l.length), p l[i] = false) ∨ ∃ i, ∃ h : i < l.length, Wl.idxF p l = (i : Int) ∧ p l[i] = true ∧ ∀ j (h : j < l.length), j < i → p l[j] = false := by
  unfold Wl.idxF
  cases h : l.findIdx? p with
  | none =>
    left
    rw [List.findIdx?_eq_none_iff] at h
    exact ⟨rfl, fun i hi => h _ (List.getElem_mem hi)⟩
  | some i =>
    right
    rw [List.findIdx?_eq_some_iff_getElem] at h
    obtain ⟨h1, h2, h3⟩ := h
    exact ⟨i, h1, rfl, h2, fun j hj hji => by simpa using h3 j hji⟩
end Sv
namespace Go.Aw
theorem enc1_flat (l : List Int) : (l.map encI).flatten = l.map AV.int := by
  induction l with
  | nil => rfl
  | cons a l ih => rw [List.map_cons, List.flatten_cons, ih]; rfl
end Go.Aw
namespace Sv
open Go.Aw
theorem encCs_at : ∀ (l : List Cs) (i : Nat) (h : i < l.length) (pad : List AV), ((l.map encCs).flatten ++ pad)[i * 2]? = some (.int (l.getD i default).status) ∧ ((l.map encCs).flatten ++ pad)[i * 2 + 1]? = some (.int (l.getD i default).starts)
  | c :: l, 0, h, pad => by simp [encCs]
  | c :: l, i + 1, h, pad => by
    have hi : i < l.length := by simpa using h
    have ih := encCs_at l i hi pad
    have e : ((c :: l).map encCs).flatten ++ pad = .int c.status :: .int c.starts :: ((l.map encCs).flatten ++ pad) := rfl
    rw [e, show (i + 1) * 2 = i * 2 + 1 + 1 by omega, List.getElem?_cons_succ, List.getElem?_cons_succ, List.getElem?_cons_succ, List.getElem?_cons_succ, List.getD_cons_succ]
    exact ih
theorem encCs_get {l : List Cs} {i : Nat} (h : i < l.length) (pad : List AV) : ((l.map encCs).flatten ++ pad)[0 + i * 2 + 0]? = some (.int (l.getD i default).status) := by
  rw [show 0 + i * 2 + 0 = i * 2 by omega]; exact (encCs_at l i h pad).1
theorem encCs_get1 {l : List Cs} {i : Nat} (h : i < l.length) (pad : List AV) : ((l.map encCs).flatten ++ pad)[0 + i * 2 + 1]? = some (.int (l.getD i default).starts) := by
  rw [show 0 + i * 2 + 1 = i * 2 + 1 by omega]; exact (encCs_at l i h pad).2
/-! Lengths -/
theorem set_len (r : Rn) (i s : Int) : (set r i s).1.children.length = r.1.children.length := by simp [set, setL]
theorem stop1_len (t : Int) (r : Rn) (i : Int) : (stop1 t r i).1.children.length = r.1.children.length := by
  unfold stop1; split
  · exact set_len r i 2
  · rfl
theorem stop1_out (t : Int) (r : Rn) (i : Int) : (stop1 t r i).2.length ≤ r.2.length + 1 := by
  unfold stop1; split
  · simp [act, set]
  · omega
theorem fold_len (f : Rn → Int → Rn) (hf : ∀ r i, (f r i).1.children.length = r.1.children.length) : ∀ (l : List Int) (r : Rn), (l.foldl f r).1.children.length = r.1.children.length
  | [], r => rfl
  | a :: l, r => by rw [List.foldl_cons, fold_len f hf l, hf]
theorem fold_out (f : Rn → Int → Rn) (hf : ∀ r i, (f r i).2.length ≤ r.2.length + 1) : ∀ (l : List Int) (r : Rn), (l.foldl f r).2.length ≤ r.2.length + l.length
  | [], r => by simp
  | a :: l, r => by
    have h1 := fold_out f hf l (f r a)
    have h2 := hf r a
    rw [List.foldl_cons, List.length_cons]; omega
theorem rev_get (l : List Int) (k : Nat) (hk : k < l.length) : l.reverse[k]'(by simpa using hk) = l.getD ((l.length : Int) - 1 - (k : Int)).toNat default := by
  rw [List.getElem_reverse, show ((l.length : Int) - 1 - (k : Int)).toNat = l.length - 1 - k by omega, List.getD, List.getElem?_eq_getElem (by omega), Option.getD_some]
theorem rev_succ (f : Rn → Int → Rn) (r : Rn) (l : List Int) (k : Nat) (hk : k < l.length) : (l.reverse.take (k + 1)).foldl f r = f ((l.reverse.take k).foldl f r) (l.getD ((l.length : Int) - 1 - (k : Int)).toNat default) := by
  have hr : k < l.reverse.length := by simpa using hk
  rw [List.take_add_one, List.getElem?_eq_getElem hr, List.foldl_append, ← rev_get l k hk]; rfl
theorem rev_all (f : Rn → Int → Rn) (r : Rn) (l : List Int) : (l.reverse.take l.length).foldl f r = l.reverse.foldl f r := by
  rw [List.take_of_length_le (by simp)]
theorem rev_mem (l : List Int) (k : Nat) (hk : k < l.length) : l.getD ((l.length : Int) - 1 - (k : Int)).toNat default ∈ l := by
  rw [← rev_get l k hk]
  exact List.mem_reverse.1 (List.getElem_mem _)
end Sv
namespace Sv
theorem idx_len (n : Nat) : (idx n).length = n := by simp [idx]
theorem idx_mem {n : Nat} {i : Int} (h : i ∈ idx n) : 0 ≤ i ∧ i < (n : Int) := by
  obtain ⟨m, hm, rfl⟩ := List.mem_map.1 h
  have := List.mem_range.1 hm
  omega
theorem idx_add (n : Nat) : idx (n + 1) = idx n ++ [(n : Int)] := by simp [idx, List.range_succ]
theorem idx_take {n k : Nat} (h : k ≤ n) : (idx n).take k = idx k := by
  unfold idx
  rw [← List.map_take, List.take_range, Nat.min_eq_left h]
theorem idx_fold (f : Rn → Int → Rn) (r : Rn) (k : Nat) : (idx (k + 1)).foldl f r = f ((idx k).foldl f r) (k : Int) := by
  rw [idx_add, List.foldl_append]; rfl
theorem again1_len (t : Int) (r : Rn) (i : Int) : (again1 t r i).1.children.length = r.1.children.length := by
  unfold again1; split
  · simp [act]
  · rfl
theorem again1_out (t : Int) (r : Rn) (i : Int) : (again1 t r i).2.length ≤ r.2.length + 1 := by
  unfold again1; split
  · simp [act]
  · omega
theorem shut1_len (r : Rn) (i : Int) : (shut1 r i).1.children.length = r.1.children.length := by
  unfold shut1; split
  · exact set_len r i 3
  · rfl
theorem shut1_out (r : Rn) (i : Int) : (shut1 r i).2.length ≤ r.2.length + 1 := by
  unfold shut1; split
  · simp [set]
  · omega
theorem again1_get (t : Int) (r : Rn) (i : Int) (m : Nat) (h : m ≠ i.toNat) : (again1 t r i).1.children.getD m default = r.1.children.getD m default := by
  unfold again1; split
  · show (r.1.children.set i.toNat _).getD m default = _
    simp [List.getD, List.getElem?_set, Ne.symm h]
  · rfl
theorem again_keep (t : Int) (r : Rn) : ∀ (k m : Nat), k ≤ m → ((idx k).foldl (again1 t) r).1.children.getD m default = r.1.children.getD m default
  | 0, m, _ => rfl
  | k + 1, m, h => by
    rw [idx_fold, again1_get _ _ _ _ (by omega), again_keep t r k m (by omega)]
end Sv
namespace Sv
/-- The starts of the children are numbers that can be counted on. -/
def Sb (r : Rn) : Prop := ∀ c ∈ r.1.children, 0 ≤ c.starts ∧ c.starts ≤ 1099511627777
theorem Sb.get {r : Rn} (h : Sb r) (i : Nat) : 0 ≤ (r.1.children.getD i default).starts ∧ (r.1.children.getD i default).starts ≤ 1099511627777 := by
  rcases Nat.lt_or_ge i r.1.children.length with e | e
  · rw [List.getD, List.getElem?_eq_getElem e, Option.getD_some]
    exact h _ (List.getElem_mem e)
  · rw [List.getD, List.getElem?_eq_none e]
    exact ⟨by decide, by decide⟩
theorem Sb.set {r : Rn} (h : Sb r) (i s : Int) : Sb (Sv.set r i s) := fun c hc => by
  rcases List.mem_or_eq_of_mem_set hc with e | rfl
  · exact h c e
  · exact h.get i.toNat
theorem Sb.stop1 {r : Rn} (h : Sb r) (t i : Int) : Sb (Sv.stop1 t r i) := by
  unfold Sv.stop1; split
  · exact h.set i 2
  · exact h
theorem Sb.fold (f : Rn → Int → Rn) (hf : ∀ r i, Sb r → Sb (f r i)) : ∀ (l : List Int) (r : Rn), Sb r → Sb (l.foldl f r)
  | [], r, h => h
  | a :: l, r, h => Sb.fold f hf l (f r a) (hf r a h)
theorem Sb.stop {r : Rn} (h : Sb r) (t : Int) (l : List Int) : Sb (Sv.stop t r l) := Sb.fold _ (fun r i h => h.stop1 t i) _ _ h
theorem stop_len (t : Int) (r : Rn) (l : List Int) : (stop t r l).1.children.length = r.1.children.length := fold_len _ (stop1_len t) _ _
theorem stop_out (t : Int) (r : Rn) (l : List Int) : (stop t r l).2.length ≤ r.2.length + l.length := by
  have h := fold_out _ (stop1_out t) l.reverse r
  rwa [List.length_reverse] at h
theorem affected_len (x : Spc) (c : Int) (hc : 0 ≤ c ∧ c < x.children.length) : (affected x c).length ≤ x.children.length := by
  unfold affected fromTo
  split
  · first | (simp; done) | (simp; omega)
  · split <;> first | (simp; done) | (simp; omega)
theorem affected_mem {x : Spc} {c i : Int} (hc : 0 ≤ c ∧ c < x.children.length) (h : i ∈ affected x c) : 0 ≤ i ∧ i < x.children.length := by
  unfold affected fromTo at h
  split at h
  · obtain ⟨m, hm, rfl⟩ := List.mem_map.1 h
    have := List.mem_range.1 hm
    omega
  · split at h
    all_goals
      obtain ⟨m, hm, rfl⟩ := List.mem_map.1 h
      have := List.mem_range.1 hm
      omega
end Sv
namespace Sv
theorem win_t {n a b : Int} : win n a b = true ↔ a ≤ n ∧ n ≤ b := by simp [win]
theorem valid_ok {x : Spc} {s : Ss} (h : valid x s = 0) : chk x = 0 ∧ children x s = true ∧ restarts x s.restarts = true ∧ (s.failed = true → s.status = 3 ∨ s.status = 4) := by
  unfold valid at h
  split at h
  · cases h
  · rename_i hn
    simp only [not_or] at hn
    refine ⟨Classical.not_not.1 hn.1, by simpa using hn.2.1, by simpa using hn.2.2.1, fun hf => ?_⟩
    have h4 := hn.2.2.2
    rcases Classical.em (s.status = 3) with e | e
    · exact .inl e
    · rcases Classical.em (s.status = 4) with e4 | e4
      · exact .inr e4
      · exact absurd ⟨hf, e, e4⟩ h4
structure Cok (x : Spc) : Prop where
  strat : 1 ≤ x.strategy ∧ x.strategy ≤ 3
  int : 0 ≤ x.intensity ∧ x.intensity ≤ 100
  wind : 1 ≤ x.window ∧ x.window ≤ 1099511627776
  len : 1 ≤ x.children.length ∧ x.children.length ≤ 16
  all : chkC x.children (List.range x.children.length) = 0
theorem chk_ok {x : Spc} (h : chk x = 0) : Cok x := by
  unfold chk at h
  split at h
  · cases h
  · split at h
    · cases h
    · split at h
      · cases h
      · rename_i h1 h2 h3
        simp only [Bool.not_eq_false, Bool.and_eq_true, win_t] at h1 h2 h3
        exact ⟨h1, h2.1, h2.2, by omega, h⟩
theorem children_ok {x : Spc} {s : Ss} (h : children x s = true) : s.children.length = x.children.length ∧ ∀ c ∈ s.children, 1 ≤ c.starts ∧ c.starts ≤ 1099511627776 := by
  unfold children at h
  split at h
  · cases h
  · rename_i h1
    simp only [not_or, Classical.not_not] at h1
    split at h
    · cases h
    · rename_i h2
      refine ⟨h1.1, fun c hc => ?_⟩
      simp only [List.any_eq_true, not_exists, not_and] at h2
      have := h2 c hc
      simpa [win_t] using this
theorem check_ok {x : Spc} {s : Ss} {e : Evt} (h : check x s e = 0) : (e.kind = 1 ∨ e.kind = 2) ∧ (e.kind = 1 → 0 ≤ e.child ∧ e.child < x.children.length) ∧ 0 ≤ e.time ∧ e.time ≤ 1099511627776 := by
  unfold check at h
  split at h
  · cases h
  · split at h
    · cases h
    · rename_i h1 h2
      simp only [not_or, not_and, Bool.not_eq_false, win_t] at h1 h2
      refine ⟨by omega, fun hk => ?_, h2.2.2⟩
      have := (h2.1 hk).1
      omega
end Sv
