/- Supervisors: states that are kept while things happen. No condition. -/
import Derived.Test.YtjjgchblmejooaaQ57
set_option linter.unusedVariables false
set_option linter.unusedSimpArgs false
namespace Sv
def ac (l : List Evt) (k : Int) : Nat := (l.filter (fun c => decide (c.kind = k))).length
def exitEv (t : Int) (i : Int) : Evt := ⟨1, i, 1, t⟩
def adds (t : Int) (l : List Evt) : List Evt := (l.filter (fun a => decide (a.kind = 4))).map (fun a => ⟨1, a.child, 1, t⟩)
theorem ac_append (a b : List Evt) (k : Int) : ac (a ++ b) k = ac a k + ac b k := by unfold ac; rw [List.filter_append, List.length_append]
theorem ac_stop (t : Int) (L : List Int) {k : Int} (h : k ≠ 4) : ac (L.map (stopEv t)) k = 0 := by
  unfold ac
  rw [List.filter_eq_nil_iff.2]; rfl
  intro a ha
  obtain ⟨i, _, rfl⟩ := List.mem_map.1 ha
  simp [stopEv, Ne.symm h]
theorem ac_start (t : Int) (L : List Int) {k : Int} (h : k ≠ 3) : ac (L.map (startEv t)) k = 0 := by
  unfold ac
  rw [List.filter_eq_nil_iff.2]; rfl
  intro a ha
  obtain ⟨i, _, rfl⟩ := List.mem_map.1 ha
  simp [startEv, Ne.symm h]
theorem ac_start3 (t : Int) (L : List Int) : ac (L.map (startEv t)) 3 = L.length := by
  unfold ac
  rw [List.filter_eq_self.2, List.length_map]
  intro a ha
  obtain ⟨i, _, rfl⟩ := List.mem_map.1 ha
  simp [startEv]
theorem adds_append (t : Int) (a b : List Evt) : adds t (a ++ b) = adds t a ++ adds t b := by unfold adds; rw [List.filter_append, List.map_append]
theorem adds_stop (t : Int) (L : List Int) : adds t (L.map (stopEv t)) = L.map (exitEv t) := by
  unfold adds
  rw [List.filter_eq_self.2, List.map_map]; rfl
  intro a ha
  obtain ⟨i, _, rfl⟩ := List.mem_map.1 ha
  simp [stopEv]
theorem adds_start (t : Int) (L : List Int) : adds t (L.map (startEv t)) = [] := by
  unfold adds
  rw [List.filter_eq_nil_iff.2]; rfl
  intro a ha
  obtain ⟨i, _, rfl⟩ := List.mem_map.1 ha
  simp [startEv]
theorem idx_nodup (n : Nat) : (idx n).Nodup := by
  unfold idx
  refine List.Pairwise.map _ (fun a b h => ?_) List.nodup_range
  exact fun e => h (by exact_mod_cast e)
theorem mem_idx {n : Nat} {i : Int} : i ∈ idx n ↔ 0 ≤ i ∧ i < (n : Int) := ⟨idx_mem, fun h => List.mem_map.2 ⟨i.toNat, List.mem_range.2 (by omega), by omega⟩⟩
theorem fromTo_nodup (a b : Int) : (fromTo a b).Nodup := by
  unfold fromTo
  refine List.Pairwise.map _ (fun x y h => ?_) List.nodup_range
  exact fun e => h (by omega)
theorem affected_nodup (x : Spc) (c : Int) : (affected x c).Nodup := by
  unfold affected
  split
  · exact fromTo_nodup _ _
  · split <;> exact fromTo_nodup _ _
theorem affected_one {x : Spc} {c : Int} (h : x.strategy = 1) {i : Int} (hi : i ∈ affected x c) : i = c := by
  unfold affected at hi
  rw [if_pos h] at hi
  obtain ⟨m, hm, rfl⟩ := List.mem_map.1 hi
  have := List.mem_range.1 hm
  omega
def Rs (q : Spc) (l : List Int) (now : Int) : Prop := (∀ x ∈ l, 0 ≤ x ∧ x ≤ now) ∧ l.Pairwise (· ≤ ·) ∧ (∀ x ∈ l, ∀ y ∈ l, y - q.window < x) ∧ (l.length : Int) ≤ q.intensity
theorem Rs.late {q : Spc} {l : List Int} {a b : Int} (h : Rs q l a) (hab : a ≤ b) : Rs q l b := ⟨fun x hx => ⟨(h.1 x hx).1, by have := (h.1 x hx).2; omega⟩, h.2.1, h.2.2.1, h.2.2.2⟩
theorem Rs.nil {q : Spc} {now : Int} (h : 0 ≤ q.intensity) : Rs q [] now := ⟨by simp, by simp, by simp, by simpa using h⟩
theorem recent_mem {q : Spc} {l : List Int} {now x : Int} : x ∈ recent q l now ↔ x ∈ l ∧ now - q.window < x := by
  unfold recent
  rw [List.mem_filter]
  simp
theorem Rs.again {q : Spc} {l : List Int} {now : Int} (h : Rs q l now) (h0 : 0 ≤ now) (hw : 1 ≤ q.window) (hi : ¬ q.intensity ≤ ((recent q l now).length : Int)) : Rs q (recent q l now ++ [now]) now := by
  refine ⟨fun x hx => ?_, ?_, fun x hx y hy => ?_, ?_⟩
  · rcases List.mem_append.1 hx with hx | hx
    · exact h.1 x (recent_mem.1 hx).1
    · rw [List.mem_singleton.1 hx]; omega
  · rw [List.pairwise_append]
    refine ⟨h.2.1.filter _, by simp, fun a ha b hb => ?_⟩
    rw [List.mem_singleton.1 hb]
    exact (h.1 a (recent_mem.1 ha).1).2
  · have hy' : y ≤ now := by
      rcases List.mem_append.1 hy with hy | hy
      · exact (h.1 y (recent_mem.1 hy).1).2
      · rw [List.mem_singleton.1 hy]; omega
    rcases List.mem_append.1 hx with hx | hx
    · have := (recent_mem.1 hx).2; omega
    · rw [List.mem_singleton.1 hx]; omega
  · rw [List.length_append, List.length_singleton]; push_cast; omega
theorem Rs.restarts {q : Spc} {l : List Int} {now : Int} (h : Rs q l now) (hn : now ≤ 1099511627776) : Sv.restarts q l = true := by
  rw [restarts_good (fun i hi => ?_), decide_eq_true h.2.2.2]
  rw [okR_iff hi]
  have h1 := h.1 _ (List.getElem_mem hi)
  refine ⟨win_t.2 ⟨h1.1, by omega⟩, ?_, ?_⟩
  · rcases Nat.eq_zero_or_pos i with e | e
    · exact .inl e
    · right
      rw [show ((i : Int) - 1).toNat = i - 1 by omega, List.getD, List.getElem?_eq_getElem (by omega), Option.getD_some]
      exact List.pairwise_iff_getElem.1 h.2.1 (i - 1) i (by omega) hi (by omega)
  · rw [show ((l.length : Int) - 1).toNat = l.length - 1 by omega, List.getD, List.getElem?_eq_getElem (by omega), Option.getD_some]
    exact h.2.2.1 _ (List.getElem_mem hi) _ (List.getElem_mem (by omega))
def pol (q : Spc) (m : Nat) : Int := polic q (m : Int)
/-- A state that is valid, and in which permanent children do not rest. -/
structure Ok (q : Spc) (s : Ss) (now b : Int) : Prop where
  len : s.children.length = q.children.length
  sts : ∀ m, m < q.children.length → 1 ≤ sa s.children m ∧ sa s.children m ≤ 4
  sns : ∀ m, m < q.children.length → 1 ≤ sn s.children m ∧ sn s.children m ≤ b
  rs : Rs q s.restarts now
  fl : s.failed = true → s.status = 3 ∨ s.status = 4
  cs : 1 ≤ s.status ∧ s.status ≤ 4
  c1 : s.status = 1 → ∀ m, sa s.children m ≠ 2 ∧ sa s.children m ≠ 4
  c2 : s.status = 2 → q.strategy ≠ 1 ∧ (∃ m, sa s.children m = 2) ∧ ∃ m, sa s.children m = 4
  c3 : s.status = 3 → (∃ m, sa s.children m = 2) ∧ ∀ m, sa s.children m ≠ 1 ∧ sa s.children m ≠ 4
  c4 : s.status = 4 → ∀ m, m < q.children.length → sa s.children m = 3
  pm : s.status = 1 ∨ s.status = 2 → ∀ m, m < q.children.length → pol q m = 1 → sa s.children m ≠ 3
theorem Ok.late {q : Spc} {s : Ss} {a b c d : Int} (h : Ok q s a c) (hab : a ≤ b) (hcd : c ≤ d) : Ok q s b d :=
  ⟨h.len, h.sts, fun m hm => ⟨(h.sns m hm).1, by have := (h.sns m hm).2; omega⟩, h.rs.late hab, h.fl, h.cs, h.c1, h.c2, h.c3, h.c4, h.pm⟩
theorem Ok.valid {q : Spc} {s : Ss} {now b : Int} (h : Ok q s now b) (hc : chk q = 0) (hn : now ≤ 1099511627776) (hb : b ≤ 1099511627776) : Sv.valid q s = 0 := by
  have hmem : ∀ c ∈ s.children, (1 ≤ c.status ∧ c.status ≤ 4) ∧ 1 ≤ c.starts ∧ c.starts ≤ b := fun c hcm => by
    obtain ⟨m, hm, h1, h2⟩ := mem_sa hcm
    rw [← h1, ← h2]
    exact ⟨h.sts m (h.len ▸ hm), h.sns m (h.len ▸ hm)⟩
  have hall := count_all (l := s.children) fun c hcm => (hmem c hcm).1
  have hch : Sv.children q s = true := by
    unfold Sv.children
    rw [if_neg (by rw [h.len] at hall ⊢; omega), if_neg]
    · have hcs := h.cs
      have n1 := count_nn s.children 1
      have n2 := count_nn s.children 2
      have n3 := count_nn s.children 3
      have n4 := count_nn s.children 4
      rcases (by omega : s.status = 1 ∨ s.status = 2 ∨ s.status = 3 ∨ s.status = 4) with e | e | e | e
      · have z2 := (count_zero (l := s.children) (s := 2) (by decide)).2 fun m => (h.c1 e m).1
        have z4 := (count_zero (l := s.children) (s := 4) (by decide)).2 fun m => (h.c1 e m).2
        rw [if_pos e, decide_eq_true]; omega
      · obtain ⟨k1, k2, k3⟩ := h.c2 e
        rw [if_neg (by omega), if_pos e, decide_eq_true k1, decide_eq_true ((count_pos (by decide)).2 k2), decide_eq_true ((count_pos (by decide)).2 k3)]; rfl
      · obtain ⟨k1, k2⟩ := h.c3 e
        have z1 := (count_zero (l := s.children) (s := 1) (by decide)).2 fun m => (k2 m).1
        have z4 := (count_zero (l := s.children) (s := 4) (by decide)).2 fun m => (k2 m).2
        rw [if_neg (by omega), if_neg (by omega), if_pos e, decide_eq_true ((count_pos (by decide)).2 k1), decide_eq_true (by omega)]; rfl
      · rw [if_neg (by omega), if_neg (by omega), if_neg (by omega), if_pos e, count_full, decide_eq_true rfl]
        intro c hcm
        obtain ⟨m, hm, h1, _⟩ := mem_sa hcm
        rw [← h1]; exact h.c4 e m (h.len ▸ hm)
    · simp only [List.any_eq_true, not_exists, not_and, Bool.not_eq_true', Bool.not_eq_false]
      intro c hcm
      have := (hmem c hcm).2
      exact win_t.2 ⟨this.1, by omega⟩
  unfold Sv.valid
  rw [if_neg]
  rintro (e | e | e | ⟨e1, e2, e3⟩)
  · exact e hc
  · rw [hch] at e; cases e
  · rw [h.rs.restarts hn] at e; cases e
  · rcases h.fl e1 with e | e
    · exact e2 e
    · exact e3 e
end Sv
