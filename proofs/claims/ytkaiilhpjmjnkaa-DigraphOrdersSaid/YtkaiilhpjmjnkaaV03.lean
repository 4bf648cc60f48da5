/- Directed graphs: the plain laws of ranks. No condition. -/
import Derived.Test.YtkaiilhpjmjnkaaS03
set_option linter.unusedVariables false
set_option linter.unusedSimpArgs false
namespace Dg
structure TO (n : Int) (l : List Ed) (o : List Int) : Prop where
  rg : ∀ u ∈ o, 0 ≤ u ∧ u < n
  len : o.length = n.toNat
  new : ∀ k (h : k < o.length), o[k] ∉ o.take k
  pre : ∀ k (h : k < o.length), ∀ z ∈ l, z.v = o[k] → z.u ∈ o.take k
theorem order_to {n : Int} {l : List Ed} (h : orderE n l = 0) : TO n l (orderL n l) := by
  obtain ⟨h1, h2⟩ := order_bd h
  have h3 := order_law h
  exact ⟨h1, h2, fun k hk => (frB_iff.1 (h3 k hk).1).1, fun k hk => (frB_iff.1 (h3 k hk).1).2⟩
theorem take_mem {o : List Int} {i j : Nat} (hi : i < o.length) (hij : i < j) : o[i] ∈ o.take j := by
  rw [List.mem_take_iff_getElem]
  exact ⟨i, by omega, rfl⟩
theorem TO.nodup {n : Int} {l : List Ed} {o : List Int} (h : TO n l o) : o.Nodup := by
  unfold List.Nodup
  rw [List.pairwise_iff_getElem]
  intro i j hi hj hij e
  exact h.new j hj (e ▸ take_mem hi hij)
theorem TO.cover {n : Int} {l : List Ed} {o : List Int} (h : TO n l o) {v : Int} (hv : 0 ≤ v ∧ v < n) : ∃ k, ∃ hk : k < o.length, o[k] = v := by
  have hm : v ∈ o := Classical.byContradiction fun hn => by
    have h1 : (v :: o).Nodup := List.nodup_cons.2 ⟨hn, h.nodup⟩
    have h2 := len_le_of_sub h1 (b := (List.range n.toNat).map (fun (j : Nat) => (j : Int))) (fun w hw => by
      have hr : 0 ≤ w ∧ w < n := by
        rcases List.mem_cons.1 hw with rfl | hw
        · exact hv
        · exact h.rg w hw
      exact List.mem_map.2 ⟨w.toNat, List.mem_range.2 (by omega), by omega⟩)
    have := h.len
    simp at h2
    omega
  exact List.getElem_of_mem hm
theorem TO.back {n : Int} {l : List Ed} {o : List Int} (h : TO n l o) {i k : Nat} (hi : i < o.length) (hk : k < o.length) (hik : i ≤ k) : o[i] ∉ sc l o[k] := by
  intro hm
  have h1 := h.pre i hi _ (sc_mem.1 hm) rfl
  rw [List.mem_take_iff_getElem] at h1
  obtain ⟨j, hj, e⟩ := h1
  exact h.new k hk (by
    have : o[k] = o[j]'(by omega) := e.symm
    rw [this]; exact take_mem _ (by omega))
theorem rkU_eq (u : Int) : ∀ (vs : List Int) (f : Int → Int), u ∉ vs → ∀ j, rkU u vs f j = if j ∈ vs then max (f j) (f u + 1) else f j
  | [], f, _, j => by simp [rkU]
  | v :: vs, f, hn, j => by
    rw [List.mem_cons, not_or] at hn
    have e : rkU u (v :: vs) f j = rkU u vs (upd f v (max (f v) (f u + 1))) j := rfl
    have eu : upd f v (max (f v) (f u + 1)) u = f u := by unfold upd; rw [if_neg hn.1]
    rw [e, rkU_eq u vs _ hn.2, eu]
    unfold upd
    by_cases h1 : j = v
    · subst h1
      simp only [if_pos rfl, List.mem_cons, true_or, if_true]
      split <;> omega
    · rw [if_neg h1]
      simp [h1]
section
variable {n : Int} {l : List Ed} {o : List Int}
theorem rkF_next (h : TO n l o) {k : Nat} (hk : k < o.length) (j : Int) : rkF (gr n l) o (k + 1) j = if j ∈ sc l o[k] then max (rkF (gr n l) o k j) (rkF (gr n l) o k o[k] + 1) else rkF (gr n l) o k j := by
  rw [rkF_succ _ _ hk, suc_gr (h.rg _ (List.getElem_mem hk)), rkU_eq _ _ _ (h.back hk hk (Nat.le_refl _))]
theorem rkF_fix (h : TO n l o) {i : Nat} (hi : i < o.length) : ∀ k, i ≤ k → k ≤ o.length → rkF (gr n l) o k o[i] = rkF (gr n l) o i o[i]
  | 0, h1, _ => by obtain rfl : i = 0 := by omega
                   rfl
  | k + 1, h1, h2 => by
    rcases Nat.lt_or_ge k i with h3 | h3
    · obtain rfl : i = k + 1 := by omega
      rfl
    · rw [rkF_next h (by omega), if_neg (h.back hi (by omega) h3)]
      exact rkF_fix h hi k h3 (by omega)
theorem rkF_mono (h : TO n l o) (j : Int) {a : Nat} : ∀ b, a ≤ b → b ≤ o.length → rkF (gr n l) o a j ≤ rkF (gr n l) o b j
  | 0, h1, _ => by rw [show a = 0 by omega]; exact Int.le_refl _
  | b + 1, h1, h2 => by
    rcases Nat.lt_or_ge b a with h3 | h3
    · rw [show a = b + 1 by omega]; exact Int.le_refl _
    · have := rkF_mono h j b h3 (by omega)
      rw [rkF_next h (by omega)]
      split <;> omega
theorem rkF_why (h : TO n l o) (v : Int) : ∀ k, k ≤ o.length → rkF (gr n l) o k v = 0 ∨ ∃ e ∈ l, e.v = v ∧ ∃ i, ∃ hi : i < o.length, i < k ∧ o[i] = e.u ∧ rkF (gr n l) o k v = rkF (gr n l) o k e.u + 1
  | 0, _ => .inl rfl
  | k + 1, hk => by
    have ih := rkF_why h v k (by omega)
    by_cases hs : v ∈ sc l o[k] ∧ rkF (gr n l) o k v < rkF (gr n l) o k o[k] + 1
    · right
      refine ⟨_, sc_mem.1 hs.1, rfl, k, by omega, by omega, rfl, ?_⟩
      show rkF (gr n l) o (k + 1) v = rkF (gr n l) o (k + 1) o[k] + 1
      rw [rkF_next h (by omega) v, if_pos hs.1, rkF_next h (by omega) o[k], if_neg (h.back (by omega) (by omega) (Nat.le_refl _))]
      omega
    · have e1 : rkF (gr n l) o (k + 1) v = rkF (gr n l) o k v := by
        rw [rkF_next h (by omega)]
        split
        · rename_i hm
          have : ¬ rkF (gr n l) o k v < rkF (gr n l) o k o[k] + 1 := fun hlt => hs ⟨hm, hlt⟩
          omega
        · rfl
      rcases ih with ih | ⟨e, he, hv, i, hi, hik, ho, heq⟩
      · exact .inl (by rw [e1, ih])
      · right
        refine ⟨e, he, hv, i, hi, by omega, ho, ?_⟩
        rw [e1, heq, ← ho, rkF_fix h hi k (by omega) (by omega), rkF_fix h hi (k + 1) (by omega) hk]
theorem rks_lower (h : TO n l o) {e : Ed} (he : e ∈ l) (hu : 0 ≤ e.u ∧ e.u < n) : rks (gr n l) o e.u + 1 ≤ rks (gr n l) o e.v := by
  obtain ⟨k, hk, ek⟩ := h.cover hu
  rw [← rkF_all]
  have h1 := rkF_mono h e.v (a := k + 1) o.length (by omega) (Nat.le_refl _)
  have h2 := rkF_next h hk e.v
  have hm : e.v ∈ sc l o[k] := by rw [ek]; exact sc_mem.2 he
  rw [if_pos hm] at h2
  have h3 := rkF_fix h hk o.length (by omega) (Nat.le_refl _)
  rw [ek] at h3 h2
  omega
theorem rks_why (h : TO n l o) (v : Int) : rks (gr n l) o v = 0 ∨ ∃ e ∈ l, e.v = v ∧ rks (gr n l) o v = rks (gr n l) o e.u + 1 := by
  rw [← rkF_all]
  rcases rkF_why h v o.length (Nat.le_refl _) with h1 | ⟨e, he, hv, _, _, _, _, heq⟩
  · exact .inl h1
  · exact .inr ⟨e, he, hv, heq⟩
end
def mostF (r : Int → Int) (i : Int) (l : List Ed) : Int := l.foldl (fun m e => if e.v = i then max m (r e.u) else m) (-1)
theorem most_succ (r : Int → Int) (i : Int) {l : List Ed} {k : Nat} (hk : k < l.length) : mostF r i (l.take (k + 1)) = if l[k].v = i then max (mostF r i (l.take k)) (r l[k].u) else mostF r i (l.take k) := by
  unfold mostF; rw [fold_succ _ _ _ hk]
theorem most_spec (r : Int → Int) (i : Int) (l : List Ed) : ∀ k, k ≤ l.length → (∀ j (h : j < l.length), j < k → l[j].v = i → r l[j].u ≤ mostF r i (l.take k)) ∧ (mostF r i (l.take k) = -1 ∨ ∃ e ∈ l, e.v = i ∧ mostF r i (l.take k) = r e.u)
  | 0, _ => ⟨fun j _ h => absurd h (by omega), .inl rfl⟩
  | k + 1, hk => by
    obtain ⟨h1, h2⟩ := most_spec r i l k (by omega)
    have e := most_succ r i (l := l) (k := k) (by omega)
    refine ⟨fun j hj hjk hv => ?_, ?_⟩
    · by_cases ej : j = k
      · subst ej; rw [e, if_pos hv]; omega
      · have := h1 j hj (by omega) hv
        rw [e]; split <;> omega
    · rw [e]
      split
      · rename_i hv
        rcases Int.le_total (mostF r i (l.take k)) (r l[k].u) with hle | hle
        · right; exact ⟨l[k], List.getElem_mem _, hv, by omega⟩
        · rw [Int.max_eq_left hle]; exact h2
      · exact h2
theorem rank_law {n : Int} {l : List Ed} {o : List Int} (hok : OkE n l) (h : TO n l o) (i : Int) : rks (gr n l) o i = mostF (rks (gr n l) o) i l + 1 := by
  obtain ⟨h1, h2⟩ := most_spec (rks (gr n l) o) i l l.length (Nat.le_refl _)
  rw [List.take_length] at h1 h2
  have hnn : ∀ j, 0 ≤ rks (gr n l) o j := fun j => by rw [← rkF_all]; exact (rkF_bd (okG hok) o o.length (Nat.le_refl _) j).1
  rcases rks_why h i with hz | ⟨e, he, hv, heq⟩
  · rcases h2 with h2 | ⟨e, he, hv, h2⟩
    · omega
    · have := rks_lower h he (hok.u e he)
      rw [hv] at this
      have := hnn e.u
      omega
  · obtain ⟨j, hj, rfl⟩ := List.getElem_of_mem he
    have h3 := h1 j hj hj hv
    rcases h2 with h2 | ⟨e', he', hv', h2⟩
    · have := hnn l[j].u; omega
    · have := rks_lower h he' (hok.u e' he')
      rw [hv'] at this
      omega
end Dg
