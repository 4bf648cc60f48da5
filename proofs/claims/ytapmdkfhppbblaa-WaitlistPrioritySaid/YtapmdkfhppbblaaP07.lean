/- Queues by priority: pushing one after the other is sorting. No condition. -/
import Derived.Test.YtapmdkfhppbblaaM18
set_option linter.unusedVariables false
set_option linter.unusedSimpArgs false
namespace Wl
theorem psort_one (L : List W) (hn : L ≠ []) : psort L 1 ++ L.drop 1 = L := by
  cases L with
  | nil => exact absurd rfl hn
  | cons a L => simp [psort, ins, place]
theorem il_start2 (L : List W) (k : Nat) (h : k < L.length) : il (psort L k) (L.getD k default) (L.drop (k + 1)) k = psort L k ++ L.drop k := by
  have e2 := il_start (psort L k) (L.getD k default) (L.drop (k + 1))
  rw [psort_len] at e2
  rw [e2, List.drop_eq_getElem_cons h, List.getD, List.getElem?_eq_getElem h]; rfl
theorem chk_two : ∀ (l : List W) (p : Option W), chk 2 p l = 0 ↔ (∀ w ∈ l, valid w = true) ∧ l.Pairwise (fun a b => b.prio ≤ a.prio) ∧ ∀ q ∈ p, ∀ w ∈ l, w.prio ≤ q.prio
  | [], p => by simp [chk]
  | w :: r, p => by
    have ih := chk_two r (some w)
    rw [chk]
    by_cases hv : valid w = true
    · rw [if_neg (by simp [hv])]
      by_cases hq : ∃ q ∈ p, q.prio < w.prio
      · rw [if_pos ⟨rfl, hq⟩]
        constructor
        · intro h; cases h
        · rintro ⟨_, _, h3⟩
          obtain ⟨q, hq1, hq2⟩ := hq
          have := h3 q hq1 w (by simp); omega
      · rw [if_neg (fun e => hq e.2), ih]
        have hle : ∀ q ∈ p, w.prio ≤ q.prio := fun q h => by
          by_cases h1 : q.prio < w.prio
          · exact absurd ⟨q, h, h1⟩ hq
          · omega
        constructor
        · rintro ⟨h1, h2, h3⟩
          have h3' := h3 w rfl
          refine ⟨fun x hx => ?_, List.pairwise_cons.2 ⟨h3', h2⟩, fun q hq1 x hx => ?_⟩
          · rcases List.mem_cons.1 hx with rfl | hx
            · exact hv
            · exact h1 x hx
          · rcases List.mem_cons.1 hx with rfl | hx
            · exact hle q hq1
            · have := h3' x hx; have := hle q hq1; omega
        · rintro ⟨h1, h2, h3⟩
          rw [List.pairwise_cons] at h2
          exact ⟨fun x hx => h1 x (by simp [hx]), h2.2, fun q hq1 x hx => by cases hq1; exact h2.1 x hx⟩
    · rw [if_pos (by simpa using hv)]
      constructor
      · intro h; cases h
      · rintro ⟨h1, _⟩; exact absurd (h1 w (by simp)) hv
theorem check_two (l : List W) : check 2 l = 0 ↔ l.length ≤ 96 ∧ (∀ w ∈ l, valid w = true) ∧ l.Pairwise (fun a b => b.prio ≤ a.prio) := by
  rw [check, if_neg (by decide)]
  by_cases h : 96 < l.length
  · rw [if_pos h]; constructor
    · intro h; cases h
    · intro h2; omega
  · rw [if_neg h, chk_two]
    constructor
    · rintro ⟨h1, h2, _⟩; exact ⟨by omega, h1, h2⟩
    · rintro ⟨_, h1, h2⟩; exact ⟨h1, h2, fun q hq => by cases hq⟩
theorem place_stop (l : List W) (p : Int) : ∀ n, n ≤ l.length → ∀ h : 0 < place 2 l p n, ∃ hl : place 2 l p n - 1 < l.length, p ≤ l[place 2 l p n - 1].prio
  | 0, _, h => by simp [place] at h
  | n + 1, hn, h => by
    unfold place at h ⊢
    split
    · rename_i e
      rw [if_pos e] at h
      exact place_stop l p n (by omega) h
    · rename_i e
      refine ⟨by omega, ?_⟩
      have e2 : l.getD n default = l[n] := by simp [List.getD, show n < l.length by omega]
      rw [e2] at e
      simp only [Nat.add_sub_cancel]
      omega
theorem ins_sorted {q : List W} {x : W} (h : q.Pairwise (fun a b => b.prio ≤ a.prio)) : (ins q x).Pairwise (fun a b => b.prio ≤ a.prio) := by
  unfold ins
  have hpl := place_le 2 q x.prio q.length
  have haft := place_after 2 q x.prio q.length (Nat.le_refl _)
  have hst := place_stop q x.prio q.length (Nat.le_refl _)
  generalize place 2 q x.prio q.length = n at *
  have hbefore : ∀ i (hi : i < q.length), i < n → x.prio ≤ q[i].prio := fun i hi hin => by
    obtain ⟨hl, hp⟩ := hst (by omega)
    rcases Nat.lt_or_ge i (n - 1) with h1 | h1
    · have := List.pairwise_iff_getElem.1 h i (n - 1) hi hl h1; omega
    · obtain rfl : i = n - 1 := by omega
      exact hp
  rw [List.pairwise_append, List.pairwise_cons]
  refine ⟨h.sublist (List.take_sublist _ _), ⟨fun b hb => ?_, h.sublist (List.drop_sublist _ _)⟩, fun a ha b hb => ?_⟩
  · obtain ⟨j, hj, rfl⟩ := List.getElem_of_mem hb
    simp at hj ⊢
    have := (haft (n + j) (by omega) (by omega) (by omega)).2
    omega
  · obtain ⟨i, hi, rfl⟩ := List.getElem_of_mem ha
    simp at hi ⊢
    have h1 := hbefore i (by omega) (by omega)
    rcases List.mem_cons.1 hb with rfl | hb
    · exact h1
    · obtain ⟨j, hj, rfl⟩ := List.getElem_of_mem hb
      simp at hj ⊢
      exact List.pairwise_iff_getElem.1 h i (n + j) (by omega) (by omega) (by omega)
theorem psort_sorted (L : List W) : ∀ k, (psort L k).Pairwise (fun a b => b.prio ≤ a.prio)
  | 0 => List.Pairwise.nil
  | k + 1 => ins_sorted (psort_sorted L k)
def qk (d : Int) (l : List W) (k : Nat) : List W := if d = 2 then psort l k else l.take k
theorem qk_ok {d : Int} {l : List W} (hd : d = 1 ∨ d = 2) (hv : ∀ w ∈ l, valid w = true) (hl : l.length ≤ 12) (k : Nat) (hk : k ≤ l.length) : check d (qk d l k) = 0 ∧ (qk d l k).length = k := by
  rcases hd with rfl | rfl
  · have e : qk 1 l k = l.take k := if_neg (by decide)
    have hlen : (l.take k).length = k := by rw [List.length_take]; omega
    rw [e]
    exact ⟨(check_fifo _).2 ⟨by omega, fun w hw => hv w (List.mem_of_mem_take hw)⟩, hlen⟩
  · have e : qk 2 l k = psort l k := if_pos rfl
    rw [e]
    exact ⟨(check_two _).2 ⟨by rw [psort_len]; omega, fun w hw => hv w (psort_mem l k hk w hw), psort_sorted l k⟩, psort_len l k⟩
theorem qk_push {d : Int} {l : List W} (hd : d = 1 ∨ d = 2) (hv : ∀ w ∈ l, valid w = true) (hl : l.length ≤ 12) (k : Nat) (hk : k < l.length) : pushE d (qk d l k) l[k] = 0 ∧ pushL d (qk d l k) l[k] = qk d l (k + 1) := by
  obtain ⟨h1, h2⟩ := qk_ok hd hv hl k (by omega)
  have hE : pushE d (qk d l k) l[k] = 0 := by
    rw [pushE, if_neg (by omega), if_neg (by simp [hv _ (List.getElem_mem hk)]), if_neg (by omega)]
  refine ⟨hE, ?_⟩
  rw [pushL_eq _ _ _ hE]
  rcases hd with rfl | rfl
  · have e : qk 1 l k = l.take k := if_neg (by decide)
    have e' : qk 1 l (k + 1) = l.take (k + 1) := if_neg (by decide)
    rw [place_one _ _ _ (by decide), e, e', List.take_of_length_le (Nat.le_refl _), List.drop_of_length_le (Nat.le_refl _), List.take_succ_eq_append_getElem hk]
  · have e : qk 2 l k = psort l k := if_pos rfl
    have e' : qk 2 l (k + 1) = psort l (k + 1) := if_pos rfl
    have e2 : l.getD k default = l[k] := by simp [List.getD, hk]
    rw [e, e', psort, e2]; rfl
end Wl
