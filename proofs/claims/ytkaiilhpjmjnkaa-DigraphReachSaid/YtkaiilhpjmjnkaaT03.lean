/- Directed graphs: the plain laws of classes; what the reference does. No condition. -/
import Derived.Test.YtkaiilhpjmjnkaaR03
set_option linter.unusedVariables false
set_option linter.unusedSimpArgs false
namespace Dg
theorem rS_self {n : Int} {l : List Ed} (h : chk n l = 0) {u : Int} (hu : 0 ≤ u ∧ u < n) : rS n l u u = true := (rS_re h hu).st u (by simp)
theorem rS_trans {n : Int} {l : List Ed} (h : chk n l = 0) {a b c : Int} (ha : 0 ≤ a ∧ a < n) (h1 : rS n l a b = true) (h2 : rS n l b c = true) : rS n l a c = true :=
  (rS_re h ((rS_re h ha).rg b h1)).mn (fun w => rS n l a w = true) (rS_re h ha).cl (fun w hw => by rw [List.mem_singleton.1 hw]; exact h1) c h2
theorem cB_iff {n : Int} {l : List Ed} {a b : Int} : cB n l a b = true ↔ rS n l a b = true ∧ rS n l b a = true := by unfold cB cR rS; rw [Bool.and_eq_true]
theorem cB_symm {n : Int} {l : List Ed} {a b : Int} (h : cB n l a b = true) : cB n l b a = true := by rw [cB_iff] at h ⊢; exact ⟨h.2, h.1⟩
theorem cB_self {n : Int} {l : List Ed} (h : chk n l = 0) {u : Int} (hu : 0 ≤ u ∧ u < n) : cB n l u u = true := cB_iff.2 ⟨rS_self h hu, rS_self h hu⟩
theorem cB_trans {n : Int} {l : List Ed} (h : chk n l = 0) {a b c : Int} (ha : 0 ≤ a ∧ a < n) (hc : 0 ≤ c ∧ c < n) (h1 : cB n l a b = true) (h2 : cB n l b c = true) : cB n l a c = true := by
  rw [cB_iff] at h1 h2 ⊢
  exact ⟨rS_trans h ha h1.1 h2.1, rS_trans h hc h2.2 h1.2⟩
/-- The classes, by their first nodes. -/
structure CI (n : Int) (l : List Ed) (k : Nat) (us : List Int) : Prop where
  cls : (comp (cR n l) n.toNat k).2 = us.map (fun u => mk (cB n l u) n.toNat)
  rg : ∀ u ∈ us, 0 ≤ u ∧ u < (k : Int)
  ap : us.Pairwise (fun a b => cB n l a b = false)
  done : ∀ j, (0 ≤ j ∧ j < n) → ((comp (cR n l) n.toNat k).1 j = true ↔ ∃ u ∈ us, cB n l u j = true)
  all : ∀ i : Int, 0 ≤ i ∧ i < (k : Int) → ∃ u ∈ us, cB n l u i = true
theorem comp_ci {n : Int} {l : List Ed} (h : chk n l = 0) : ∀ k : Nat, (k : Int) ≤ n → ∃ us, CI n l k us
  | 0, _ => ⟨[], rfl, by simp, List.Pairwise.nil, fun j _ => by simp [comp], fun i hi => by omega⟩
  | k + 1, hk => by
    obtain ⟨us, hi⟩ := comp_ci h k (by omega)
    have hkr : 0 ≤ (k : Int) ∧ (k : Int) < n := by omega
    cases hd : (comp (cR n l) n.toNat k).1 (k : Int) with
    | true =>
      refine ⟨us, ?_, fun u hu => ?_, hi.ap, ?_, fun i hi2 => ?_⟩
      · rw [← comp_t hd]; exact hi.cls
      · have := hi.rg u hu; omega
      · rw [← comp_t hd]; exact hi.done
      · by_cases e : i = k
        · subst e; exact (hi.done _ hkr).1 hd
        · exact hi.all i (by omega)
    | false =>
      obtain ⟨c1, c2⟩ := comp_f hd
      have hno : ∀ u ∈ us, cB n l u (k : Int) = false := fun u hu => by
        cases e : cB n l u (k : Int) with
        | false => rfl
        | true => have := (hi.done _ hkr).2 ⟨u, hu, e⟩; rw [hd] at this; cases this
      refine ⟨us ++ [(k : Int)], ?_, fun u hu => ?_, ?_, fun j hj => ?_, fun i hi2 => ?_⟩
      · rw [← c2, hi.cls, List.map_append]; rfl
      · rcases List.mem_append.1 hu with hu | hu
        · have := hi.rg u hu; omega
        · rw [List.mem_singleton.1 hu]; omega
      · rw [List.pairwise_append]
        refine ⟨hi.ap, List.pairwise_singleton _ _, fun a ha b hb => ?_⟩
        rw [List.mem_singleton.1 hb]; exact hno a ha
      · rw [c1, cD, Bool.or_eq_true, hi.done j hj, decide_eq_true (by omega), Bool.true_and]
        constructor
        · rintro (⟨u, hu, e⟩ | e)
          · exact ⟨u, by simp [hu], e⟩
          · exact ⟨(k : Int), by simp, e⟩
        · rintro ⟨u, hu, e⟩
          rcases List.mem_append.1 hu with hu | hu
          · exact .inl ⟨u, hu, e⟩
          · rw [List.mem_singleton.1 hu] at e; exact .inr e
      · by_cases e : i = k
        · subst e; exact ⟨(k : Int), by simp, cB_self h hkr⟩
        · obtain ⟨u, hu, e2⟩ := hi.all i (by omega)
          exact ⟨u, by simp [hu], e2⟩
/-- A node that no class holds is in no class with one before it. -/
theorem comp_low {n : Int} {l : List Ed} (h : chk n l = 0) {k : Nat} (hk : (k : Int) < n) (hd : (comp (cR n l) n.toNat k).1 (k : Int) = false) : ∀ j : Int, 0 ≤ j ∧ j < (k : Int) → cB n l (k : Int) j = false := by
  intro j hj
  obtain ⟨us, hi⟩ := comp_ci h k (by omega)
  cases e : cB n l (k : Int) j with
  | false => rfl
  | true =>
    exfalso
    obtain ⟨u, hu, e2⟩ := hi.all j hj
    have hr := hi.rg u hu
    have := (hi.done (k : Int) ⟨by omega, hk⟩).2 ⟨u, hu, cB_trans h ⟨hr.1, by omega⟩ ⟨by omega, hk⟩ e2 (cB_symm e)⟩
    rw [hd] at this; cases this
theorem mk_low {s : Int → Bool} : ∀ {k : Nat}, (∀ j : Int, 0 ≤ j ∧ j < (k : Int) → s j = false) → mk s k = []
  | 0, _ => rfl
  | k + 1, h => by
    rw [mk, if_neg (by simp [h (k : Int) (by omega)])]
    exact mk_low (fun j hj => h j (by omega))
theorem cD_low {n : Int} {l : List Ed} {k : Nat} (h : ∀ j : Int, 0 ≤ j ∧ j < (k : Int) → cB n l (k : Int) j = false) (j : Int) (hj : 0 ≤ j) : (comp (cR n l) n.toNat k).1 j = cD n l k k j := by
  unfold cD
  by_cases e : j < (k : Int)
  · rw [h j ⟨hj, e⟩]; simp
  · rw [decide_eq_false (by omega)]; simp
/-! ### the rounds of the reference -/
structure RR (n : Int) (l : List Ed) (u : Int) (s : Int → Bool) : Prop where
  st : s u = true
  sub : ∀ w, s w = true → rS n l u w = true
theorem RR.step {n : Int} {l : List Ed} (hc : chk n l = 0) {u : Int} (hu : 0 ≤ u ∧ u < n) {s : Int → Bool} (h : RR n l u s) {e : Ed} (he : e ∈ l) (h1 : s e.u = true) : RR n l u (upd s e.v true) :=
  ⟨upd_mono h.st, fun w hw => by
    unfold upd at hw
    split at hw
    · rename_i e1; rw [e1]; exact (rS_re hc hu).cl e he (h.sub _ h1)
    · exact h.sub w hw⟩
theorem RR.full {n : Int} {l : List Ed} (hc : chk n l = 0) {u : Int} (hu : 0 ≤ u ∧ u < n) {s : Int → Bool} (h : RR n l u s) (hcl : ∀ e ∈ l, s e.u = true → s e.v = true) : s = rS n l u := by
  funext w
  rw [Bool.eq_iff_iff]
  exact ⟨h.sub w, fun hw => (rS_re hc hu).mn (fun w => s w = true) hcl (fun x hx => by rw [List.mem_singleton.1 hx]; exact h.st) w hw⟩
end Dg
namespace Go.Aw
open Dg
theorem ea_setB {m : Nat} (f : Int → Bool) {t : Int} (x : Bool) (h : 0 ≤ t ∧ t < m) : setMany (ea m fun j => .bool (f j)) (0 + t.toNat * 1) [.bool x] = ea m (fun j => .bool (upd f t x j)) := by
  rw [ea_set _ _ h]; exact ea_congr fun j _ => by unfold upd; split <;> rfl
end Go.Aw
namespace Dg
theorem reach_bd (n : Int) (l : List Ed) (u : Int) : (reach n l u).length ≤ 200 := by
  unfold reach
  split
  · exact Nat.zero_le _
  · rename_i h
    have := (okE (show chk n l = 0 by omega)).nb
    have := mk_len (rchS (gr n l) [u]) n.toNat
    omega
theorem comps_bd (n : Int) (l : List Ed) : (comps n l).length ≤ 1000000 ∧ ∀ x ∈ comps n l, x.length ≤ 1000000 := by
  by_cases h : chk n l = 0
  · have hn := (okE h).nb
    obtain ⟨us, hi⟩ := comp_ci h n.toNat (by omega)
    rw [comps_eq h]
    have h1 := comp_len (cR n l) n.toNat n.toNat
    refine ⟨by omega, fun x hx => ?_⟩
    rw [hi.cls] at hx
    obtain ⟨u, _, rfl⟩ := List.mem_map.1 hx
    have := mk_len (cB n l u) n.toNat
    omega
  · unfold comps; rw [if_pos h]; simp
end Dg
