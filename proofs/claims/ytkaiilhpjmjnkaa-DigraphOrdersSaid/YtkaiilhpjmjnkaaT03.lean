/- Directed graphs: the plain laws of classes; what the reference does. No condition. -/
import Derived.Test.YtkaiilhpjmjnkaaR03
set_option linter.unusedVariables false
set_option linter.unusedSimpArgs false
namespace Dg
theorem rS_self {n : Int} {l : List Ed} (h : chk n l = 0) {u : Int} (hu : 0 ≤ u ∧ u < n) : rS n l u u = true := (rS_re h hu).st u (by simp)
theorem rS_trans {n : Int} {l : List Ed} (h : chk n l = 0) {a b c : Int} (ha : 0 ≤ a ∧ a < n) (h1 : rS n l a b = true) (h2 : rS n l b c = true) : rS n l a c = true :=
  (rS_re h ((rS_re h ha).rg b h1)).mn (fun w => rS n l a w = true) (rS_re h ha).cl (fun w hw => by rw [List.mem_singleton.1 hw]; exact h1) c h2
theorem cB_iff {n : Int} {l : List Ed} {a b : Int} : cB n l a b = true ↔ rS n l a b = true ∧ rS n l b a = true := by unfold cB cR rS; rw [Bool.and_eq_true]
theorem cB_symm {n : Int} {l : List Ed} {a b : Int} (h : cB n l a b = true) : cB n l b a = true := by rw [cB_iff] at h ⊢; exact ⟨h.2, h.1⟩
theorem cB_self {n : Int} {l : List Ed} (h : chk n l = 0) {u : Int} (hu : 0 ≤ u ∧ u < n) : cB n l u u = true := cB_iff.2 ⟨rS_self h hu, rS_self h hu⟩
theorem cB_trans {n : Int} {l : List Ed} (h : chk n l = 0) {a b c : Int} (ha : 0 ≤ a ∧ a < n) (hc : 0 ≤ c ∧ c < n) (h1 : cB n l a b = true) (h2 : cB n l b c = true) : cB n l a c = true := by
  rw [cB_iff] at h1 h2 ⊢
  exact ⟨rS_trans h ha h1.1 h2.1, rS_trans h hc h2.2 h1.2⟩
/-- The classes, by their first nodes. -/
structure CI (n : Int) (l : List Ed) (k : Nat) (us : List Int) : Prop where
  cls : (comp (cR n l) n.toNat k).2 = us.map (fun u => mk (cB n l u) n.toNat)
  rg : ∀ u ∈ us, 0 ≤ u ∧ u < (k : Int)
  ap : us.Pairwise (fun a b => cB n l a b = false)
  done : ∀ j, (0 ≤ j ∧ j < n) → ((comp (cR n l) n.toNat k).1 j = true ↔ ∃ u ∈ us, cB n l u j = true)
  all : ∀ i : Int, 0 ≤ i ∧ i < (k : Int) → ∃ u ∈ us, cB n l u i = true
theorem comp_ci {n : Int} {l : List Ed} (h : chk n l = 0) : ∀ k : Nat, (k : Int) ≤ n → ∃ us, CI n l k us
  | 0, _ => ⟨[], rfl, by simp, List.Pairwise.nil, fun j _ => by simp [comp], fun i hi => by omega⟩
  | k + 1, hk => by
    obtain ⟨us, hi⟩ := comp_ci h k (by omega)
    have hkr : 0 ≤ (k : Int) ∧ (k : Int) < n := by omega
    cases hd : (comp (cR n l) n.toNat k).1 (k : Int) with
    | true =>
      refine ⟨us, ?_, fun u hu => ?_, hi.ap, ?_, fun i hi2 => ?_⟩
      · rw [← comp_t hd]; exact hi.cls
      · have := hi.rg u hu; omega
      · rw [← comp_t hd]; exact hi.done
      · by_cases e : i = k
        · subst e; exact (hi.done _ hkr).1 hd
        · exact hi.all i (by omega)
    | false =>
      obtain ⟨c1, c2⟩ := comp_f hd
      have hno : ∀ u ∈ us, cB n l u (k : Int) = false := fun u hu => by
        cases e : cB n l u (k : Int) with
        | false => rfl
        | true => have := (hi.done _ hkr).2 ⟨u, hu, e⟩; rw [hd] at this; cases this
      refine ⟨us ++ [(k : Int)], ?_, fun u hu => ?_, ?_, fun j hj => ?_, fun i hi2 => ?_⟩
      · rw [← c2, hi.cls, List.map_append]; rfl
      · rcases List.mem_append.1 hu with hu | hu
        · have := hi.rg u hu; omega
        · rw [List.mem_singleton.1 hu]; omega
      · rw [List.pairwise_append]
        refine ⟨hi.ap, List.pairwise_singleton _ _, fun a ha b hb => ?_⟩
        rw [List.mem_singleton.1 hb]; exact hno a ha
      · rw [c1, cD, Bool.or_eq_true, hi.done j hj, decide_eq_true (by omega), Bool.true_and]
        constructor
        · rintro (⟨u, hu, e⟩ | e)
          · exact ⟨u, by simp [hu], e⟩
          · exact ⟨(k : Int), by simp, e⟩
        · rintro ⟨u, hu, e⟩
          rcases List.mem_append.1 hu with hu | hu
          · exact .inl ⟨u, hu, e⟩
          · rw [List.mem_singleton.1 hu] at e; exact .inr e
      · by_cases e : i = k
        · subst e; exact ⟨(k : Int), by simp, cB_self h hkr⟩
        · obtain ⟨u, hu, e2⟩ := hi.all i (by omega)
          exact ⟨u, by simp [hu], e2⟩
/-- A node that no class holds is in no class with one before it. -/
theorem comp_low {n : Int} {l : List Ed} (h : chk n l = 0) {k : Nat} (hk : (k : Int) < n) (hd : (comp (cR n l) n.toNat k).1 (k : Int) = false) : ∀ j : Int, 0 ≤ j ∧ j < (k : Int) → cB n l (k : Int) j = false := by
  intro j hj
  obtain ⟨us, hi⟩ := comp_ci h k (by omega)
  cases e : cB n l (k : Int) j with
  | false => rfl
  | true =>
    exfalso
    obtain ⟨u, hu, e2⟩ := hi.all j hj
    have hr := hi.rg u hu
    have := (hi.done (k : Int) ⟨by omega, hk⟩).2 ⟨u, hu, cB_trans h ⟨hr.1, by omega⟩ ⟨by omega, hk⟩ e2 (cB_symm e)⟩
    rw [hd] at this; cases this
theorem mk_low {s : Int → Bool} : ∀ {k : Nat}, (∀ j : Int, 0 ≤ j ∧ j < (k : Int) → s j = false) → mk s k = []
  | 0, _ => rfl
  | k + 1, h => by
    rw [mk, if_neg (by simp [h (k : Int) (by omega)])]
    exact mk_low (fun j hj => h j (by omega))
theorem cD_low {n : Int} {l : List Ed} {k : Nat} (h : ∀ j : Int, 0 ≤ j ∧ j < (k : Int) → cB n l (k : Int) j = false) (j : Int) (hj : 0 ≤ j) : (comp (cR n l) n.toNat k).1 j = cD n l k k j := by
  unfold cD
  by_cases e : j < (k : Int)
  · rw [h j ⟨hj, e⟩]; simp
  · rw [decide_eq_false (by omega)]; simp
/-! ### the rounds of the reference -/
structure RR (n : Int) (l : List Ed) (u : Int) (s : Int → Bool) : Prop where
  st : s u = true
  sub : ∀ w, s w = true → rS n l u w = true
theorem RR.step {n : Int} {l : List Ed} (hc : chk n l = 0) {u : Int} (hu : 0 ≤ u ∧ u < n) {s : Int → Bool} (h : RR n l u s) {e : Ed} (he : e ∈ l) (h1 : s e.u = true) : RR n l u (upd s e.v true) :=
  ⟨upd_mono h.st, fun w hw => by
    unfold upd at hw
    split at hw
    · rename_i e1; rw [e1]; exact (rS_re hc hu).cl e he (h.sub _ h1)
    · exact h.sub w hw⟩
theorem RR.full {n : Int} {l : List Ed} (hc : chk n l = 0) {u : Int} (hu : 0 ≤ u ∧ u < n) {s : Int → Bool} (h : RR n l u s) (hcl : ∀ e ∈ l, s e.u = true → s e.v = true) : s = rS n l u := by
  funext w
  rw [Bool.eq_iff_iff]
  exact ⟨h.sub w, fun hw => (rS_re hc hu).mn (fun w => s w = true) hcl (fun x hx => by rw [List.mem_singleton.1 hx]; exact h.st) w hw⟩
end Dg
namespace Go.Aw
open Dg
theorem ea_setB {m : Nat} (f : Int → Bool) {t : Int} (x : Bool) (h : 0 ≤ t ∧ t < m) : setMany (ea m fun j => .bool (f j)) (0 + t.toNat * 1) [.bool x] = ea m (fun j => .bool (upd f t x j)) := by
  rw [ea_set _ _ h]; exact ea_congr fun j _ => by unfold upd; split <;> rfl
end Go.Aw
namespace Dg
theorem reach_bd (n : Int) (l : List Ed) (u : Int) : (reach n l u).length ≤ 200 := by
  unfold reach
  split
  · exact Nat.zero_le _
  · rename_i h
    have := (okE (show chk n l = 0 by omega)).nb
    have := mk_len (rchS (gr n l) [u]) n.toNat
    omega
theorem comps_bd (n : Int) (l : List Ed) : (comps n l).length ≤ 1000000 ∧ ∀ x ∈ comps n l, x.length ≤ 1000000 := by
  by_cases h : chk n l = 0
  · have hn := (okE h).nb
    obtain ⟨us, hi⟩ := comp_ci h n.toNat (by omega)
    rw [comps_eq h]
    have h1 := comp_len (cR n l) n.toNat n.toNat
    refine ⟨by omega, fun x hx => ?_⟩
    rw [hi.cls] at hx
    obtain ⟨u, _, rfl⟩ := List.mem_map.1 hx
    have := mk_len (cB n l u) n.toNat
    omega
  · unfold comps; rw [if_pos h]; simp
end Dg
namespace Dg
def clsF : List (List Int) → Nat → Int → Int
  | [], _, _ => 0
  | c :: r, i, y => if y ∈ c then (i : Int) + 1 else clsF r (i + 1) y
theorem clsF_app : ∀ (A : List (List Int)) (c : List Int) (i : Nat) (y : Int), clsF (A ++ [c]) i y = if y ∈ A.flatten then clsF A i y else if y ∈ c then ((i + A.length : Nat) : Int) + 1 else 0
  | [], c, i, y => by simp [clsF]
  | a :: A, c, i, y => by
    have ih := clsF_app A c (i + 1) y
    show (if y ∈ a then (i : Int) + 1 else clsF (A ++ [c]) (i + 1) y) = _
    rw [ih, List.flatten_cons, List.length_cons]
    by_cases h : y ∈ a
    · rw [if_pos h, if_pos (by simp [h])]; show _ = (if y ∈ a then (i : Int) + 1 else clsF A (i + 1) y); rw [if_pos h]
    · rw [if_neg h]
      by_cases h2 : y ∈ A.flatten
      · rw [if_pos h2, if_pos (List.mem_append_right _ h2)]; show _ = (if y ∈ a then (i : Int) + 1 else clsF A (i + 1) y); rw [if_neg h]
      · rw [if_neg h2, if_neg (fun hm => (List.mem_append.1 hm).elim h h2)]
        split
        · push_cast; omega
        · rfl
theorem clsF_zero {A : List (List Int)} {c : List Int} {y : Int} (h1 : y ∉ A.flatten) (h2 : y ∉ c) : clsF (A ++ [c]) 0 y = 0 := by rw [clsF_app, if_neg h1, if_neg h2]
theorem clsF_step {A : List (List Int)} {c : List Int} {x : Int} (h1 : x ∉ A.flatten) (y : Int) : upd (clsF (A ++ [c]) 0) x ((A.length : Int) + 1) y = clsF (A ++ [c ++ [x]]) 0 y := by
  unfold upd
  rw [clsF_app, clsF_app]
  by_cases e : y = x
  · subst e; rw [if_pos rfl, if_neg h1, if_pos (by simp)]; simp
  · rw [if_neg e]
    by_cases h2 : y ∈ A.flatten
    · rw [if_pos h2, if_pos h2]
    · rw [if_neg h2, if_neg h2]
      simp [e]
theorem clsF_none (A : List (List Int)) (y : Int) : clsF A 0 y = clsF (A ++ [[]]) 0 y := by
  rw [clsF_app]
  split
  · rfl
  · rename_i h
    rw [if_neg (by simp)]
    have : ∀ (A : List (List Int)) (i : Nat), y ∉ A.flatten → clsF A i y = 0 := by
      intro A
      induction A with
      | nil => exact fun _ _ => rfl
      | cons a A ih =>
        intro i hn
        rw [List.flatten_cons, List.mem_append, not_or] at hn
        show (if y ∈ a then (i : Int) + 1 else clsF A (i + 1) y) = 0
        rw [if_neg hn.1]; exact ih _ hn.2
    exact this A 0 h
theorem comps_ci {n : Int} {l : List Ed} (h : chk n l = 0) : ∃ us : List Int, comps n l = us.map (fun u => mk (cB n l u) n.toNat) ∧ (∀ u ∈ us, 0 ≤ u ∧ u < n) ∧ us.Pairwise (fun a b => cB n l a b = false) ∧ ∀ i : Int, 0 ≤ i ∧ i < n → ∃ u ∈ us, cB n l u i = true := by
  have hn := (okE h).nb
  obtain ⟨us, hi⟩ := comp_ci h n.toNat (by omega)
  exact ⟨us, by rw [comps_eq h, hi.cls], fun u hu => by have := hi.rg u hu; omega, hi.ap, fun i hi2 => hi.all i (by omega)⟩
theorem comps_nodup {n : Int} {l : List Ed} (h : chk n l = 0) : (comps n l).flatten.Nodup := by
  obtain ⟨us, e, hr, ha, _⟩ := comps_ci h
  rw [e]
  unfold List.Nodup
  rw [List.pairwise_flatten]
  refine ⟨fun x hx => ?_, ?_⟩
  · obtain ⟨u, _, rfl⟩ := List.mem_map.1 hx; exact mk_nodup _ _
  · rw [List.pairwise_map]
    have key : ∀ us : List Int, (∀ u ∈ us, 0 ≤ u ∧ u < n) → us.Pairwise (fun a b => cB n l a b = false) → us.Pairwise (fun a b => ∀ x ∈ mk (cB n l a) n.toNat, ∀ y ∈ mk (cB n l b) n.toNat, x ≠ y) := by
      intro us
      induction us with
      | nil => exact fun _ _ => List.Pairwise.nil
      | cons a us ih =>
        intro hr ha
        rw [List.pairwise_cons] at ha ⊢
        refine ⟨fun b hb x hx y hy exy => ?_, ih (fun u hu => hr u (by simp [hu])) ha.2⟩
        subst exy
        have h1 := (mk_mem _).1 hx
        have h2 := (mk_mem _).1 hy
        have := cB_trans h (hr a (by simp)) (hr b (by simp [hb])) h1.2 (cB_symm h2.2)
        rw [ha.1 b hb] at this; cases this
    exact key us hr ha
theorem comps_mem {n : Int} {l : List Ed} (h : chk n l = 0) {y : Int} : y ∈ (comps n l).flatten ↔ 0 ≤ y ∧ y < n := by
  obtain ⟨us, e, hr, _, hc⟩ := comps_ci h
  have hn := (okE h).nb
  rw [e, List.mem_flatten]
  constructor
  · rintro ⟨c, hc, hy⟩
    obtain ⟨u, _, rfl⟩ := List.mem_map.1 hc
    have := ((mk_mem _).1 hy).1
    omega
  · intro hy
    obtain ⟨u, hu, e2⟩ := hc y hy
    exact ⟨_, List.mem_map.2 ⟨u, hu, rfl⟩, (mk_mem n.toNat).2 ⟨by omega, e2⟩⟩
theorem comps_flat {n : Int} {l : List Ed} (h : chk n l = 0) : (comps n l).flatten.length = n.toNat := by
  have hn := (okE h).nb
  have hR : ((List.range n.toNat).map (fun (j : Nat) => (j : Int))).Nodup := by
    unfold List.Nodup
    rw [List.pairwise_map]
    exact (List.nodup_range (n := n.toNat)).imp (fun h e => h (by omega))
  have h1 := len_le_of_sub (comps_nodup h) (b := (List.range n.toNat).map (fun (j : Nat) => (j : Int))) (fun w hw => by
    have := (comps_mem h).1 hw
    exact List.mem_map.2 ⟨w.toNat, List.mem_range.2 (by omega), by omega⟩)
  have h2 := len_le_of_sub hR (b := (comps n l).flatten) (fun w hw => by
    obtain ⟨j, hj, rfl⟩ := List.mem_map.1 hw
    have := List.mem_range.1 hj
    exact (comps_mem h).2 (by omega))
  simp only [List.length_map, List.length_range] at h1 h2
  omega
theorem cls_eq {n : Int} {l : List Ed} (h : chk n l = 0) {a b : Int} (ha : 0 ≤ a ∧ a < n) (hb : 0 ≤ b ∧ b < n) : clsF (comps n l) 0 a = clsF (comps n l) 0 b ↔ cB n l a b = true := by
  obtain ⟨us, e, hr, _, hc⟩ := comps_ci h
  have hn := (okE h).nb
  rw [e]
  have hge : ∀ (us : List Int) (i : Nat) (y : Int), (0 ≤ y ∧ y < n) → (∃ u ∈ us, cB n l u y = true) → (i : Int) < clsF (us.map (fun u => mk (cB n l u) n.toNat)) i y := by
    intro us
    induction us with
    | nil => rintro i y _ ⟨u, hu, _⟩; cases hu
    | cons v us ih =>
      rintro i y hy ⟨u, hu, e⟩
      show (i : Int) < (if y ∈ mk (cB n l v) n.toNat then (i : Int) + 1 else clsF (us.map (fun u => mk (cB n l u) n.toNat)) (i + 1) y)
      split
      · omega
      · rename_i hm
        have hm' : ¬ cB n l v y = true := fun h => hm ((mk_mem _).2 ⟨by omega, h⟩)
        have := ih (i + 1) y hy (by
          rcases List.mem_cons.1 hu with rfl | hu
          · exact absurd e hm'
          · exact ⟨u, hu, e⟩)
        push_cast at this; omega
  have key : ∀ (us : List Int) (i : Nat), (∀ u ∈ us, 0 ≤ u ∧ u < n) → (∃ u ∈ us, cB n l u a = true) → (∃ u ∈ us, cB n l u b = true) → (clsF (us.map (fun u => mk (cB n l u) n.toNat)) i a = clsF (us.map (fun u => mk (cB n l u) n.toNat)) i b ↔ cB n l a b = true) := by
    intro us
    induction us with
    | nil => rintro i _ ⟨u, hu, _⟩; cases hu
    | cons v us ih =>
      intro i hr h1 h2
      have hv := hr v (by simp)
      have e1 : ∀ y, (0 ≤ y ∧ y < n) → clsF ((v :: us).map (fun u => mk (cB n l u) n.toNat)) i y = if cB n l v y = true then (i : Int) + 1 else clsF (us.map (fun u => mk (cB n l u) n.toNat)) (i + 1) y := by
        intro y hy
        show (if y ∈ mk (cB n l v) n.toNat then (i : Int) + 1 else clsF (us.map (fun u => mk (cB n l u) n.toNat)) (i + 1) y) = _
        have : y ∈ mk (cB n l v) n.toNat ↔ cB n l v y = true := ⟨fun h => ((mk_mem _).1 h).2, fun h => (mk_mem _).2 ⟨by omega, h⟩⟩
        by_cases hc : cB n l v y = true
        · rw [if_pos hc, if_pos (this.2 hc)]
        · rw [if_neg hc, if_neg (fun h => hc (this.1 h))]
      have tl : ∀ y, cB n l v y ≠ true → (∃ u ∈ v :: us, cB n l u y = true) → ∃ u ∈ us, cB n l u y = true := by
        rintro y hn ⟨u, hu, e⟩
        rcases List.mem_cons.1 hu with rfl | hu
        · exact absurd e hn
        · exact ⟨u, hu, e⟩
      rw [e1 a ha, e1 b hb]
      by_cases ca : cB n l v a = true
      · by_cases cb : cB n l v b = true
        · rw [if_pos ca, if_pos cb]
          exact ⟨fun _ => cB_trans h ha hb (cB_symm ca) cb, fun _ => rfl⟩
        · rw [if_pos ca, if_neg cb]
          have := hge us (i + 1) b hb (tl b cb h2)
          constructor
          · intro e; push_cast at this; omega
          · intro e; exact absurd (cB_trans h hv hb ca e) cb
      · by_cases cb : cB n l v b = true
        · rw [if_neg ca, if_pos cb]
          have := hge us (i + 1) a ha (tl a ca h1)
          constructor
          · intro e; push_cast at this; omega
          · intro e; exact absurd (cB_trans h hv ha cb (cB_symm e)) ca
        · rw [if_neg ca, if_neg cb]
          exact ih (i + 1) (fun u hu => hr u (by simp [hu])) (tl a ca h1) (tl b cb h2)
  exact key us 0 hr (hc a ha) (hc b hb)
theorem both_eq {n : Int} {l : List Ed} (h : chk n l = 0) {a b : Int} (ha : 0 ≤ a ∧ a < n) (hb : 0 ≤ b ∧ b < n) : (decide (0 ≤ Wl.idxI (reach n l a) b) && decide (0 ≤ Wl.idxI (reach n l b) a)) = decide (clsF (comps n l) 0 a = clsF (comps n l) 0 b) := by
  rw [Bool.eq_iff_iff, Bool.and_eq_true, decide_eq_true_eq, decide_eq_true_eq, decide_eq_true_eq, cls_eq h ha hb, cB_iff, Wl.idxI_mem, Wl.idxI_mem, reach_mem h ha, reach_mem h hb]
theorem pre_nodup {L : List (List Int)} (h : L.flatten.Nodup) {k j : Nat} (hk : k < L.length) (hj : j < L[k].length) : L[k][j] ∉ (L.take k).flatten ∧ L[k][j] ∉ L[k].take j := by
  have e1 : L = L.take k ++ L[k] :: L.drop (k + 1) := by rw [← List.drop_eq_getElem_cons hk, List.take_append_drop]
  have e2 : L[k] = L[k].take j ++ L[k][j] :: L[k].drop (j + 1) := by rw [← List.drop_eq_getElem_cons hj, List.take_append_drop]
  have e3 : L.flatten = (L.take k).flatten ++ ((L[k].take j ++ L[k][j] :: L[k].drop (j + 1)) ++ (L.drop (k + 1)).flatten) := by
    rw [← e2]
    conv => lhs; rw [e1]
    rw [List.flatten_append, List.flatten_cons]
  rw [e3, List.nodup_append] at h
  refine ⟨fun hm => h.2.2 _ hm _ (by simp) rfl, fun hm => ?_⟩
  have h2 := h.2.1
  rw [List.nodup_append] at h2
  have h3 := h2.1
  rw [List.nodup_append] at h3
  exact h3.2.2 _ hm _ (List.mem_cons_self ..) rfl
theorem flat_take {L : List (List Int)} {k : Nat} (hk : k < L.length) : L.take (k + 1) = L.take k ++ [L[k]] := by rw [List.take_add_one, List.getElem?_eq_getElem hk]; rfl
end Dg
namespace Dg
theorem flat_take_le (L : List (List Int)) (k : Nat) : (L.take k).flatten.length ≤ L.flatten.length := by
  have e : L.flatten = (L.take k).flatten ++ (L.drop k).flatten := by rw [← List.flatten_append, List.take_append_drop]
  rw [e, List.length_append]; omega
end Dg
