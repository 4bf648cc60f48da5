/- Directed graphs: the plain laws of the closure. No condition. -/
import Derived.Test.YtkaiilhpjmjnkaaW03
import Derived.Test.YtkaiilhpjmjnkaaM20
set_option linter.unusedVariables false
set_option linter.unusedSimpArgs false
namespace Dg
theorem chkL_of {n : Int} : ∀ {l : List Ed} {p : Option Ed}, (∀ e ∈ l, bad n e = false) → l.Pairwise (fun a b => lessI a b < 0) → (∀ q ∈ p, ∀ e ∈ l.head?, lessI q e < 0) → chkL n p l = 0
  | [], p, _, _, _ => by cases p <;> rfl
  | e :: r, p, hb, hs, hp => by
    rw [chkL, if_neg (by simp [hb e (by simp)]), if_neg]
    · rw [List.pairwise_cons] at hs
      refine chkL_of (fun x hx => hb x (by simp [hx])) hs.2 ?_
      intro q hq y hy
      have : q = e := by simpa using hq.symm
      subst this
      exact hs.1 y (List.mem_of_mem_head? hy)
    · rintro ⟨q, hq, h⟩
      have := hp q hq e (by simp)
      omega
theorem mkE_mem {u : Int} {s : Int → Bool} {m : Nat} {e : Ed} : e ∈ mkE u s m ↔ e.u = u ∧ (0 ≤ e.v ∧ e.v < (m : Int)) ∧ s e.v = true := by
  unfold mkE
  rw [List.mem_map]
  constructor
  · rintro ⟨v, hv, rfl⟩
    exact ⟨rfl, (mk_mem m).1 hv⟩
  · rintro ⟨rfl, h⟩
    exact ⟨e.v, (mk_mem m).2 h, rfl⟩
theorem clo_mem {g : Gr} {e : Ed} : ∀ k : Nat, e ∈ clo g k ↔ (0 ≤ e.u ∧ e.u < (k : Int)) ∧ (0 ≤ e.v ∧ e.v < (g.n.toNat : Int)) ∧ rchS g (suc g e.u) e.v = true
  | 0 => by simp [clo]; omega
  | k + 1 => by
    rw [clo, List.mem_append, clo_mem k, mkE_mem]
    constructor
    · rintro (⟨h1, h2⟩ | ⟨h1, h2⟩)
      · exact ⟨by omega, h2⟩
      · rw [← h1] at h2; exact ⟨by omega, h2⟩
    · rintro ⟨h1, h2⟩
      by_cases e1 : e.u = k
      · right; rw [e1] at h2; exact ⟨e1, h2⟩
      · left; exact ⟨by omega, h2⟩
theorem clo_sorted (g : Gr) : ∀ k : Nat, (clo g k).Pairwise (fun a b => lessI a b < 0)
  | 0 => List.Pairwise.nil
  | k + 1 => by
    rw [clo, List.pairwise_append]
    refine ⟨clo_sorted g k, ?_, fun a ha b hb => ?_⟩
    · unfold mkE
      rw [List.pairwise_map]
      refine (mk_sorted _ _).imp fun h => ?_
      unfold lessI
      simp only [ne_eq, not_true, if_false]
      omega
    · have h1 := (clo_mem k).1 ha
      have h2 := mkE_mem.1 hb
      unfold lessI
      split <;> omega
theorem clo_len (g : Gr) : ∀ k : Nat, (clo g k).length ≤ k * g.n.toNat
  | 0 => by simp [clo]
  | k + 1 => by
    have h1 := clo_len g k
    have h2 := mkE_len (k : Int) (rchS g (suc g k)) g.n.toNat
    rw [clo, List.length_append, Nat.succ_mul]; omega
def cl (n : Int) (l : List Ed) : List Ed := clo (gr n l) n.toNat
def cS (n : Int) (l : List Ed) (a : Int) : Int → Bool := rchS (gr n l) (sc l a)
theorem cS_re {n : Int} {l : List Ed} (h : chk n l = 0) (a : Int) : RE n l (sc l a) (cS n l a) := rchS_re h (fun w hw => (okE h).v _ (sc_mem.1 hw))
theorem cl_mem {n : Int} {l : List Ed} (h : chk n l = 0) {a b : Int} : (⟨a, b⟩ : Ed) ∈ cl n l ↔ (0 ≤ a ∧ a < n) ∧ cS n l a b = true := by
  have hn := (okE h).nb
  unfold cl
  rw [clo_mem]
  show ((0 ≤ a ∧ a < (n.toNat : Int)) ∧ (0 ≤ b ∧ b < ((gr n l).n.toNat : Int)) ∧ rchS (gr n l) (suc (gr n l) a) b = true) ↔ _
  constructor
  · rintro ⟨h1, _, h3⟩
    have h1' : 0 ≤ a ∧ a < n := by omega
    rw [suc_gr h1'] at h3
    exact ⟨h1', h3⟩
  · rintro ⟨h1, h2⟩
    have h3 := (cS_re h a).rg b h2
    rw [suc_gr h1]
    exact ⟨by omega, by show 0 ≤ b ∧ b < (n.toNat : Int); omega, h2⟩
theorem cl_chk {n : Int} {l : List Ed} (h : chk n l = 0) (h12 : n ≤ 12) : chk n (cl n l) = 0 ∧ (cl n l).length ≤ 144 := by
  have hn := (okE h).nb
  have hlen := clo_len (gr n l) n.toNat
  have hsq : n.toNat * n.toNat ≤ 12 * 12 := Nat.mul_le_mul (by omega) (by omega)
  have hlen' : (cl n l).length ≤ n.toNat * n.toNat := hlen
  refine ⟨?_, by omega⟩
  unfold chk
  rw [if_neg (by omega), if_neg (by omega)]
  refine chkL_of (fun e he => ?_) (clo_sorted _ _) (by simp)
  have h1 := (cl_mem h (a := e.u) (b := e.v)).1 he
  have h2 := (cS_re h e.u).rg e.v h1.2
  exact bad_iff.2 ⟨h1.1, h2⟩
theorem sub_cl {n : Int} {l : List Ed} (h : chk n l = 0) {e : Ed} (he : e ∈ l) : e ∈ cl n l := (cl_mem h).2 ⟨(okE h).u e he, (cS_re h e.u).st e.v (sc_mem.2 he)⟩
theorem cS_cl {n : Int} {l : List Ed} (h : chk n l = 0) (h12 : n ≤ 12) (a : Int) : cS n (cl n l) a = cS n l a := by
  have hc := (cl_chk h h12).1
  have h1 := cS_re hc a
  have hcl : ∀ C : Int → Prop, (∀ e ∈ l, C e.u → C e.v) → ∀ e ∈ cl n l, C e.u → C e.v := fun C hC e he hu =>
    (cS_re h e.u).mn C hC (fun v hv => hC _ (sc_mem.1 hv) hu) e.v ((cl_mem h).1 he).2
  refine RE.eq (n := n) (l := l) (fs := sc l a) ⟨fun u hu => h1.st u (sc_mem.2 (sub_cl h (sc_mem.1 hu))), fun e he hu => h1.cl e (sub_cl h he) hu, fun C hC hf w hw => ?_, h1.rg⟩ (cS_re h a)
  refine h1.mn C (hcl C hC) (fun u hu => ?_) w hw
  exact (cS_re h a).mn C hC hf u ((cl_mem h).1 (sc_mem.1 hu)).2
theorem cl_cl {n : Int} {l : List Ed} (h : chk n l = 0) (h12 : n ≤ 12) : cl n (cl n l) = cl n l := by
  have hn := (okE h).nb
  have key : ∀ k : Nat, k ≤ n.toNat → clo (gr n (cl n l)) k = clo (gr n l) k := by
    intro k
    induction k with
    | zero => exact fun _ => rfl
    | succ k ih =>
      intro hk
      rw [clo, clo, ih (by omega), suc_gr ⟨by omega, by omega⟩, suc_gr ⟨by omega, by omega⟩]
      have := cS_cl h h12 (k : Int)
      unfold cS at this
      rw [this]; rfl
  exact key _ (Nat.le_refl _)
theorem cS_iff {n : Int} {l : List Ed} (h : chk n l = 0) {a w : Int} : cS n l a w = true ↔ ∃ v ∈ sc l a, rS n l v w = true := by
  constructor
  · intro hw
    refine (cS_re h a).mn (fun w => ∃ v ∈ sc l a, rS n l v w = true) (fun e he ⟨v, hv, hr⟩ => ⟨v, hv, (rS_re h ((okE h).v _ (sc_mem.1 hv))).cl e he hr⟩) (fun v hv => ⟨v, hv, rS_self h ((okE h).v _ (sc_mem.1 hv))⟩) w hw
  · rintro ⟨v, hv, hr⟩
    exact (rS_re h ((okE h).v _ (sc_mem.1 hv))).mn (fun w => cS n l a w = true) (cS_re h a).cl (fun x hx => by rw [List.mem_singleton.1 hx]; exact (cS_re h a).st v hv) w hr
theorem cloL_eq {n : Int} {l : List Ed} (h : chk n l = 0) (h12 : n ≤ 12) : cloL n l = cl n l ∧ cloE n l = 0 := by
  have h1 := (cl_chk h h12).2
  have h0 : ¬ (chk n l ≠ 0) := by omega
  have h2 : ¬ 2000 < (clo (gr n l) n.toNat).length := by show ¬ 2000 < (cl n l).length; omega
  unfold cloL cloE
  rw [if_neg h0, if_neg h0, if_neg h2, if_neg h2]; exact ⟨rfl, rfl⟩
/-! ### next: what the successors reach -/
def nxs (n : Int) (l : List Ed) (i : Int) : List Ed → List Int
  | [] => []
  | e :: r => (if e.u = i then reach n l e.v else []) ++ nxs n l i r
theorem nxs_app (n : Int) (l : List Ed) (i : Int) (e : Ed) : ∀ r, nxs n l i (r ++ [e]) = nxs n l i r ++ (if e.u = i then reach n l e.v else [])
  | [] => by simp [nxs]
  | x :: r => by
    show (if x.u = i then reach n l x.v else []) ++ nxs n l i (r ++ [e]) = _
    rw [nxs_app n l i e r, ← List.append_assoc]; rfl
theorem nxs_succ (n : Int) (l : List Ed) (i : Int) {k : Nat} (hk : k < l.length) : nxs n l i (l.take (k + 1)) = nxs n l i (l.take k) ++ (if l[k].u = i then reach n l l[k].v else []) := by rw [take_succ' hk, nxs_app]
theorem nxs_len (n : Int) (l : List Ed) (i : Int) : ∀ r, (nxs n l i r).length ≤ 200 * r.length
  | [] => Nat.le_refl _
  | e :: r => by
    have h1 := nxs_len n l i r
    have h2 := reach_bd n l e.v
    show ((if e.u = i then reach n l e.v else []) ++ nxs n l i r).length ≤ _
    rw [List.length_append, List.length_cons]
    split
    · omega
    · rw [List.length_nil]; omega
theorem nxs_mem {n : Int} {l : List Ed} (i w : Int) : ∀ r, w ∈ nxs n l i r ↔ ∃ e ∈ r, e.u = i ∧ w ∈ reach n l e.v
  | [] => by simp [nxs]
  | e :: r => by
    show w ∈ (if e.u = i then reach n l e.v else []) ++ nxs n l i r ↔ _
    rw [List.mem_append, nxs_mem i w r]
    constructor
    · rintro (h | ⟨x, hx, h⟩)
      · split at h
        · rename_i hi; exact ⟨e, by simp, hi, h⟩
        · cases h
      · exact ⟨x, by simp [hx], h⟩
    · rintro ⟨x, hx, hi, h⟩
      rcases List.mem_cons.1 hx with rfl | hx
      · left; rw [if_pos hi]; exact h
      · right; exact ⟨x, hx, hi, h⟩
theorem nxs_all {n : Int} {l : List Ed} (h : chk n l = 0) {i w : Int} (hi : 0 ≤ i ∧ i < n) : (cl n l).any (fun x => decide (x = ⟨i, w⟩)) = decide (0 ≤ Wl.idxI (nxs n l i l) w) := by
  rw [Bool.eq_iff_iff, decide_eq_true_eq, Wl.idxI_mem, nxs_mem, List.any_eq_true]
  constructor
  · rintro ⟨x, hx, e⟩
    have e' : x = ⟨i, w⟩ := by simpa using e
    subst e'
    obtain ⟨v, hv, hr⟩ := (cS_iff h).1 ((cl_mem h).1 hx).2
    exact ⟨⟨i, v⟩, sc_mem.1 hv, rfl, (reach_mem h ((okE h).v _ (sc_mem.1 hv))).2 hr⟩
  · rintro ⟨e, he, rfl, hr⟩
    refine ⟨⟨e.u, w⟩, (cl_mem h).2 ⟨hi, (cS_iff h).2 ⟨e.v, sc_mem.2 he, (reach_mem h ((okE h).v _ he)).1 hr⟩⟩, by simp⟩
/-! ### a loop of the closure is a cycle -/
theorem lst_pos {d : Int → Int} : ∀ (vs : List Int), 0 ≤ lst d vs ↔ ∃ v ∈ vs, 0 ≤ d v := by
  have key : ∀ (vs : List Int) (m : Int), 0 ≤ vs.foldl (lsF d) m ↔ 0 ≤ m ∨ ∃ v ∈ vs, 0 ≤ d v := by
    intro vs
    induction vs with
    | nil => intro m; simp
    | cons v vs ih =>
      intro m
      rw [List.foldl_cons, ih]
      unfold lsF
      constructor
      · rintro (h | ⟨w, hw, h⟩)
        · split at h
          · exact .inr ⟨v, by simp, h⟩
          · exact .inl h
        · exact .inr ⟨w, by simp [hw], h⟩
      · rintro (h | ⟨w, hw, h⟩)
        · left; split <;> omega
        · rcases List.mem_cons.1 hw with rfl | hw
          · left; split <;> omega
          · exact .inr ⟨w, hw, h⟩
  intro vs
  have := key vs (-1)
  unfold lst
  constructor
  · intro h
    rcases this.1 h with h | h
    · omega
    · exact h
  · intro h; exact this.2 (.inr h)
theorem wlk_len (g : Gr) (d : Int → Int) : ∀ (k : Nat) (now : Int) (out : List Int), (wlk g d k now out).length = out.length + k
  | 0, _, _ => rfl
  | k + 1, now, out => by rw [wlk, wlk_len g d k, List.length_append, List.length_singleton]; omega
theorem around_len (g : Gr) (u : Int) : (around g u).length = if lst (dist g u) (suc g u) < 0 then 0 else (lst (dist g u) (suc g u)).toNat + 1 := by
  unfold around
  split
  · rfl
  · rw [wlk_len, List.length_singleton]; omega
theorem best_pos (A : Int → List Int) : ∀ k : Nat, 0 < (best A k).length ↔ ∃ u : Nat, u < k ∧ 0 < (A (u : Int)).length
  | 0 => by simp [best]
  | k + 1 => by
    have ih := best_pos A k
    rw [best]
    split
    · rename_i h
      exact ⟨fun _ => ⟨k, by omega, h.1⟩, fun _ => h.1⟩
    · rename_i h
      rw [ih]
      constructor
      · rintro ⟨u, hu, h2⟩; exact ⟨u, by omega, h2⟩
      · rintro ⟨u, hu, h2⟩
        by_cases e : u = k
        · subst e
          exact ih.1 (by
            rcases Nat.eq_zero_or_pos (best A u).length with h0 | h0
            · exact absurd ⟨h2, .inl h0⟩ h
            · exact h0)
        · exact ⟨u, by omega, h2⟩
def onCyc (n : Int) (l : List Ed) (u : Int) : Prop := (0 ≤ u ∧ u < n) ∧ ∃ v ∈ sc l u, rS n l v u = true
theorem around_pos {n : Int} {l : List Ed} (h : chk n l = 0) {u : Int} (hu : 0 ≤ u ∧ u < n) : 0 < (around (gr n l) u).length ↔ onCyc n l u := by
  have h1 := lst_pos (d := dist (gr n l) u) (sc l u)
  rw [around_len, suc_gr hu]
  have h2 : (∃ v ∈ sc l u, 0 ≤ dist (gr n l) u v) ↔ ∃ v ∈ sc l u, rS n l v u = true := by
    constructor
    · rintro ⟨v, hv, hd⟩; exact ⟨v, hv, (dist_reach h hu ((okE h).v _ (sc_mem.1 hv))).1 hd⟩
    · rintro ⟨v, hv, hd⟩; exact ⟨v, hv, (dist_reach h hu ((okE h).v _ (sc_mem.1 hv))).2 hd⟩
  unfold onCyc
  rw [← h2, ← h1]
  split
  · constructor
    · intro h; omega
    · rintro ⟨_, h⟩; omega
  · constructor
    · intro _; exact ⟨hu, by omega⟩
    · intro _; omega
theorem cyc_iff {n : Int} {l : List Ed} (h : chk n l = 0) : cycE n l = 0 ↔ ∃ u, onCyc n l u := by
  have hn := (okE h).nb
  have h1 := best_pos (around (gr n l)) n.toNat
  unfold cycE
  rw [if_neg (by omega)]
  have h2 : (∃ u : Nat, u < n.toNat ∧ 0 < (around (gr n l) (u : Int)).length) ↔ ∃ u, onCyc n l u := by
    constructor
    · rintro ⟨u, hu, hp⟩; exact ⟨u, (around_pos h ⟨by omega, by omega⟩).1 hp⟩
    · rintro ⟨u, hu⟩
      have hr := hu.1
      refine ⟨u.toNat, by omega, ?_⟩
      rw [Int.toNat_of_nonneg hr.1]
      exact (around_pos h hr).2 hu
  rw [← h2, ← h1]
  split
  · constructor
    · intro h; cases h
    · intro h; omega
  · exact ⟨fun _ => by omega, fun _ => rfl⟩
theorem loop_law {n : Int} {l : List Ed} (h : chk n l = 0) : (cl n l).any (fun e => decide (e.u = e.v)) = decide (cycE n l = 0) := by
  rw [Bool.eq_iff_iff, decide_eq_true_eq, cyc_iff h, List.any_eq_true]
  constructor
  · rintro ⟨e, he, hv⟩
    have hv' : e.u = e.v := by simpa using hv
    obtain ⟨h1, h2⟩ := (cl_mem h (a := e.u) (b := e.v)).1 he
    rw [← hv'] at h2
    exact ⟨e.u, h1, (cS_iff h).1 h2⟩
  · rintro ⟨u, hu, hv⟩
    exact ⟨⟨u, u⟩, (cl_mem h).2 ⟨hu, (cS_iff h).2 hv⟩, by simp⟩
end Dg
