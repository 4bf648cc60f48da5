/- Directed graphs: the plain laws of what the reference does. No condition. -/
import Derived.Test.YtkaiilhpjmjnkaaY03
set_option linter.unusedVariables false
set_option linter.unusedSimpArgs false
namespace Dg
theorem lessI_trans {a b c : Ed} (h1 : lessI a b < 0) (h2 : lessI b c < 0) : lessI a c < 0 := by
  unfold lessI at *
  by_cases e1 : a.u = b.u <;> by_cases e2 : b.u = c.u <;> by_cases e3 : a.u = c.u <;> simp [e1, e2, e3] at h1 h2 ⊢ <;> omega
theorem chkL_sorted {n : Int} : ∀ {l : List Ed} {p : Option Ed}, chkL n p l = 0 → l.Pairwise (fun a b => lessI a b < 0) ∧ ∀ q ∈ p, ∀ e ∈ l, lessI q e < 0
  | [], _, _ => ⟨List.Pairwise.nil, by simp⟩
  | e :: r, p, h => by
    rw [chkL] at h
    split at h
    · cases h
    · split at h
      · cases h
      · rename_i hq
        obtain ⟨h1, h2⟩ := chkL_sorted h
        have h3 : ∀ y ∈ r, lessI e y < 0 := fun y hy => h2 e rfl y hy
        refine ⟨List.pairwise_cons.2 ⟨h3, h1⟩, fun q hqp y hy => ?_⟩
        have h4 : lessI q e < 0 := Int.not_le.1 fun hle => hq ⟨q, hqp, hle⟩
        rcases List.mem_cons.1 hy with rfl | hy
        · exact h4
        · exact lessI_trans h4 (h3 y hy)
theorem sc_sorted {n : Int} {l : List Ed} (h : chk n l = 0) (u : Int) : (sc l u).Pairwise (· < ·) := by
  unfold chk at h
  split at h
  · cases h
  · split at h
    · cases h
    · have h1 := (chkL_sorted h).1
      unfold sc
      rw [List.pairwise_map]
      have h2 := h1.filter (fun e => decide (e.u = u))
      refine List.Pairwise.imp_of_mem (fun {a b} ha hb hlt => ?_) h2
      have ea : a.u = u := by simpa using (List.mem_filter.1 ha).2
      have eb : b.u = u := by simpa using (List.mem_filter.1 hb).2
      unfold lessI at hlt
      rw [if_neg (by rw [ea, eb]; simp)] at hlt
      omega
theorem nxt_first {d : Int → Int} {vs : List Int} (hs : vs.Pairwise (· < ·)) {k now b : Int} (hb : b ∈ vs) (hk : d b = k) (hn : ∀ i ∈ vs, i < b → d i ≠ k) : nxt d vs k now = b := by
  obtain ⟨i, hi, rfl⟩ := List.getElem_of_mem hb
  exact nxt_at hi (fun j hj hji => hn _ (List.getElem_mem hj) (List.pairwise_iff_getElem.1 hs j i hj hi hji)) hk
theorem pick_eq {m : Nat} {f : Int → Int} {x : Int} (hx : 0 ≤ x ∧ x < m) (h0 : f x = 0) (hn : ∀ y, 0 ≤ y → y < x → f y ≠ 0) : pick m f = x := by
  unfold pick
  have hl : x.toNat < (Go.Aw.bl m f).length := by rw [Go.Aw.bl_len]; omega
  rw [Wl.idxI_at _ _ x.toNat hl (by rw [Go.Aw.bl_get, Int.toNat_of_nonneg hx.1]; exact h0) (fun i hi hik => by rw [Go.Aw.bl_get]; exact hn _ (by omega) (by omega)), Int.toNat_of_nonneg hx.1]
theorem pick_none {m : Nat} {f : Int → Int} (hn : ∀ y, 0 ≤ y → y < (m : Int) → f y ≠ 0) : pick m f < 0 := by
  unfold pick
  rw [Wl.idxI_no _ _ (fun i hi => by rw [Go.Aw.bl_get]; rw [Go.Aw.bl_len] at hi; exact hn _ (by omega) (by omega))]
  omega
def frP (l : List Ed) (out : List Int) (y : Int) (k : Nat) : Bool := !decide (y ∈ out) && (l.take k).all (fun z => !decide (z.v = y) || decide (z.u ∈ out))
theorem frP_succ {l : List Ed} (out : List Int) (y : Int) {k : Nat} (hk : k < l.length) : frP l out y (k + 1) = (frP l out y k && (!decide (l[k].v = y) || decide (l[k].u ∈ out))) := by
  unfold frP; rw [take_succ' hk, List.all_append]; simp [Bool.and_assoc]
theorem frP_all (l : List Ed) (out : List Int) (y : Int) : frP l out y l.length = frB l out y := by
  rw [Bool.eq_iff_iff, frB_iff]
  unfold frP
  rw [List.take_length]
  simp
  intro _
  constructor
  · intro h z hz hv
    rcases h z hz with h | h
    · exact absurd hv h
    · exact h
  · intro h z hz
    by_cases hv : z.v = y
    · exact .inr (h z hz hv)
    · exact .inl hv
/-! ### rounds of distances -/
structure RI (n : Int) (l : List Ed) (t : Int) (r c : Int) (d : Int → Int) : Prop where
  lab : ∀ j, 0 ≤ d j → ∃ k : Nat, d j = k ∧ P l t k j
  self : d t = 0
  low : ∀ j, -1 ≤ d j
  cnt : ∀ j, 0 ≤ d j → d j + 1 + (uns n.toNat (fun j => decide (0 ≤ d j)) : Int) ≤ n
  top : ∀ j, d j ≤ c
  pr : ∀ e ∈ l, 0 ≤ d e.v → d e.v < r → 0 ≤ d e.u ∧ d e.u ≤ d e.v + 1
theorem RI.start {n : Int} {l : List Ed} (hn : 0 ≤ n) {t : Int} (ht : 0 ≤ t ∧ t < n) : RI n l t 0 0 (upd (fun _ => -1) t 0) := by
  have e0 : ∀ j, upd (fun _ => (-1 : Int)) t 0 j = if j = t then 0 else -1 := fun j => rfl
  refine ⟨fun j hj => ?_, by rw [e0, if_pos rfl], fun j => by rw [e0]; split <;> omega, fun j hj => ?_, fun j => by rw [e0]; split <;> omega, fun e he h1 h2 => by omega⟩
  · rw [e0] at hj ⊢
    split at hj
    · rename_i e; rw [if_pos e]; exact ⟨0, rfl, e⟩
    · omega
  · have h1 := uns_lt (m := n.toNat) (d := fun _ => (-1 : Int)) (u := t) (y := 0) ⟨ht.1, by omega⟩ (show (-1 : Int) < 0 by omega) (Int.le_refl _)
    have h2 := uns_bd n.toNat (fun _ => decide ((0 : Int) ≤ -1))
    have h3 : upd (fun _ => (-1 : Int)) t 0 j ≤ 0 := by rw [e0]; split <;> omega
    omega
theorem RI.step {n : Int} {l : List Ed} {t r : Int} {d : Int → Int} (h : RI n l t r (r + 1) d) (hr : 0 ≤ r) {e : Ed} (he : e ∈ l) (hv : d e.v = r) (hu : d e.u < 0) (hur : 0 ≤ e.u ∧ e.u < n) : RI n l t r (r + 1) (upd d e.u (r + 1)) := by
  have eo : ∀ j, j ≠ e.u → upd d e.u (r + 1) j = d j := fun j hj => by unfold upd; rw [if_neg hj]
  have eu : upd d e.u (r + 1) e.u = r + 1 := by unfold upd; rw [if_pos rfl]
  have ht : t ≠ e.u := fun e2 => by have := h.self; rw [e2] at this; omega
  have hlt := uns_lt (m := n.toNat) (d := d) (u := e.u) (y := r + 1) ⟨hur.1, by omega⟩ hu (by omega)
  refine ⟨fun j hj => ?_, by rw [eo t ht]; exact h.self, fun j => ?_, fun j hj => ?_, fun j => ?_, fun x hx h1 h2 => ?_⟩
  · by_cases ej : j = e.u
    · subst ej
      obtain ⟨k, e1, e2⟩ := h.lab e.v (by omega)
      exact ⟨k + 1, by rw [eu]; push_cast; omega, e.v, he, e2⟩
    · rw [eo j ej] at hj ⊢; exact h.lab j hj
  · by_cases ej : j = e.u
    · subst ej; rw [eu]; omega
    · rw [eo j ej]; exact h.low j
  · by_cases ej : j = e.u
    · subst ej
      have := h.cnt e.v (by omega)
      rw [eu]; omega
    · rw [eo j ej] at hj ⊢
      have := h.cnt j hj
      omega
  · by_cases ej : j = e.u
    · subst ej; rw [eu]; omega
    · rw [eo j ej]; exact h.top j
  · have hxv : x.v ≠ e.u := fun e2 => by rw [e2, eu] at h2; omega
    rw [eo x.v hxv] at h1 h2 ⊢
    obtain ⟨h3, h4⟩ := h.pr x hx h1 h2
    have hxu : x.u ≠ e.u := fun e2 => by rw [e2] at h3; omega
    rw [eo x.u hxu]; exact ⟨h3, h4⟩
theorem RI.next {n : Int} {l : List Ed} {t r : Int} {d : Int → Int} (h : RI n l t r (r + 1) d) (hall : ∀ e ∈ l, d e.v = r → 0 ≤ d e.u) : RI n l t (r + 1) (r + 1) d :=
  ⟨h.lab, h.self, h.low, h.cnt, h.top, fun e he h1 h2 => by
    by_cases e1 : d e.v = r
    · have := hall e he e1
      have := h.top e.u
      omega
    · exact h.pr e he h1 (by omega)⟩
theorem RI.ds {n : Int} {l : List Ed} {t c : Int} {d : Int → Int} (h : RI n l t n c d) : DS n l t d :=
  ⟨h.lab, fun e he h1 => h.pr e he h1 (by have := h.cnt e.v h1; omega), h.self, h.low⟩
end Dg
namespace Dg
def Bst (d : Int → Int) (vs : List Int) (x b : Int) : Prop := (b = -1 ∧ ∀ i ∈ vs, i < x → d i < 0) ∨ (b ∈ vs ∧ 0 ≤ d b ∧ b < x ∧ (∀ i ∈ vs, i < x → 0 ≤ d i → d b ≤ d i) ∧ ∀ i ∈ vs, i < b → 0 ≤ d i → d b < d i)
theorem bst_t {d : Int → Int} {vs : List Int} (hv : ∀ i ∈ vs, 0 ≤ i) {x b : Int} (h : Bst d vs x b) (h1 : x ∈ vs) (h2 : 0 ≤ d x) (h3 : b < 0 ∨ d x < d b) : Bst d vs (x + 1) x := by
  right
  refine ⟨h1, h2, by omega, fun i hi hx h0 => ?_, fun i hi hx h0 => ?_⟩
  · by_cases e : i = x
    · subst e; exact Int.le_refl _
    · rcases h with ⟨_, h⟩ | ⟨hb, _, _, h, _⟩
      · have := h i hi (by omega); omega
      · have := h i hi (by omega) h0
        have := hv b hb
        omega
  · rcases h with ⟨_, h⟩ | ⟨hb, _, _, h, _⟩
    · have := h i hi hx; omega
    · have := h i hi hx h0
      have := hv b hb
      omega
theorem bst_f {d : Int → Int} {vs : List Int} {x b : Int} (h : Bst d vs x b) (hn : ¬ (x ∈ vs ∧ 0 ≤ d x ∧ (b < 0 ∨ d x < d b))) : Bst d vs (x + 1) b := by
  rcases h with ⟨hb, h⟩ | ⟨h1, h2, h3, h4, h5⟩
  · left
    refine ⟨hb, fun i hi hx => ?_⟩
    by_cases e : i = x
    · subst e
      refine Int.not_le.1 fun h0 => hn ⟨hi, h0, .inl (by omega)⟩
    · exact h i hi (by omega)
  · right
    refine ⟨h1, h2, by omega, fun i hi hx h0 => ?_, h5⟩
    by_cases e : i = x
    · subst e
      exact Int.not_lt.1 fun hlt => hn ⟨hi, h0, .inr hlt⟩
    · exact h4 i hi (by omega) h0
theorem bst_end {d : Int → Int} {vs : List Int} (hs : vs.Pairwise (· < ·)) {x b : Int} (hv : ∀ i ∈ vs, 0 ≤ i ∧ i < x) (h : Bst d vs x b) : (b < 0 → lst d vs < 0) ∧ (¬ b < 0 → b ∈ vs ∧ 0 ≤ d b ∧ lst d vs = d b ∧ ∀ now, nxt d vs (d b) now = b) := by
  rcases h with ⟨hb, h⟩ | ⟨h1, h2, h3, h4, h5⟩
  · refine ⟨fun _ => Int.not_le.1 fun h0 => ?_, fun h0 => by omega⟩
    obtain ⟨v, hvv, hd⟩ := (lst_pos vs).1 h0
    have := h v hvv (hv v hvv).2
    omega
  · refine ⟨fun h0 => by have := (hv b h1).1; omega, fun _ => ⟨h1, h2, ?_, fun now => ?_⟩⟩
    · have h0 := (lst_pos (d := d) vs).2 ⟨b, h1, h2⟩
      obtain ⟨⟨v, hvv, e⟩, hm⟩ := lst_spec vs h0
      have := hm b h1 h2
      have := h4 v hvv (hv v hvv).2 (by omega)
      omega
    · exact nxt_first hs h1 rfl (fun i hi hlt e => by have := h5 i hi hlt (by omega); omega)
def Nxx (d : Int → Int) (vs : List Int) (k x nx : Int) : Prop := (nx = -1 ∧ ∀ i ∈ vs, i < x → d i ≠ k) ∨ (nx ∈ vs ∧ d nx = k ∧ ∀ i ∈ vs, i < nx → d i ≠ k)
theorem nxx_t {d : Int → Int} {vs : List Int} (hv : ∀ i ∈ vs, 0 ≤ i) {k x nx : Int} (h : Nxx d vs k x nx) (h0 : nx < 0) (h1 : x ∈ vs) (h2 : d x = k) : Nxx d vs k (x + 1) x := by
  right
  refine ⟨h1, h2, fun i hi hlt => ?_⟩
  rcases h with ⟨_, h⟩ | ⟨hb, _⟩
  · exact h i hi hlt
  · have := hv nx hb; omega
theorem nxx_f {d : Int → Int} {vs : List Int} {k x nx : Int} (h : Nxx d vs k x nx) (hn : ¬ (x ∈ vs ∧ d x = k)) : Nxx d vs k (x + 1) nx := by
  rcases h with ⟨hb, h⟩ | h
  · left
    refine ⟨hb, fun i hi hx e => ?_⟩
    by_cases e2 : i = x
    · subst e2; exact hn ⟨hi, e⟩
    · exact h i hi (by omega) e
  · exact .inr h
theorem nxx_end {d : Int → Int} {vs : List Int} (hs : vs.Pairwise (· < ·)) {k x nx : Int} (h : Nxx d vs k x nx) (hex : ∃ w ∈ vs, d w = k) (hx : (∀ i ∈ vs, i < x) ∨ ¬ nx < 0) : nx ∈ vs ∧ d nx = k ∧ ∀ now, nxt d vs k now = nx := by
  rcases h with ⟨hb, h⟩ | ⟨h1, h2, h3⟩
  · exfalso
    obtain ⟨w, hw, e⟩ := hex
    rcases hx with hx | hx
    · exact h w hw (hx w hw) e
    · omega
  · exact ⟨h1, h2, fun now => nxt_first hs h1 h2 h3⟩
def Wa (n : Int) (l : List Ed) (u : Int) (k : Nat) (at_ : Int) (out : List Int) : Prop := (0 ≤ at_ ∧ at_ < n) ∧ dist (gr n l) u at_ = (k : Int) ∧ around (gr n l) u = (if k = 0 then out else wlk (gr n l) (dist (gr n l) u) (k - 1) at_ (out ++ [at_]))
theorem wa_start {n : Int} {l : List Ed} {u : Int} (hu : 0 ≤ u ∧ u < n) {b : Int} (hb : 0 ≤ b ∧ b < n) (h0 : 0 ≤ dist (gr n l) u b) (hl : lst (dist (gr n l) u) (sc l u) = dist (gr n l) u b) (hn : ∀ now, nxt (dist (gr n l) u) (sc l u) (dist (gr n l) u b) now = b) : Wa n l u (dist (gr n l) u b).toNat b [u] := by
  refine ⟨hb, (Int.toNat_of_nonneg h0).symm, ?_⟩
  unfold around
  rw [suc_gr hu, hl, if_neg (by omega)]
  generalize hk : (dist (gr n l) u b).toNat = k
  cases k with
  | zero => rfl
  | succ k =>
    have hk' : ((k + 1 : Nat) : Int) = dist (gr n l) u b := by omega
    rw [if_neg (by omega), wlk, suc_gr hu, hk', hn]; rfl
theorem wa_step {n : Int} {l : List Ed} (hok : OkE n l) {u at_ : Int} {k : Nat} {out : List Int} (h : Wa n l u (k + 1) at_ out) {nx : Int} (h1 : nx ∈ sc l at_) (h2 : dist (gr n l) u nx = (k : Int)) (hn : ∀ now, nxt (dist (gr n l) u) (sc l at_) (k : Int) now = nx) : Wa n l u k nx (out ++ [at_]) := by
  obtain ⟨w1, w2, w3⟩ := h
  refine ⟨hok.v _ (sc_mem.1 h1), h2, ?_⟩
  rw [w3, if_neg (by omega)]
  show wlk (gr n l) (dist (gr n l) u) k at_ (out ++ [at_]) = _
  cases k with
  | zero => rfl
  | succ k => rw [if_neg (by omega), wlk, suc_gr w1, hn]; rfl
theorem wa_pos {n u : Int} {l : List Ed} (hd : DS n l u (dist (gr n l) u)) {at_ : Int} {k : Nat} {out : List Int} (h : Wa n l u k at_ out) : (at_ = u → k = 0) ∧ (k = 0 → at_ = u) := by
  obtain ⟨w1, w2, w3⟩ := h
  refine ⟨fun e => ?_, fun e => ?_⟩
  · subst e; rw [hd.self] at w2; omega
  · subst e; exact hd.zero w2
theorem wa_len {n : Int} {l : List Ed} {u at_ : Int} {k : Nat} {out : List Int} (h : Wa n l u k at_ out) : (around (gr n l) u).length = out.length + k := by
  rw [h.2.2]
  split
  · omega
  · rw [wlk_len, List.length_append, List.length_singleton]; omega
end Dg
namespace Dg
theorem dist_getE {g : Gr} {t v : Int} (h : 0 ≤ v ∧ v < g.n) : ∃ hh : v.toNat < (distL g t).length, (distL g t)[v.toNat] = dist g t v := by
  have hl : v.toNat < (distL g t).length := by rw [distL, Go.Aw.bl_len]; omega
  refine ⟨hl, ?_⟩
  have := Go.Aw.bl_get g.n.toNat (dist g t) v.toNat hl
  rw [Int.toNat_of_nonneg h.1] at this
  exact this
end Dg
namespace Dg
theorem rkU_snoc (u : Int) (vs : List Int) (v : Int) (f : Int → Int) : rkU u (vs ++ [v]) f = upd (rkU u vs f) v (max (rkU u vs f v) (rkU u vs f u + 1)) := by unfold rkU; rw [List.foldl_append]; rfl
def thS (n : Int) (l : List Ed) (i : Int) (k : Nat) (w : Int) : Bool := (sc (l.take k) i).any (fun v => rS n l v w)
theorem thS_zero (n : Int) (l : List Ed) (i w : Int) : thS n l i 0 w = false := rfl
theorem thS_or {n : Int} {l : List Ed} {i : Int} {k : Nat} (hk : k < l.length) (h : l[k].u = i) (w : Int) : (thS n l i k w || rS n l l[k].v w) = thS n l i (k + 1) w := by
  unfold thS
  rw [sc_succ hk, if_pos h.symm, List.any_append]; simp
theorem thS_no {n : Int} {l : List Ed} {i : Int} {k : Nat} (hk : k < l.length) (h : l[k].u ≠ i) (w : Int) : thS n l i k w = thS n l i (k + 1) w := by
  unfold thS
  rw [sc_succ hk, if_neg (Ne.symm h)]
theorem thS_in {n : Int} {l : List Ed} (hc : chk n l = 0) {i : Int} {k : Nat} (hk : k < l.length) (h : l[k].u = i) (ht : thS n l i k l[k].v = true) (w : Int) : thS n l i k w = thS n l i (k + 1) w := by
  rw [← thS_or hk h]
  cases e : rS n l l[k].v w with
  | false => simp
  | true =>
    simp
    unfold thS at ht ⊢
    rw [List.any_eq_true] at ht ⊢
    obtain ⟨v, hv, hr⟩ := ht
    have hv2 := (okE hc).v _ (List.mem_of_mem_take (sc_mem.1 hv))
    exact ⟨v, hv, rS_trans hc hv2 hr e⟩
theorem thS_all {n : Int} {l : List Ed} (hc : chk n l = 0) (i w : Int) : thS n l i l.length w = cS n l i w := by
  rw [Bool.eq_iff_iff, cS_iff hc]
  unfold thS
  rw [List.take_length, List.any_eq_true]
end Dg
namespace Dg
theorem orderL_bd (n : Int) (l : List Ed) : (orderL n l).length ≤ 200 := by
  by_cases h : orderE n l = 0
  · have h1 := (order_bd h).2
    have h2 := (okE (orderE_zero h).1).nb
    omega
  · by_cases hc : chk n l = 0
    · rw [(order_err hc h).2]; simp
    · unfold orderL; rw [if_pos hc]; simp
theorem rankL_bd (n : Int) (l : List Ed) : (rankL n l).length ≤ 200 := by
  unfold rankL
  split
  · simp
  · rename_i h
    have h2 := (okE (orderE_zero (by omega : orderE n l = 0)).1).nb
    rw [Go.Aw.bl_len]; omega
theorem cloL_bd (n : Int) (l : List Ed) : (cloL n l).length ≤ 2000 := by
  unfold cloL
  split
  · simp
  · split
    · simp
    · omega
end Dg
