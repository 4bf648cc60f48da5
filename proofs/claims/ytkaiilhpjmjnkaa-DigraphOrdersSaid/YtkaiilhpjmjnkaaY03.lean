/- Directed graphs: the plain laws of shortest cycles. No condition. -/
import Derived.Test.YtkaiilhpjmjnkaaX03
set_option linter.unusedVariables false
set_option linter.unusedSimpArgs false
namespace Dg
theorem P_snoc {l : List Ed} : ∀ (k : Nat) (a b c : Int), P l b k a → (⟨b, c⟩ : Ed) ∈ l → P l c (k + 1) a
  | 0, a, b, c, e, h => by cases e; exact ⟨c, h, rfl⟩
  | k + 1, a, b, c, ⟨w, he, hp⟩, h => ⟨w, he, P_snoc k w b c hp h⟩
theorem P_trans {l : List Ed} {s t : Int} {j : Nat} (h : P l s j t) : ∀ (k : Nat) (v : Int), P l t k v → P l s (k + j) v
  | 0, v, e => by cases e; rw [Nat.zero_add]; exact h
  | k + 1, v, ⟨w, he, hp⟩ => by
    have := P_trans h k w hp
    rw [Nat.succ_add]; exact ⟨w, he, this⟩
/-- A chain of edges along which the distance falls. -/
def CH (l : List Ed) (d : Int → Int) : Int → Nat → List Int → Prop
  | _, 0, [] => True
  | now, k + 1, w :: ws => (⟨now, w⟩ : Ed) ∈ l ∧ d w = ((k + 1 : Nat) : Int) ∧ CH l d w k ws
  | _, _, _ => False
section
variable {n : Int} {l : List Ed} {t : Int} {d : Int → Int}
theorem DS.down (h : DS n l t d) {w : Int} {k : Nat} (hw : d w = ((k + 1 : Nat) : Int)) : ∃ y, (⟨w, y⟩ : Ed) ∈ l ∧ d y = (k : Int) := by
  obtain ⟨k', e1, e2⟩ := h.lab w (by omega)
  obtain rfl : k' = k + 1 := by omega
  obtain ⟨y, he, hp⟩ := e2
  obtain ⟨h1, h2⟩ := P_le h k y hp
  have h3 : d w ≤ d y + 1 := (h.proc _ he h1).2
  refine ⟨y, he, ?_⟩
  rw [hw] at h3
  push_cast at h3
  omega
theorem DS.zero (h : DS n l t d) {w : Int} (hw : d w = 0) : w = t := by
  obtain ⟨k, e1, e2⟩ := h.lab w (by omega)
  obtain rfl : k = 0 := by omega
  exact e2
theorem nxt_spec {d : Int → Int} {vs : List Int} {k now : Int} (h : ∃ w ∈ vs, d w = k) : nxt d vs k now ∈ vs ∧ d (nxt d vs k now) = k := by
  unfold nxt
  cases e : vs.find? (fun v => decide (d v = k)) with
  | none =>
    obtain ⟨w, hw, h2⟩ := h
    have := List.find?_eq_none.1 e w hw
    simp [h2] at this
  | some x => exact ⟨List.mem_of_find?_eq_some e, by simpa using List.find?_some e⟩
theorem wlk_ch (hok : OkE n l) (h : DS n l t d) : ∀ (k : Nat) (now : Int) (out : List Int), (0 ≤ now ∧ now < n) → (k = 0 ∨ ∃ w ∈ sc l now, d w = (k : Int)) → ∃ ws, wlk (gr n l) d k now out = out ++ ws ∧ CH l d now k ws
  | 0, now, out, _, _ => ⟨[], by rw [wlk, List.append_nil], trivial⟩
  | k + 1, now, out, hn, hw => by
    have hw' : ∃ w ∈ sc l now, d w = ((k + 1 : Nat) : Int) := by
      rcases hw with hw | hw
      · omega
      · exact hw
    obtain ⟨h1, h2⟩ := nxt_spec (now := now) hw'
    have he := sc_mem.1 h1
    have hr := hok.v _ he
    rw [wlk, suc_gr hn]
    obtain ⟨ws, e1, e2⟩ := wlk_ch hok h k (nxt d (sc l now) ((k + 1 : Nat) : Int) now) (out ++ [nxt d (sc l now) ((k + 1 : Nat) : Int) now]) hr (by
      rcases Nat.eq_zero_or_pos k with h0 | h0
      · exact .inl h0
      · right
        obtain ⟨y, hy1, hy2⟩ := h.down h2
        exact ⟨y, sc_mem.2 hy1, hy2⟩)
    exact ⟨nxt d (sc l now) ((k + 1 : Nat) : Int) now :: ws, by rw [e1, List.append_assoc]; rfl, he, h2, e2⟩
theorem CH.len : ∀ {k : Nat} {now : Int} {ws : List Int}, CH l d now k ws → ws.length = k
  | 0, _, [], _ => rfl
  | k + 1, _, w :: ws, ⟨_, _, h⟩ => by rw [List.length_cons, CH.len h]
  | 0, _, _ :: _, h => h.elim
  | _ + 1, _, [], h => h.elim
theorem CH.edge (h : DS n l t d) : ∀ {k : Nat} {now : Int} {ws : List Int}, CH l d now k ws → (k = 0 → (⟨now, t⟩ : Ed) ∈ l) → ∀ i (hi : i < (now :: ws).length) (hj : i < (ws ++ [t]).length), (⟨(now :: ws)[i], (ws ++ [t])[i]⟩ : Ed) ∈ l
  | 0, now, [], _, h0, i, hi, hj => by
    have : i = 0 := by simp at hi; omega
    subst this
    exact h0 rfl
  | k + 1, now, w :: ws, ⟨h1, h2, h3⟩, _, i, hi, hj => by
    cases i with
    | zero => exact h1
    | succ i =>
      have := CH.edge h h3 (fun e => by
        subst e
        obtain ⟨y, hy1, hy2⟩ := h.down h2
        have := h.zero (w := y) (by simpa using hy2)
        subst this; exact hy1) i (by simpa using hi) (by simpa using hj)
      simpa using this
  | 0, _, _ :: _, hc, _, _, _, _ => hc.elim
  | _ + 1, _, [], hc, _, _, _, _ => hc.elim
theorem CH.dist : ∀ {k : Nat} {now : Int} {ws : List Int}, CH l d now k ws → (∀ x ∈ ws, 1 ≤ d x ∧ d x ≤ (k : Int)) ∧ ws.Pairwise (fun a b => d b < d a)
  | 0, _, [], _ => ⟨by simp, List.Pairwise.nil⟩
  | k + 1, _, w :: ws, ⟨_, h2, h3⟩ => by
    obtain ⟨h4, h5⟩ := CH.dist h3
    refine ⟨fun x hx => ?_, List.pairwise_cons.2 ⟨fun x hx => ?_, h5⟩⟩
    · rcases List.mem_cons.1 hx with rfl | hx
      · omega
      · have := h4 x hx; push_cast; omega
    · have := h4 x hx
      push_cast at h2; omega
  | 0, _, _ :: _, hc => hc.elim
  | _ + 1, _, [], hc => hc.elim
theorem CH.at : ∀ {k : Nat} {now : Int} {ws : List Int}, CH l d now k ws → ∀ i (hi : i < ws.length), d ws[i] = ((k - i : Nat) : Int)
  | k + 1, _, w :: ws, ⟨_, h2, h3⟩, i, hi => by
    cases i with
    | zero => simpa using h2
    | succ i => have := CH.at h3 i (by simpa using hi); simp only [List.getElem_cons_succ]; rw [this]; congr 1; omega
  | 0, _, [], _, i, hi => by simp at hi
  | 0, _, _ :: _, hc, _, _ => hc.elim
  | _ + 1, _, [], hc, _, _ => hc.elim
end
theorem lst_spec {d : Int → Int} (vs : List Int) (h : 0 ≤ lst d vs) : (∃ v ∈ vs, d v = lst d vs) ∧ ∀ v ∈ vs, 0 ≤ d v → lst d vs ≤ d v := by
  have key : ∀ (vs : List Int) (m : Int), (vs.foldl (lsF d) m = m ∨ ∃ v ∈ vs, d v = vs.foldl (lsF d) m) ∧ (0 ≤ m → 0 ≤ vs.foldl (lsF d) m ∧ vs.foldl (lsF d) m ≤ m) ∧ ∀ v ∈ vs, 0 ≤ d v → 0 ≤ vs.foldl (lsF d) m ∧ vs.foldl (lsF d) m ≤ d v := by
    intro vs
    induction vs with
    | nil => intro m; exact ⟨.inl rfl, fun h => ⟨h, Int.le_refl _⟩, by simp⟩
    | cons v vs ih =>
      intro m
      obtain ⟨i1, i2, i3⟩ := ih (lsF d m v)
      rw [List.foldl_cons]
      have hF : lsF d m v = m ∨ lsF d m v = d v := by unfold lsF; split <;> simp
      have hF2 : 0 ≤ m → 0 ≤ lsF d m v ∧ lsF d m v ≤ m := fun h => by unfold lsF; split <;> omega
      have hF3 : 0 ≤ d v → 0 ≤ lsF d m v ∧ lsF d m v ≤ d v := fun h => by unfold lsF; split <;> omega
      refine ⟨?_, fun h => ?_, fun w hw h => ?_⟩
      · rcases i1 with e | ⟨w, hw, e⟩
        · rcases hF with e2 | e2
          · left; rw [e, e2]
          · right; exact ⟨v, by simp, by rw [e, e2]⟩
        · right; exact ⟨w, by simp [hw], e⟩
      · have h1 := hF2 h
        have h2 := i2 h1.1
        omega
      · rcases List.mem_cons.1 hw with rfl | hw
        · have h1 := hF3 h
          have h2 := i2 h1.1
          omega
        · exact i3 w hw h
  obtain ⟨k1, k2, k3⟩ := key vs (-1)
  have e : lst d vs = vs.foldl (lsF d) (-1) := rfl
  rw [e] at h ⊢
  refine ⟨?_, fun v hv h2 => (k3 v hv h2).2⟩
  rcases k1 with k1 | k1
  · omega
  · exact k1
theorem best_spec (A : Int → List Int) : ∀ k : Nat, 0 < (best A k).length → ∃ u : Nat, u < k ∧ best A k = A (u : Int) ∧ (∀ w : Nat, w < k → 0 < (A (w : Int)).length → (best A k).length ≤ (A (w : Int)).length) ∧ ∀ w : Nat, w < u → 0 < (A (w : Int)).length → (best A k).length < (A (w : Int)).length
  | 0, h => by simp [best] at h
  | k + 1, h => by
    have hp := best_pos A k
    rw [best] at h ⊢
    split at h
    · rename_i hc
      rw [if_pos hc]
      refine ⟨k, by omega, rfl, fun w hw h2 => ?_, fun w hw h2 => ?_⟩
      · by_cases e : w = k
        · subst e; exact Nat.le_refl _
        · have h3 := hp.2 ⟨w, by omega, h2⟩
          obtain ⟨u, hu, e1, e2, e3⟩ := best_spec A k h3
          have := e2 w (by omega) h2
          omega
      · have h3 := hp.2 ⟨w, hw, h2⟩
        obtain ⟨u, hu, e1, e2, e3⟩ := best_spec A k h3
        have := e2 w hw h2
        omega
    · rename_i hc
      rw [if_neg hc]
      obtain ⟨u, hu, e1, e2, e3⟩ := best_spec A k h
      refine ⟨u, by omega, e1, fun w hw h2 => ?_, e3⟩
      by_cases e : w = k
      · subst e
        have : ¬ ((best A w).length = 0 ∨ (A (w : Int)).length < (best A w).length) := fun hh => hc ⟨h2, hh⟩
        omega
      · exact e2 w (by omega) h2
/-- A closed walk of k + 1 edges through u. -/
theorem around_le {n : Int} {l : List Ed} (h : chk n l = 0) {u y : Int} {k : Nat} (he : (⟨u, y⟩ : Ed) ∈ l) (hp : P l u k y) : 0 < (around (gr n l) u).length ∧ (around (gr n l) u).length ≤ k + 1 := by
  have hu : 0 ≤ u ∧ u < n := (okE h).u _ he
  have hd := dist_ds (okE h) hu
  obtain ⟨h1, h2⟩ := P_le hd k y hp
  have h3 := (lst_pos (d := dist (gr n l) u) (sc l u)).2 ⟨y, sc_mem.2 he, h1⟩
  have h4 := (lst_spec _ h3).2 y (sc_mem.2 he) h1
  rw [around_len, suc_gr hu, if_neg (by omega)]
  omega
structure CY (n : Int) (l : List Ed) (c : List Int) : Prop where
  edge : ∀ i (h : i < c.length) (h2 : (i + 1) % c.length < c.length), (⟨c[i], c[(i + 1) % c.length]⟩ : Ed) ∈ l
  new : ∀ i (h : i < c.length), c[i] ∉ c.take i
  low : ∀ i (h : i < c.length) (h0 : 0 < c.length), c[0] ≤ c[i]
  min : ∀ i r : Nat, 0 < r → r < c.length → ¬ P l (i : Int) r (i : Int)
theorem around_cy {n : Int} {l : List Ed} (h : chk n l = 0) {u : Int} (hu : 0 ≤ u ∧ u < n) (hp : 0 < (around (gr n l) u).length) :
    ∃ ws L, around (gr n l) u = u :: ws ∧ ws.length = L ∧ (∀ i (hi : i < (u :: ws).length) (hj : i < (ws ++ [u]).length), (⟨(u :: ws)[i], (ws ++ [u])[i]⟩ : Ed) ∈ l) ∧ (u :: ws).Nodup ∧ ∀ i (hi : i < ws.length), P l u (L - i) ws[i] := by
  have hok := okE h
  have hd := dist_ds hok hu
  rw [around_len, suc_gr hu] at hp
  have h0 : 0 ≤ lst (dist (gr n l) u) (sc l u) := by
    split at hp
    · omega
    · omega
  obtain ⟨⟨v, hv, e⟩, _⟩ := lst_spec _ h0
  have hL : lst (dist (gr n l) u) (sc l u) = (((lst (dist (gr n l) u) (sc l u)).toNat : Nat) : Int) := (Int.toNat_of_nonneg h0).symm
  obtain ⟨ws, w1, w2⟩ := wlk_ch hok hd (lst (dist (gr n l) u) (sc l u)).toNat u [u] hu (.inr ⟨v, hv, by rw [← hL]; exact e⟩)
  have ha : around (gr n l) u = u :: ws := by
    unfold around
    rw [suc_gr hu, if_neg (by omega), w1]; rfl
  refine ⟨ws, _, ha, w2.len, ?_, ?_, ?_⟩
  · refine w2.edge hd (fun e0 => ?_)
    have : dist (gr n l) u v = 0 := by rw [e]; omega
    have := hd.zero this
    subst this; exact sc_mem.1 hv
  · obtain ⟨d1, d2⟩ := w2.dist
    rw [List.nodup_cons]
    refine ⟨fun hm => ?_, d2.imp fun hlt e => ?_⟩
    · have := (d1 u hm).1
      rw [hd.self] at this; omega
    · subst e; omega
  · intro i hi
    obtain ⟨k, e1, e2⟩ := hd.lab ws[i] (by rw [w2.at i hi]; omega)
    have := w2.at i hi
    obtain rfl : k = (lst (dist (gr n l) u) (sc l u)).toNat - i := by omega
    exact e2
theorem cyc_law {n : Int} {l : List Ed} (h : chk n l = 0) (hc : cycE n l = 0) : 0 < (cycL n l).length ∧ CY n l (cycL n l) := by
  have hn := (okE h).nb
  have hL : cycL n l = best (around (gr n l)) n.toNat := by unfold cycL; rw [if_neg (by omega)]
  have hb : 0 < (best (around (gr n l)) n.toNat).length := by
    unfold cycE at hc
    rw [if_neg (by omega)] at hc
    split at hc
    · cases hc
    · omega
  obtain ⟨u, hu, e1, e2, e3⟩ := best_spec _ _ hb
  rw [hL]
  refine ⟨hb, ?_⟩
  have hur : 0 ≤ (u : Int) ∧ (u : Int) < n := by omega
  rw [e1] at hb
  obtain ⟨ws, L, a1, a2, a3, a4, a5⟩ := around_cy h hur hb
  have hlen : (best (around (gr n l)) n.toNat).length = L + 1 := by rw [e1, a1, List.length_cons, a2]
  rw [hlen] at e2 e3
  rw [e1, a1]
  have hfwd : ∀ i (hi : i < ((u : Int) :: ws).length), P l ((u : Int) :: ws)[i] i (u : Int) := by
    intro i
    induction i with
    | zero => intro hi; exact rfl
    | succ i ih =>
      intro hi
      have hi' : i < ((u : Int) :: ws).length := by omega
      have hj : i < (ws ++ [(u : Int)]).length := by simp at hi ⊢; omega
      have he := a3 i hi' hj
      have hii : i < ws.length := by simpa using hi
      have e4 : (ws ++ [(u : Int)])[i] = ((u : Int) :: ws)[i + 1] := by rw [List.getElem_append_left hii]; rfl
      rw [e4] at he
      exact P_snoc i _ _ _ (ih hi') he
  have hmin : ∀ i (hi : i < ((u : Int) :: ws).length), 0 < (around (gr n l) ((u : Int) :: ws)[i]).length ∧ (around (gr n l) ((u : Int) :: ws)[i]).length ≤ L + 1 := by
    intro i hi
    have hj : i < (ws ++ [(u : Int)]).length := by simp at hi ⊢; omega
    refine around_le h (a3 i hi hj) ?_
    by_cases e : i < ws.length
    · have e4 : (ws ++ [(u : Int)])[i] = ws[i] := List.getElem_append_left e
      rw [e4]
      have := P_trans (hfwd i hi) (L - i) _ (a5 i e)
      rw [show L - i + i = L by omega] at this
      exact this
    · have hi2 : i = L := by simp at hi; omega
      subst hi2
      have e4 : (ws ++ [(u : Int)])[i] = (u : Int) := by
        rw [List.getElem_append_right (by omega)]; simp
      rw [e4]; exact hfwd i hi
  refine ⟨fun i hi h2 => ?_, fun i hi => ?_, fun i hi h0 => ?_, fun i r h0 hr hp => ?_⟩
  · have hj : i < (ws ++ [(u : Int)]).length := by simp at hi ⊢; omega
    have he := a3 i hi hj
    have e4 : (ws ++ [(u : Int)])[i] = ((u : Int) :: ws)[(i + 1) % ((u : Int) :: ws).length] := by
      by_cases e : i < ws.length
      · rw [List.getElem_append_left e]
        have : (i + 1) % ((u : Int) :: ws).length = i + 1 := Nat.mod_eq_of_lt (by simp; omega)
        simp only [this]; rfl
      · have hi2 : i = ws.length := by simp at hi; omega
        have : (i + 1) % ((u : Int) :: ws).length = 0 := by rw [List.length_cons, hi2, Nat.mod_self]
        simp only [this]
        rw [List.getElem_append_right (by omega)]; simp
    rw [e4] at he; exact he
  · intro hm
    rw [List.mem_take_iff_getElem] at hm
    obtain ⟨j, hj, e⟩ := hm
    have := List.pairwise_iff_getElem.1 a4 j i (by omega) hi (by omega)
    exact this e
  · show (u : Int) ≤ ((u : Int) :: ws)[i]
    obtain ⟨m1, m2⟩ := hmin i hi
    refine Classical.byContradiction fun hlt => ?_
    have hrg : 0 ≤ ((u : Int) :: ws)[i] := by
      have hj : i < (ws ++ [(u : Int)]).length := by simp at hi ⊢; omega
      exact ((okE h).u _ (a3 i hi hj)).1
    have hw : ((((u : Int) :: ws)[i].toNat : Nat) : Int) = ((u : Int) :: ws)[i] := Int.toNat_of_nonneg hrg
    have := e3 ((u : Int) :: ws)[i].toNat (by omega) (by rw [hw]; exact m1)
    rw [hw] at this
    omega
  · obtain ⟨r, rfl⟩ : ∃ r0, r = r0 + 1 := ⟨r - 1, by omega⟩
    obtain ⟨w, he, hp2⟩ := hp
    obtain ⟨b1, b2⟩ := around_le h he hp2
    have hir := (okE h).u _ he
    have := e2 i (by simp only at hir; omega) b1
    rw [List.length_cons, a2] at hr
    omega
/-! ### a cycle or an order -/
theorem cyc_no_order {n : Int} {l : List Ed} (h : chk n l = 0) (hc : cycE n l = 0) : orderE n l = 21 := by
  by_cases ho : orderE n l = 0
  · exfalso
    have hto := order_to ho
    obtain ⟨u, hu, v, hv, hr⟩ := (cyc_iff h).1 hc
    have he := sc_mem.1 hv
    obtain ⟨k, hk⟩ := reach_P h ((okE h).v _ he) hr
    have key : ∀ (k : Nat) (v : Int), P l u k v → rks (gr n l) (orderL n l) v + k ≤ rks (gr n l) (orderL n l) u := by
      intro k
      induction k with
      | zero => rintro v e; cases e; simp
      | succ k ih =>
        rintro v ⟨w, hw, hp⟩
        have h1 := ih w hp
        have h2 := rks_lower hto hw ((okE h).u _ hw)
        simp only at h2
        push_cast; omega
    have h1 := key k v hk
    have h2 := rks_lower hto he ((okE h).u _ he)
    simp only at h2
    omega
  · exact (order_err h ho).1
theorem uns_leR {m : Nat} {s s' : Int → Bool} (h : ∀ w : Int, (0 ≤ w ∧ w < (m : Int)) → s w = true → s' w = true) : uns m s' ≤ uns m s := by
  unfold uns
  refine List.countP_mono_left fun j hm hj => ?_
  have := List.mem_range.1 hm
  simp only [Bool.not_eq_true'] at hj ⊢
  cases e : s (j : Int) with
  | false => rfl
  | true => rw [h _ (by omega) e] at hj; cases hj
theorem order_or {n : Int} {l : List Ed} (h : chk n l = 0) (hc : cycE n l ≠ 0) : cycE n l = 7 ∧ cycL n l = [] ∧ orderE n l = 0 := by
  have hn := (okE h).nb
  have h0 : ¬ (chk n l ≠ 0) := by omega
  have hno : ∀ u, ¬ onCyc n l u := fun u hu => hc ((cyc_iff h).2 ⟨u, hu⟩)
  have h7 : cycE n l = 7 ∧ cycL n l = [] := by
    unfold cycE cycL at *
    rw [if_neg h0] at hc ⊢
    rw [if_neg h0]
    split at hc
    · rename_i hb; rw [if_pos hb]; exact ⟨rfl, List.eq_nil_of_length_eq_zero hb⟩
    · exact absurd rfl hc
  refine ⟨h7.1, h7.2, ?_⟩
  have hfree : ∀ out : List Int, out.length < n.toNat → ∃ y, (0 ≤ y ∧ y < n) ∧ frB l out y = true := by
    intro out hout
    refine Classical.byContradiction fun hcon => ?_
    have hall : ∀ y, (0 ≤ y ∧ y < n) → y ∉ out → ∃ z ∈ l, z.v = y ∧ z.u ∉ out := fun y hy hyo => Classical.byContradiction fun hz => hcon ⟨y, hy, frB_iff.2 ⟨hyo, fun z hz1 hz2 => Classical.byContradiction fun hz3 => hz ⟨z, hz1, hz2, hz3⟩⟩⟩
    have hnone : ∀ (m : Nat) (y : Int), uns n.toNat (fun w => !rS n l w y) ≤ m → (0 ≤ y ∧ y < n) → y ∈ out := by
      intro m
      induction m with
      | zero =>
        intro y hm hy
        exfalso
        have := uns_upd (m := n.toNat) (s := fun w => !rS n l w y) (u := y) ⟨hy.1, by omega⟩ (by simp [rS_self h hy])
        omega
      | succ m ih =>
        intro y hm hy
        refine Classical.byContradiction fun hyo => ?_
        obtain ⟨z, hz1, hz2, hz3⟩ := hall y hy hyo
        have hzr := (okE h).u z hz1
        have h1 := uns_upd (m := n.toNat) (s := fun w => !rS n l w y) (u := y) ⟨hy.1, by omega⟩ (by simp [rS_self h hy])
        have h2 : uns n.toNat (fun w => !rS n l w z.u) ≤ uns n.toNat (upd (fun w => !rS n l w y) y true) := by
          refine uns_leR fun w hwm hw => ?_
          unfold upd at hw
          show (!rS n l w z.u) = true
          rw [Bool.not_eq_true']
          cases e : rS n l w z.u with
          | false => rfl
          | true =>
            exfalso
            split at hw
            · rename_i hwy
              subst hwy
              exact hno z.u ⟨hzr, w, sc_mem.2 (by rw [← hz2]; exact hz1), e⟩
            · have hwr : 0 ≤ w ∧ w < n := by omega
              have := rS_trans h hwr e ((rS_re h hzr).cl z hz1 (rS_self h hzr))
              rw [hz2] at this
              have hw2 : (!rS n l w y) = true := hw
              rw [this] at hw2; cases hw2
        exact hz3 (ih z.u (by omega) hzr)
    have h2 := len_le_of_sub (a := (List.range n.toNat).map (fun (j : Nat) => (j : Int))) (b := out) (by
      unfold List.Nodup
      rw [List.pairwise_map]
      exact (List.nodup_range (n := n.toNat)).imp (fun h e => h (by omega))) (fun w hw => by
      obtain ⟨j, hj, rfl⟩ := List.mem_map.1 hw
      have := List.mem_range.1 hj
      exact hnone _ _ (Nat.le_refl _) (by omega))
    simp at h2
    omega
  have hord : ∀ (f : Nat) (op : Int → Int) (out : List Int), OI l op out → out.length + f = n.toNat → (ord (gr n l) f op out).isSome = true := by
    intro f
    induction f with
    | zero => intro op out _ _; rfl
    | succ f ih =>
      intro op out hi hl
      obtain ⟨y, hy, hf⟩ := hfree out (by omega)
      have hz := (hi.zero y).2 hf
      rw [ord]
      split
      · rename_i hp
        have hp' : pick n.toNat op < 0 := hp
        exact absurd hz (pick_neg hp' y hy.1 (by omega))
      · rename_i hp
        have hp' : ¬ pick n.toNat op < 0 := hp
        obtain ⟨p1, p2⟩ := pick_spec (Int.not_lt.1 hp')
        have hlt := pick_lt (Int.not_lt.1 hp')
        have hsuc : suc (gr n l) (pick n.toNat op) = sc l (pick n.toNat op) := suc_gr ⟨Int.not_lt.1 hp', by omega⟩
        have hi2 := hi.next p1
        rw [← hsuc] at hi2
        exact ih _ _ hi2 (by rw [List.length_append, List.length_singleton]; omega)
  have hs := hord n.toNat (deg l) [] ⟨fun j _ => (degO_nil l j).symm, by simp⟩ (by simp)
  unfold orderE
  rw [if_neg h0]
  have hs' : (ordO n l).isSome = true := hs
  rw [if_pos hs']
/-! ### nodes that are reached by a number of edges -/
def nF (now : List Int) (f : List Int) (e : Ed) : List Int := if e.u ∈ now ∧ e.v ∉ f then f ++ [e.v] else f
def nIt (l : List Ed) (i : Int) : Nat → List Int
  | 0 => [i]
  | r + 1 => l.foldl (nF (nIt l i r)) []
theorem nF_in {now : List Int} : ∀ (l : List Ed) (f : List Int) (w : Int), w ∈ l.foldl (nF now) f → w ∈ f ∨ ∃ e ∈ l, e.u ∈ now ∧ e.v = w
  | [], f, w, h => .inl h
  | e :: l, f, w, h => by
    rcases nF_in l _ w h with h | ⟨x, hx, h⟩
    · unfold nF at h
      split at h
      · rename_i hc
        rcases List.mem_append.1 h with h | h
        · exact .inl h
        · exact .inr ⟨e, by simp, hc.1, (List.mem_singleton.1 h).symm⟩
      · exact .inl h
    · exact .inr ⟨x, by simp [hx], h⟩
theorem nIt_P {l : List Ed} {i : Int} : ∀ (r : Nat) (w : Int), w ∈ nIt l i r → P l w r i
  | 0, w, h => (List.mem_singleton.1 h).symm
  | r + 1, w, h => by
    rcases nF_in l [] w h with h | ⟨e, he, h1, rfl⟩
    · cases h
    · exact P_snoc r _ _ _ (nIt_P r _ h1) he
theorem nF_len (now : List Int) : ∀ (l : List Ed) (f : List Int), (l.foldl (nF now) f).length ≤ f.length + l.length
  | [], f => Nat.le_refl _
  | e :: l, f => by
    have h1 := nF_len now l (nF now f e)
    have h2 : (nF now f e).length ≤ f.length + 1 := by unfold nF; split <;> simp
    rw [List.foldl_cons, List.length_cons]; omega
theorem nF_t {now f : List Int} {e : Ed} (h : 0 ≤ Wl.idxI now e.u ∧ ¬ 0 ≤ Wl.idxI f e.v) : f ++ [e.v] = nF now f e := by
  rw [Wl.idxI_mem, Wl.idxI_mem] at h; unfold nF; rw [if_pos h]
theorem nF_f {now f : List Int} {e : Ed} (h : ¬ (0 ≤ Wl.idxI now e.u ∧ ¬ 0 ≤ Wl.idxI f e.v)) : f = nF now f e := by
  rw [Wl.idxI_mem, Wl.idxI_mem] at h; unfold nF; rw [if_neg h]
end Dg
namespace Dg
theorem cyc_edge {n : Int} {l : List Ed} {c : List Int} (h : CY n l c) {i : Nat} (hi : i < c.length) (h2 : (i + 1) % c.length < c.length) : l.any (fun x => decide (x = ⟨c[i], c[(i + 1) % c.length]⟩)) = true := List.any_eq_true.2 ⟨_, h.edge i hi h2, decide_eq_true rfl⟩
theorem cyc_new {n : Int} {l : List Ed} {c : List Int} (h : CY n l c) {i : Nat} (hi : i < c.length) : ¬ 0 ≤ Wl.idxI (c.take i) c[i] := fun hm => h.new i hi ((Wl.idxI_mem _ _).1 hm)
theorem cyc_min {n : Int} {l : List Ed} {c : List Int} (h : CY n l c) {i r : Nat} (hr : r + 1 < c.length) : ¬ 0 ≤ Wl.idxI (nIt l (i : Int) (r + 1)) (i : Int) := fun hm => h.min i (r + 1) (by omega) hr (nIt_P (r + 1) _ ((Wl.idxI_mem _ _).1 hm))
theorem nIt_len (l : List Ed) (i : Int) (hl : l.length ≤ 40) : ∀ r, (nIt l i r).length ≤ 41
  | 0 => by simp [nIt]
  | r + 1 => by
    have := nF_len (nIt l i r) l []
    rw [nIt]; simp only [List.length_nil] at this; omega
theorem nF_step {l : List Ed} {k : Nat} (hk : k < l.length) (now : List Int) : (l.take (k + 1)).foldl (nF now) [] = nF now ((l.take k).foldl (nF now) []) l[k] := fold_succ (nF now) [] l hk
theorem cycL_bd (n : Int) (l : List Ed) : (cycL n l).length ≤ 202 := by
  unfold cycL
  split
  · exact Nat.zero_le _
  · rename_i h
    have hk : chk n l = 0 := by omega
    have hn := (okE hk).nb
    rcases Nat.eq_zero_or_pos (best (around (gr n l)) n.toNat).length with h0 | h0
    · omega
    · obtain ⟨u, hu, e, _⟩ := best_spec _ _ h0
      rw [e, around_len]
      split
      · omega
      · have := (lst_bd (fun j => (dist_bd (okG (okE hk)) (t := (u : Int)) ⟨by omega, by show (u : Int) < n; omega⟩ j).2) (by omega : (0 : Int) ≤ 201) (suc (gr n l) (u : Int))).2
        omega
end Dg
