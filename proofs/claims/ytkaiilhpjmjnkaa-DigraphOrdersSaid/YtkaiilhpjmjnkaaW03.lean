/- Directed graphs: the plain laws of distances and cycles. No condition. -/
import Derived.Test.YtkaiilhpjmjnkaaV03
import Derived.Test.YtkaiilhpjmjnkaaT03
set_option linter.unusedVariables false
set_option linter.unusedSimpArgs false
namespace Dg
/-- A path of k edges from a node to t. -/
def P (l : List Ed) (t : Int) : Nat → Int → Prop
  | 0, v => v = t
  | k + 1, v => ∃ w, (⟨v, w⟩ : Ed) ∈ l ∧ P l t k w
structure BQ (l : List Ed) (B : Int → List Int) (t : Int) (x : BS) : Prop where
  lab : ∀ j, 0 ≤ x.1 j → ∃ k : Nat, x.1 j = k ∧ P l t k j
  proc : ∀ w, 0 ≤ x.1 w → w ∉ x.2 → ∀ u ∈ B w, 0 ≤ x.1 u ∧ x.1 u ≤ x.1 w + 1
  srt : x.2.Pairwise (fun a b => x.1 a ≤ x.1 b)
  top : ∀ q r, x.2 = q :: r → ∀ j, x.1 j ≤ x.1 q + 1
  self : 0 ≤ x.1 t
/-- Between: a round over the nodes that lead to q. -/
structure BR (l : List Ed) (B : Int → List Int) (t q : Int) (done : List Int) (x : BS) : Prop where
  lab : ∀ j, 0 ≤ x.1 j → ∃ k : Nat, x.1 j = k ∧ P l t k j
  proc : ∀ w, 0 ≤ x.1 w → w ∉ x.2 → ∀ u ∈ B w, 0 ≤ x.1 u ∧ x.1 u ≤ x.1 w + 1
  srt : x.2.Pairwise (fun a b => x.1 a ≤ x.1 b)
  top : ∀ j, x.1 j ≤ x.1 q + 1
  self : 0 ≤ x.1 t
  hq : 0 ≤ x.1 q ∧ ∃ r, x.2 = q :: r
  qs : ∀ u ∈ x.2, 0 ≤ x.1 u
  dn : ∀ u ∈ done, 0 ≤ x.1 u
theorem BR.see {l : List Ed} {B : Int → List Int} {t q : Int} {done : List Int} {x : BS} (h : BR l B t q done x) {u : Int} (hu : (⟨u, q⟩ : Ed) ∈ l) : BR l B t q (done ++ [u]) (seeF q x u) := by
  unfold seeF
  split
  · rename_i hlt
    have hqu : q ≠ u := fun e => by have := h.hq.1; subst e; omega
    have htu : t ≠ u := fun e => by have := h.self; subst e; omega
    have eo : ∀ j, j ≠ u → upd x.1 u (x.1 q + 1) j = x.1 j := fun j hj => by unfold upd; rw [if_neg hj]
    have eu : upd x.1 u (x.1 q + 1) u = x.1 q + 1 := by unfold upd; rw [if_pos rfl]
    have hle : ∀ j, x.1 j ≤ upd x.1 u (x.1 q + 1) j := fun j => by
      by_cases e : j = u
      · subst e; rw [eu]; have := h.hq.1; omega
      · rw [eo j e]; exact Int.le_refl _
    have hlu : ∀ j, 0 ≤ x.1 j → j ≠ u := fun j hj e => by subst e; omega
    refine ⟨fun j hj => ?_, fun w hw hn y hy => ?_, ?_, fun j => ?_, ?_, ⟨?_, ?_⟩, fun w hw => ?_, fun w hw => ?_⟩
    · by_cases e : j = u
      · subst e
        obtain ⟨k, e1, e2⟩ := h.lab q h.hq.1
        refine ⟨k + 1, ?_, q, hu, e2⟩
        show upd x.1 j (x.1 q + 1) j = ((k + 1 : Nat) : Int)
        rw [eu, e1]; push_cast; rfl
      · have hj' : 0 ≤ upd x.1 u (x.1 q + 1) j := hj
        rw [eo j e] at hj'
        obtain ⟨k, e1, e2⟩ := h.lab j hj'
        exact ⟨k, by show upd x.1 u (x.1 q + 1) j = _; rw [eo j e, e1], e2⟩
    · have hn' : w ∉ x.2 ++ [u] := hn
      rw [List.mem_append, List.mem_singleton, not_or] at hn'
      have hw' : 0 ≤ upd x.1 u (x.1 q + 1) w := hw
      rw [eo w hn'.2] at hw'
      obtain ⟨h1, h2⟩ := h.proc w hw' hn'.1 y hy
      show 0 ≤ upd x.1 u (x.1 q + 1) y ∧ upd x.1 u (x.1 q + 1) y ≤ upd x.1 u (x.1 q + 1) w + 1
      rw [eo y (hlu y h1), eo w hn'.2]; exact ⟨h1, h2⟩
    · show (x.2 ++ [u]).Pairwise (fun a b => upd x.1 u (x.1 q + 1) a ≤ upd x.1 u (x.1 q + 1) b)
      rw [List.pairwise_append]
      refine ⟨?_, List.pairwise_singleton _ _, fun a ha b hb => ?_⟩
      · refine h.srt.imp_of_mem fun {a b} ha hb hab => ?_
        rw [eo a (hlu a (h.qs a ha)), eo b (hlu b (h.qs b hb))]; exact hab
      · rw [List.mem_singleton.1 hb, eu, eo a (hlu a (h.qs a ha))]; exact h.top a
    · show upd x.1 u (x.1 q + 1) j ≤ upd x.1 u (x.1 q + 1) q + 1
      rw [eo q hqu]
      by_cases e : j = u
      · subst e; rw [eu]; exact Int.le_refl _
      · rw [eo j e]; exact h.top j
    · show 0 ≤ upd x.1 u (x.1 q + 1) t
      rw [eo t htu]; exact h.self
    · show 0 ≤ upd x.1 u (x.1 q + 1) q
      rw [eo q hqu]; exact h.hq.1
    · obtain ⟨r, hr⟩ := h.hq.2
      exact ⟨r ++ [u], by show x.2 ++ [u] = _; rw [hr]; rfl⟩
    · show 0 ≤ upd x.1 u (x.1 q + 1) w
      have hw' : w ∈ x.2 ++ [u] := hw
      rcases List.mem_append.1 hw' with hw' | hw'
      · have := h.qs w hw'; have := hle w; omega
      · rw [List.mem_singleton.1 hw', eu]; have := h.hq.1; omega
    · show 0 ≤ upd x.1 u (x.1 q + 1) w
      rcases List.mem_append.1 hw with hw' | hw'
      · have := h.dn w hw'; have := hle w; omega
      · rw [List.mem_singleton.1 hw', eu]; have := h.hq.1; omega
  · refine ⟨h.lab, h.proc, h.srt, h.top, h.self, h.hq, h.qs, fun w hw => ?_⟩
    rcases List.mem_append.1 hw with hw' | hw'
    · exact h.dn w hw'
    · rw [List.mem_singleton.1 hw']; omega
theorem BR.fold {l : List Ed} {B : Int → List Int} {t q : Int} : ∀ (us : List Int) {done : List Int} {x : BS}, BR l B t q done x → (∀ u ∈ us, (⟨u, q⟩ : Ed) ∈ l) → BR l B t q (done ++ us) (us.foldl (seeF q) x)
  | [], done, x, h, _ => by rw [List.append_nil]; exact h
  | u :: us, done, x, h, hu => by
    have := BR.fold us (h.see (hu u (by simp))) (fun w hw => hu w (by simp [hw]))
    rw [List.append_assoc] at this
    exact this
theorem bfs_ok {l : List Ed} {B : Int → List Int} {t : Int} {m : Nat} (hB : ∀ q, ∀ u ∈ B q, (0 ≤ u ∧ u < (m : Int)) ∧ (⟨u, q⟩ : Ed) ∈ l) : ∀ (f : Nat) (x : BS), BI m ((m + 1 : Nat) - (f : Int)) f x → BQ l B t x → BQ l B t (bfs B f x, [])
  | 0, (d, qs), hi, h => by
    have hn := hi.n
    have : qs = [] := by
      cases qs with
      | nil => rfl
      | cons a b => simp at hn
    subst this; exact h
  | f + 1, (d, []), hi, h => h
  | f + 1, (d, q :: qs), hi, h => by
    have h1 : d q + 1 ≤ ((m + 1 : Nat) : Int) - (f : Int) := by have := (hi.d q).2; simp only at this; push_cast at this ⊢; omega
    have h2 := hi.mono (c' := ((m + 1 : Nat) : Int) - (f : Int)) (by push_cast; omega)
    obtain ⟨k1, ⟨r', k2⟩, k3⟩ := h2.fold (B q) rfl h1 (fun u hu => (hB q u hu).1)
    have hr : BR l B t q [] (d, q :: qs) := ⟨h.lab, h.proc, h.srt, h.top q qs rfl, h.self, ⟨(hi.q q (by simp)).2, qs, rfl⟩, fun u hu => (hi.q u hu).2, by simp⟩
    have hf := BR.fold (B q) hr (fun u hu => (hB q u hu).2)
    rw [bfs]
    generalize hX : (B q).foldl (seeF q) (d, q :: qs) = X at k1 k2 k3 hf ⊢
    have hp := k1.pop k2
    rw [k2]
    refine bfs_ok hB f (X.1, r') hp ⟨hf.lab, fun w hw hn u hu => ?_, ?_, fun q' r hq' j => ?_, hf.self⟩
    · by_cases e : w = q
      · subst e
        exact ⟨hf.dn u (by simpa using hu), hf.top u⟩
      · exact hf.proc w hw (by rw [k2, List.mem_cons, not_or]; exact ⟨e, hn⟩) u hu
    · have := hf.srt
      rw [k2, List.pairwise_cons] at this
      exact this.2
    · have h3 := hf.srt
      have hq2 : r' = q' :: r := hq'
      rw [k2, hq2, List.pairwise_cons] at h3
      have h4 := h3.1 q' (by simp)
      have h5 := hf.top j
      show X.1 j ≤ X.1 q' + 1
      omega
structure DS (n : Int) (l : List Ed) (t : Int) (d : Int → Int) : Prop where
  lab : ∀ j, 0 ≤ d j → ∃ k : Nat, d j = k ∧ P l t k j
  proc : ∀ e ∈ l, 0 ≤ d e.v → 0 ≤ d e.u ∧ d e.u ≤ d e.v + 1
  self : d t = 0
  low : ∀ j, -1 ≤ d j
theorem P_le {n : Int} {l : List Ed} {t : Int} {d : Int → Int} (h : DS n l t d) : ∀ (k : Nat) (v : Int), P l t k v → 0 ≤ d v ∧ d v ≤ k
  | 0, v, e => by cases e; rw [h.self]; exact ⟨Int.le_refl _, Int.le_refl _⟩
  | k + 1, v, ⟨w, he, hp⟩ => by
    obtain ⟨h1, h2⟩ := P_le h k w hp
    obtain ⟨h3, h4⟩ := h.proc _ he h1
    refine ⟨h3, ?_⟩
    have h5 : d v ≤ d w + 1 := h4
    push_cast; omega
theorem DS.eq {n : Int} {l : List Ed} {t : Int} {d d' : Int → Int} (h : DS n l t d) (h' : DS n l t d') : d = d' := by
  funext j
  have a1 := h.low j
  have a2 := h'.low j
  by_cases c : 0 ≤ d j
  · obtain ⟨k, e1, e2⟩ := h.lab j c
    obtain ⟨b1, b2⟩ := P_le h' k j e2
    obtain ⟨k', e1', e2'⟩ := h'.lab j b1
    obtain ⟨c1, c2⟩ := P_le h k' j e2'
    omega
  · by_cases c' : 0 ≤ d' j
    · obtain ⟨k', e1', e2'⟩ := h'.lab j c'
      have := P_le h k' j e2'
      omega
    · omega
theorem dist_ds {n : Int} {l : List Ed} (hok : OkE n l) {t : Int} (ht : 0 ≤ t ∧ t < n) : DS n l t (dist (gr n l) t) := by
  have hm : ∀ q, ∀ u ∈ back (gr n l) n.toNat q, (0 ≤ u ∧ u < (n.toNat : Int)) ∧ (⟨u, q⟩ : Ed) ∈ l := fun q u hu => by
    obtain ⟨h1, h2⟩ := (back_mem (gr n l) n.toNat q u).1 hu
    rw [suc_gr (by omega)] at h2
    exact ⟨h1, sc_mem.1 h2⟩
  have hnb := hok.nb
  have hbi := (BI.start (m := n.toNat) (t := t) ⟨ht.1, by omega⟩).mono (c' := ((n.toNat + 1 : Nat) : Int) - ((n.toNat + 1 : Nat) : Int)) (by omega)
  have e0 : ∀ j, upd (fun _ => (-1 : Int)) t 0 j = if j = t then 0 else -1 := fun j => rfl
  have h0 : BQ l (back (gr n l) n.toNat) t (upd (fun _ => -1) t 0, [t]) := by
    refine ⟨fun j hj => ?_, fun w hw hn => ?_, List.pairwise_singleton _ _, fun q r hq j => ?_, ?_⟩
    · have hj' : 0 ≤ upd (fun _ => (-1 : Int)) t 0 j := hj
      rw [e0] at hj'
      split at hj'
      · rename_i e
        exact ⟨0, by show upd (fun _ => (-1 : Int)) t 0 j = _; rw [e0, if_pos e]; rfl, e⟩
      · omega
    · have hw' : 0 ≤ upd (fun _ => (-1 : Int)) t 0 w := hw
      rw [e0] at hw'
      split at hw'
      · rename_i e; subst e; exact absurd (List.mem_singleton.2 rfl) hn
      · omega
    · have : q = t := by cases hq; rfl
      subst this
      show upd (fun _ => (-1 : Int)) q 0 j ≤ upd (fun _ => (-1 : Int)) q 0 q + 1
      rw [e0, e0, if_pos rfl]; split <;> omega
    · show 0 ≤ upd (fun _ => (-1 : Int)) t 0 t
      rw [e0, if_pos rfl]; exact Int.le_refl _
  have h := bfs_ok hm (n.toNat + 1) _ hbi h0
  have hd : dist (gr n l) t = bfs (back (gr n l) n.toNat) (n.toNat + 1) (upd (fun _ => -1) t 0, [t]) := rfl
  rw [← hd] at h
  have hbd := dist_bd (okG hok) (t := t) ht
  have hpr : ∀ e ∈ l, 0 ≤ dist (gr n l) t e.v → 0 ≤ dist (gr n l) t e.u ∧ dist (gr n l) t e.u ≤ dist (gr n l) t e.v + 1 := fun e he hv => h.proc e.v hv (by simp) e.u ((back_mem _ _ _ _).2 ⟨by have := hok.u e he; omega, by rw [suc_gr (hok.u e he)]; exact sc_mem.2 he⟩)
  refine ⟨h.lab, hpr, ?_, fun j => (hbd j).1⟩
  have h1 : 0 ≤ dist (gr n l) t t := h.self
  -- no label grows: the start keeps 0
  have key : ∀ (f : Nat) (x : BS), x.1 t = 0 → bfs (back (gr n l) n.toNat) f x t = 0 := by
    intro f
    induction f with
    | zero => exact fun x hx => hx
    | succ f ih =>
      rintro ⟨d, qs⟩ hx
      cases qs with
      | nil => exact hx
      | cons q qs =>
        rw [bfs]
        refine ih _ ?_
        have hs : ∀ (us : List Int) (x : BS), x.1 t = 0 → (us.foldl (seeF q) x).1 t = 0 := by
          intro us
          induction us with
          | nil => exact fun x hx => hx
          | cons u us ih2 =>
            intro x hx
            refine ih2 _ ?_
            unfold seeF
            split
            · rename_i hlt
              show upd x.1 u (x.1 q + 1) t = 0
              unfold upd
              split
              · rename_i e; subst e; omega
              · exact hx
            · exact hx
        exact hs _ _ hx
  exact key _ _ (by show upd (fun _ => (-1 : Int)) t 0 t = 0; rw [e0, if_pos rfl])
theorem P_reach {n : Int} {l : List Ed} (h : chk n l = 0) {t : Int} : ∀ (k : Nat) (v : Int), (0 ≤ v ∧ v < n) → P l t k v → rS n l v t = true
  | 0, v, hv, e => by cases e; exact rS_self h hv
  | k + 1, v, hv, ⟨w, he, hp⟩ => by
    have hw := (okE h).v _ he
    exact rS_trans h hv ((rS_re h hv).cl _ he (rS_self h hv)) (P_reach h k w hw hp)
theorem reach_P {n : Int} {l : List Ed} (h : chk n l = 0) {v t : Int} (hv : 0 ≤ v ∧ v < n) (hr : rS n l v t = true) : ∃ k, P l t k v := by
  have hsnoc : ∀ (k : Nat) (a b c : Int), P l b k a → (⟨b, c⟩ : Ed) ∈ l → P l c (k + 1) a := by
    intro k
    induction k with
    | zero => rintro a b c e hbc; cases e; exact ⟨c, hbc, rfl⟩
    | succ k ih => rintro a b c ⟨w, he, hp⟩ hbc; exact ⟨w, he, ih w b c hp hbc⟩
  exact (rS_re h hv).mn (fun w => ∃ k, P l w k v) (fun e he ⟨k, hk⟩ => ⟨k + 1, hsnoc k v e.u e.v hk he⟩) (fun u hu => ⟨0, by rw [List.mem_singleton.1 hu]; rfl⟩) t hr
theorem dist_reach {n : Int} {l : List Ed} (h : chk n l = 0) {t v : Int} (ht : 0 ≤ t ∧ t < n) (hv : 0 ≤ v ∧ v < n) : 0 ≤ dist (gr n l) t v ↔ rS n l v t = true := by
  have hd := dist_ds (okE h) ht
  constructor
  · intro hp
    obtain ⟨k, _, hk⟩ := hd.lab v hp
    exact P_reach h k v hv hk
  · intro hr
    obtain ⟨k, hk⟩ := reach_P h hv hr
    exact (P_le hd k v hk).1
end Dg
