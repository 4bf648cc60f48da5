/- Directed graphs: the plain laws of what can be reached. No condition. -/
import Derived.Test.YtkaiilhpjmjnkaaM03
set_option linter.unusedVariables false
set_option linter.unusedSimpArgs false
namespace Dg
def Nw (g : Gr) (s s' : Int → Bool) : Prop := (∀ w, s w = true → s' w = true) ∧ ∀ w, s' w = true → s w = false → ∀ v ∈ suc g w, s' v = true
theorem Nw.refl (g : Gr) (s : Int → Bool) : Nw g s s := ⟨fun _ h => h, fun w h h2 => by rw [h] at h2; cases h2⟩
theorem Nw.trans {g : Gr} {a b c : Int → Bool} (h : Nw g a b) (k : Nw g b c) : Nw g a c := by
  refine ⟨fun w hw => k.1 w (h.1 w hw), fun w hw hn v hv => ?_⟩
  cases e : b w with
  | true => exact k.1 v (h.2 w e hn v hv)
  | false => exact k.2 w hw e v hv
theorem dfs_nw {g : Gr} (hg : OkG g) : ∀ (f : Nat) (s : Int → Bool) (u : Int), 0 ≤ u ∧ u < g.n → uns g.n.toNat s < f → Nw g s (dfs g f s u) ∧ dfs g f s u u = true
  | 0, s, u, _, h => absurd h (by omega)
  | f + 1, s, u, hu, h => by
    rw [dfs]
    split
    · rename_i hs; exact ⟨Nw.refl g s, hs⟩
    · rename_i hs
      have hs' : s u = false := by simpa using hs
      have hlt := uns_upd (m := g.n.toNat) (s := s) (u := u) ⟨hu.1, by omega⟩ hs'
      have key : ∀ (l : List Int) (s1 : Int → Bool), (∀ v ∈ l, 0 ≤ v ∧ v < g.n) → uns g.n.toNat s1 < f → Nw g s1 (l.foldl (fun s v => dfs g f s v) s1) ∧ ∀ v ∈ l, l.foldl (fun s v => dfs g f s v) s1 v = true := by
        intro l
        induction l with
        | nil => exact fun s1 _ _ => ⟨Nw.refl g s1, by simp⟩
        | cons a l ih =>
          intro s1 hl h1
          obtain ⟨k1, k2⟩ := dfs_nw hg f s1 a (hl a (by simp)) h1
          obtain ⟨j1, j2⟩ := ih (dfs g f s1 a) (fun v hv => hl v (by simp [hv])) (Nat.lt_of_le_of_lt (uns_le k1.1) h1)
          refine ⟨k1.trans j1, fun v hv => ?_⟩
          rcases List.mem_cons.1 hv with rfl | hv
          · exact j1.1 _ k2
          · exact j2 v hv
      obtain ⟨k1, k2⟩ := key (suc g u) (upd s u true) (hg.row u).2 (by omega)
      have hu1 : upd s u true u = true := by unfold upd; rw [if_pos rfl]
      refine ⟨⟨fun w hw => k1.1 w (upd_mono hw), fun w hw hn v hv => ?_⟩, k1.1 u hu1⟩
      by_cases e : w = u
      · subst e; exact k2 v hv
      · exact k1.2 w hw (by unfold upd; rw [if_neg e]; exact hn) v hv
theorem dfs_in {g : Gr} {C : Int → Prop} (hC : ∀ w, C w → ∀ v ∈ suc g w, C v) : ∀ (f : Nat) (s : Int → Bool) (u : Int), (∀ w, s w = true → C w) → C u → ∀ w, dfs g f s u w = true → C w
  | 0, s, u, h, _, w, hw => h w hw
  | f + 1, s, u, h, hu, w, hw => by
    rw [dfs] at hw
    split at hw
    · exact h w hw
    · have key : ∀ (l : List Int) (s1 : Int → Bool), (∀ w, s1 w = true → C w) → (∀ v ∈ l, C v) → ∀ w, l.foldl (fun s v => dfs g f s v) s1 w = true → C w := by
        intro l
        induction l with
        | nil => exact fun s1 h _ w hw => h w hw
        | cons a l ih => exact fun s1 h hl w hw => ih (dfs g f s1 a) (dfs_in hC f s1 a h (hl a (by simp))) (fun v hv => hl v (by simp [hv])) w hw
      refine key (suc g u) (upd s u true) (fun x hx => ?_) (hC u hu) w hw
      unfold upd at hx
      split at hx
      · rename_i e; subst e; exact hu
      · exact h x hx
structure RS (g : Gr) (fs : List Int) (s : Int → Bool) : Prop where
  st : ∀ u ∈ fs, s u = true
  cl : ∀ w, s w = true → ∀ v ∈ suc g w, s v = true
  mn : ∀ C : Int → Prop, (∀ w, C w → ∀ v ∈ suc g w, C v) → (∀ u ∈ fs, C u) → ∀ w, s w = true → C w
theorem rchS_spec {g : Gr} (hg : OkG g) {fs : List Int} (hf : ∀ u ∈ fs, 0 ≤ u ∧ u < g.n) : RS g fs (rchS g fs) := by
  have key : ∀ (l : List Int) (s1 : Int → Bool), (∀ v ∈ l, 0 ≤ v ∧ v < g.n) → Nw g s1 (l.foldl (fun s v => dfs g (g.n.toNat + 1) s v) s1) ∧ ∀ v ∈ l, l.foldl (fun s v => dfs g (g.n.toNat + 1) s v) s1 v = true := by
    intro l
    induction l with
    | nil => exact fun s1 _ => ⟨Nw.refl g s1, by simp⟩
    | cons a l ih =>
      intro s1 hl
      obtain ⟨k1, k2⟩ := dfs_nw hg (g.n.toNat + 1) s1 a (hl a (by simp)) (Nat.lt_succ_of_le (uns_bd _ _))
      obtain ⟨j1, j2⟩ := ih (dfs g (g.n.toNat + 1) s1 a) (fun v hv => hl v (by simp [hv]))
      refine ⟨k1.trans j1, fun v hv => ?_⟩
      rcases List.mem_cons.1 hv with rfl | hv
      · exact j1.1 _ k2
      · exact j2 v hv
  obtain ⟨k1, k2⟩ := key fs (fun _ => false) hf
  refine ⟨k2, fun w hw => k1.2 w hw rfl, fun C hC hf' => ?_⟩
  have key2 : ∀ (l : List Int) (s1 : Int → Bool), (∀ w, s1 w = true → C w) → (∀ v ∈ l, C v) → ∀ w, l.foldl (fun s v => dfs g (g.n.toNat + 1) s v) s1 w = true → C w := by
    intro l
    induction l with
    | nil => exact fun s1 h _ w hw => h w hw
    | cons a l ih => exact fun s1 h hl w hw => ih (dfs g (g.n.toNat + 1) s1 a) (dfs_in hC _ s1 a h (hl a (by simp))) (fun v hv => hl v (by simp [hv])) w hw
  exact key2 fs (fun _ => false) (fun w h => by cases h) hf'
/-- What is reached from some nodes of a good graph. -/
structure RE (n : Int) (l : List Ed) (fs : List Int) (s : Int → Bool) : Prop where
  st : ∀ u ∈ fs, s u = true
  cl : ∀ e ∈ l, s e.u = true → s e.v = true
  mn : ∀ C : Int → Prop, (∀ e ∈ l, C e.u → C e.v) → (∀ u ∈ fs, C u) → ∀ w, s w = true → C w
  rg : ∀ w, s w = true → 0 ≤ w ∧ w < n
theorem rchS_re {n : Int} {l : List Ed} (h : chk n l = 0) {fs : List Int} (hf : ∀ u ∈ fs, 0 ≤ u ∧ u < n) : RE n l fs (rchS (gr n l) fs) := by
  have hok := okE h
  have hG := okG hok
  have hs := rchS_spec hG (fs := fs) hf
  have hrg : ∀ w, rchS (gr n l) fs w = true → 0 ≤ w ∧ w < n := fun w hw => hs.mn (fun w => 0 ≤ w ∧ w < n) (fun w _ v hv => (hG.row w).2 v hv) hf w hw
  refine ⟨hs.st, fun e he hu => ?_, fun C hC hf' w hw => ?_, hrg⟩
  · refine hs.cl e.u hu e.v ?_
    rw [suc_gr (hok.u e he)]; exact sc_mem.2 he
  · have := hs.mn (fun w => (0 ≤ w ∧ w < n) ∧ C w) (fun w ⟨hw, hc⟩ v hv => by
      have hv2 := (hG.row w).2 v hv
      rw [suc_gr hw] at hv
      exact ⟨hv2, hC _ (sc_mem.1 hv) hc⟩) (fun u hu => ⟨hf u hu, hf' u hu⟩) w hw
    exact this.2
theorem RE.eq {n : Int} {l : List Ed} {fs : List Int} {s s' : Int → Bool} (h : RE n l fs s) (h' : RE n l fs s') : s = s' := by
  funext w
  rw [Bool.eq_iff_iff]
  exact ⟨fun hw => h.mn (fun w => s' w = true) h'.cl h'.st w hw, fun hw => h'.mn (fun w => s w = true) h.cl h.st w hw⟩
theorem mk_mem {s : Int → Bool} {w : Int} : ∀ k : Nat, w ∈ mk s k ↔ (0 ≤ w ∧ w < k) ∧ s w = true
  | 0 => by simp [mk]; omega
  | k + 1 => by
    have ih := mk_mem (s := s) (w := w) k
    rw [mk]
    split
    · rename_i hs
      rw [List.mem_append, ih, List.mem_singleton]
      constructor
      · rintro (⟨⟨a, b⟩, c⟩ | rfl)
        · exact ⟨⟨a, by omega⟩, c⟩
        · exact ⟨⟨by omega, by omega⟩, hs⟩
      · rintro ⟨⟨a, b⟩, c⟩
        by_cases e : w = k
        · exact .inr e
        · exact .inl ⟨⟨a, by omega⟩, c⟩
    · rename_i hs
      rw [ih]
      constructor
      · rintro ⟨⟨a, b⟩, c⟩; exact ⟨⟨a, by omega⟩, c⟩
      · rintro ⟨⟨a, b⟩, c⟩
        refine ⟨⟨a, ?_⟩, c⟩
        have : w ≠ k := fun e => hs (e ▸ c)
        omega
theorem mk_sorted (s : Int → Bool) : ∀ k : Nat, (mk s k).Pairwise (· < ·)
  | 0 => List.Pairwise.nil
  | k + 1 => by
    rw [mk]
    split
    · rw [List.pairwise_append]
      refine ⟨mk_sorted s k, List.pairwise_singleton _ _, fun a ha b hb => ?_⟩
      rw [List.mem_singleton.1 hb]
      exact ((mk_mem k).1 ha).1.2
    · exact mk_sorted s k
theorem mk_nodup (s : Int → Bool) (k : Nat) : (mk s k).Nodup := (mk_sorted s k).imp (fun h => by omega)
def rS (n : Int) (l : List Ed) (u : Int) : Int → Bool := rchS (gr n l) [u]
theorem rS_re {n : Int} {l : List Ed} (h : chk n l = 0) {u : Int} (hu : 0 ≤ u ∧ u < n) : RE n l [u] (rS n l u) := rchS_re h (fun w hw => by rw [List.mem_singleton.1 hw]; exact hu)
theorem reach_eq {n : Int} {l : List Ed} (h : chk n l = 0) {u : Int} (hu : 0 ≤ u ∧ u < n) : reach n l u = mk (rS n l u) n.toNat := by unfold reach; rw [if_neg (by omega)]; rfl
theorem reach_mem {n : Int} {l : List Ed} (h : chk n l = 0) {u : Int} (hu : 0 ≤ u ∧ u < n) {w : Int} : w ∈ reach n l u ↔ rS n l u w = true := by
  rw [reach_eq h hu, mk_mem]
  exact ⟨fun h => h.2, fun hw => ⟨by have := (rS_re h hu).rg w hw; omega, hw⟩⟩
/-! ### found by rounds over the edges -/
def fnd (f : List Int) (e : Ed) : List Int := if e.u ∈ f ∧ e.v ∉ f then f ++ [e.v] else f
def fndR (l : List Ed) : Nat → List Int → List Int
  | 0, f => f
  | k + 1, f => l.foldl fnd (fndR l k f)
theorem fnd_sub (f : List Int) (e : Ed) : ∀ w ∈ f, w ∈ fnd f e := fun w hw => by unfold fnd; split <;> simp [hw]
theorem fold_sub : ∀ (l : List Ed) (f : List Int), ∀ w ∈ f, w ∈ l.foldl fnd f
  | [], f, w, hw => hw
  | e :: l, f, w, hw => fold_sub l _ w (fnd_sub f e w hw)
theorem fnd_len (f : List Int) (e : Ed) : f.length ≤ (fnd f e).length ∧ (fnd f e).length ≤ f.length + 1 := by unfold fnd; split <;> simp
theorem fold_len : ∀ (l : List Ed) (f : List Int), f.length ≤ (l.foldl fnd f).length ∧ (l.foldl fnd f).length ≤ f.length + l.length
  | [], f => by simp
  | e :: l, f => by
    have h1 := fnd_len f e
    have h2 := fold_len l (fnd f e)
    rw [List.foldl_cons, List.length_cons]; omega
theorem fndR_len (l : List Ed) (f : List Int) : ∀ k, (fndR l k f).length ≤ f.length + k * l.length
  | 0 => by simp [fndR]
  | k + 1 => by
    have h1 := fndR_len l f k
    have h2 := (fold_len l (fndR l k f)).2
    rw [fndR, Nat.succ_mul]; omega
theorem fnd_nodup {f : List Int} (h : f.Nodup) (e : Ed) : (fnd f e).Nodup := by
  unfold fnd; split
  · rename_i hc
    rw [List.nodup_append]
    refine ⟨h, by simp, fun a ha b hb e2 => ?_⟩
    rw [List.mem_singleton] at hb
    exact hc.2 (by rw [← hb, ← e2]; exact ha)
  · exact h
theorem fold_nodup : ∀ (l : List Ed) {f : List Int}, f.Nodup → (l.foldl fnd f).Nodup
  | [], f, h => h
  | e :: l, f, h => fold_nodup l (fnd_nodup h e)
theorem fndR_nodup (l : List Ed) {f : List Int} (h : f.Nodup) : ∀ k, (fndR l k f).Nodup
  | 0 => h
  | k + 1 => fold_nodup l (fndR_nodup l h k)
theorem fold_in {C : Int → Prop} : ∀ (l : List Ed) (f : List Int), (∀ e ∈ l, C e.u → C e.v) → (∀ w ∈ f, C w) → ∀ w ∈ l.foldl fnd f, C w
  | [], f, _, h => h
  | e :: l, f, hl, h => fold_in l _ (fun x hx => hl x (by simp [hx])) (fun w hw => by
      unfold fnd at hw
      split at hw
      · rename_i hc
        rcases List.mem_append.1 hw with hw | hw
        · exact h w hw
        · rw [List.mem_singleton.1 hw]; exact hl e (by simp) (h _ hc.1)
      · exact h w hw)
theorem fndR_in {C : Int → Prop} {l : List Ed} (hl : ∀ e ∈ l, C e.u → C e.v) {f : List Int} (h : ∀ w ∈ f, C w) : ∀ k, ∀ w ∈ fndR l k f, C w
  | 0 => h
  | k + 1 => fold_in l _ hl (fndR_in hl h k)
theorem fold_grow : ∀ (l : List Ed) (f : List Int), (∃ e ∈ l, e.u ∈ f ∧ e.v ∉ f) → f.length < (l.foldl fnd f).length
  | [], f, h => by obtain ⟨e, he, _⟩ := h; cases he
  | e :: l, f, h => by
    rw [List.foldl_cons]
    by_cases hc : e.u ∈ f ∧ e.v ∉ f
    · have h1 : (fnd f e).length = f.length + 1 := by unfold fnd; rw [if_pos hc]; simp
      have h2 := (fold_len l (fnd f e)).1
      omega
    · have h1 : fnd f e = f := by unfold fnd; rw [if_neg hc]
      rw [h1]
      obtain ⟨x, hx, hc2⟩ := h
      rcases List.mem_cons.1 hx with rfl | hx
      · exact absurd hc2 hc
      · exact fold_grow l f ⟨x, hx, hc2⟩
theorem fold_stay : ∀ (l : List Ed) (f : List Int), (∀ e ∈ l, e.u ∈ f → e.v ∈ f) → l.foldl fnd f = f
  | [], f, _ => rfl
  | e :: l, f, h => by
    have h1 : fnd f e = f := by unfold fnd; rw [if_neg (fun hc => hc.2 (h e (by simp) hc.1))]
    rw [List.foldl_cons, h1]
    exact fold_stay l f (fun x hx => h x (by simp [hx]))
theorem fndR_closed (l : List Ed) (f : List Int) : ∀ k, (∀ e ∈ l, e.u ∈ fndR l k f → e.v ∈ fndR l k f) ∨ f.length + k ≤ (fndR l k f).length
  | 0 => .inr (by simp [fndR])
  | k + 1 => by
    rcases fndR_closed l f k with h | h
    · left
      rw [fndR, fold_stay l _ h]; exact h
    · by_cases hc : ∃ e ∈ l, e.u ∈ fndR l k f ∧ e.v ∉ fndR l k f
      · right
        have := fold_grow l _ hc
        rw [fndR]; omega
      · left
        have hcl : ∀ e ∈ l, e.u ∈ fndR l k f → e.v ∈ fndR l k f := fun e he hu => Classical.byContradiction fun hv => hc ⟨e, he, hu, hv⟩
        rw [fndR, fold_stay l _ hcl]; exact hcl
theorem len_le_of_sub : ∀ {a b : List Int}, a.Nodup → (∀ w ∈ a, w ∈ b) → a.length ≤ b.length
  | [], b, _, _ => Nat.zero_le _
  | x :: a, b, hn, h => by
    rw [List.nodup_cons] at hn
    have hx := h x (by simp)
    have := len_le_of_sub (a := a) (b := b.erase x) hn.2 (fun w hw => by
      have hne : w ≠ x := fun e => hn.1 (e ▸ hw)
      exact (List.mem_erase_of_ne hne).2 (h w (by simp [hw])))
    have hl := List.length_erase_of_mem hx
    have hp := List.length_pos_of_mem hx
    rw [List.length_cons]; omega
theorem found_law {n : Int} {l : List Ed} (h : chk n l = 0) {u : Int} (hu : 0 ≤ u ∧ u < n) : (fndR l n.toNat [u]).length = (reach n l u).length := by
  have hre := rS_re h hu
  have hnd : (reach n l u).Nodup := by rw [reach_eq h hu]; exact mk_nodup _ _
  have h1 : ∀ w ∈ fndR l n.toNat [u], w ∈ reach n l u := fndR_in (fun e he hw => (reach_mem h hu).2 (hre.cl e he ((reach_mem h hu).1 hw))) (fun w hw => (reach_mem h hu).2 (hre.st w hw)) _
  have h0 := len_le_of_sub (fndR_nodup l (show [u].Nodup by simp) n.toNat) h1
  refine Nat.le_antisymm h0 (len_le_of_sub hnd fun w hw => ?_)
  have hcl : ∀ e ∈ l, e.u ∈ fndR l n.toNat [u] → e.v ∈ fndR l n.toNat [u] := by
    rcases fndR_closed l [u] n.toNat with hc | hc
    · exact hc
    · exfalso
      have := mk_len (rS n l u) n.toNat
      rw [← reach_eq h hu] at this
      simp only [List.length_singleton] at hc
      omega
  have hst : u ∈ fndR l n.toNat [u] := by
    have : ∀ k, u ∈ fndR l k [u] := fun k => by
      induction k with
      | zero => simp [fndR]
      | succ k ih => exact fold_sub l _ u ih
    exact this _
  exact hre.mn (fun w => w ∈ fndR l n.toNat [u]) hcl (fun x hx => by rw [List.mem_singleton.1 hx]; exact hst) w ((reach_mem h hu).1 hw)
end Dg
namespace Dg
theorem reach_cl {n : Int} {l : List Ed} (h : chk n l = 0) {u : Int} (hu : 0 ≤ u ∧ u < n) {e : Ed} (he : e ∈ l) (hi : 0 ≤ Wl.idxI (reach n l u) e.u) : 0 ≤ Wl.idxI (reach n l u) e.v := by
  rw [Wl.idxI_mem, reach_mem h hu] at hi ⊢
  exact (rS_re h hu).cl e he hi
theorem reach_self {n : Int} {l : List Ed} (h : chk n l = 0) {u : Int} (hu : 0 ≤ u ∧ u < n) : 0 ≤ Wl.idxI (reach n l u) u := (Wl.idxI_mem _ _).2 ((reach_mem h hu).2 ((rS_re h hu).st u (by simp)))
theorem sorted_get {L : List Int} (h : L.Pairwise (· < ·)) {i : Nat} (hi : i + 1 < L.length) : L[i] < L[i + 1] := List.pairwise_iff_getElem.1 h i (i + 1) (by omega) hi (by omega)
theorem reach_sorted (n : Int) (l : List Ed) (u : Int) : (reach n l u).Pairwise (· < ·) := by
  unfold reach
  split
  · exact List.Pairwise.nil
  · exact mk_sorted _ _
theorem reach_len (n : Int) (l : List Ed) (u : Int) : (reach n l u).length ≤ n.toNat := by
  unfold reach
  split
  · exact Nat.zero_le _
  · exact mk_len _ _
theorem fnd_t {f : List Int} {e : Ed} (h : 0 ≤ Wl.idxI f e.u ∧ ¬ 0 ≤ Wl.idxI f e.v) : f ++ [e.v] = fnd f e := by
  rw [Wl.idxI_mem, Wl.idxI_mem] at h; unfold fnd; rw [if_pos h]
theorem fnd_f {f : List Int} {e : Ed} (h : ¬ (0 ≤ Wl.idxI f e.u ∧ ¬ 0 ≤ Wl.idxI f e.v)) : f = fnd f e := by
  rw [Wl.idxI_mem, Wl.idxI_mem] at h; unfold fnd; rw [if_neg h]
theorem fnd_step {l : List Ed} {k : Nat} (hk : k < l.length) (F : List Int) : (l.take (k + 1)).foldl fnd F = fnd ((l.take k).foldl fnd F) l[k] := fold_succ fnd F l hk
theorem fnd_bd (l : List Ed) (u : Int) (k j : Nat) (h : l.length ≤ 40) : ((l.take j).foldl fnd (fndR l k [u])).length ≤ 1 + k * 40 + 40 := by
  have h1 := (fold_len (l.take j) (fndR l k [u])).2
  have h2 := fndR_len l [u] k
  have h3 : k * l.length ≤ k * 40 := Nat.mul_le_mul_left k h
  rw [List.length_take] at h1
  simp only [List.length_singleton] at h2
  omega
end Dg
