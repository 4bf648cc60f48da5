/- Own arrays by what stands at each place. For every program. No condition. -/
import Derived.Test.YtjjgchblmejooaaK0
set_option linter.unusedVariables false
set_option linter.unusedSimpArgs false
namespace Go.Aw
/-- The cells of an array of m values of one cell each. -/
def ea (m : Nat) (f : Int → AV) : List AV := (List.range m).map (fun (j : Nat) => f (j : Int))
theorem ea_len (m : Nat) (f : Int → AV) : (ea m f).length = m := by simp [ea]
theorem ea_congr {m : Nat} {f g : Int → AV} (h : ∀ j : Int, 0 ≤ j ∧ j < m → f j = g j) : ea m f = ea m g := by
  unfold ea
  refine List.map_congr_left fun j hj => ?_
  have := List.mem_range.1 hj
  rw [h j (by omega)]
theorem ea_make (m : Nat) (v : Value) : (List.replicate m (List.map AV.val [v])).flatten = ea m (fun _ => .val v) := by
  refine List.ext_getElem (by simp [List.length_flatten, ea]) fun i h1 h2 => ?_
  simp [ea] at h1 h2 ⊢
theorem ea_getN {m : Nat} (f : Int → AV) {t : Nat} (h : t < m) : (ea m f)[0 + t * 1]? = some (f t) := by
  rw [Nat.zero_add, Nat.mul_one, ea, List.getElem?_map, List.getElem?_range h]; rfl
theorem ea_get {m : Nat} (f : Int → AV) {t : Int} (h : 0 ≤ t ∧ t < m) : (ea m f)[0 + t.toNat * 1]? = some (f t) := by
  rw [ea_getN f (by omega), Int.toNat_of_nonneg h.1]
theorem ea_set {m : Nat} (f : Int → AV) {t : Int} (v : AV) (h : 0 ≤ t ∧ t < m) : setMany (ea m f) (0 + t.toNat * 1) [v] = ea m (fun j => if j = t then v else f j) := by
  have hl : (setMany (ea m f) (0 + t.toNat * 1) [v]).length = m := by rw [setMany_len (by simp [ea_len]; omega), ea_len]
  refine List.ext_getElem? fun j => ?_
  rcases Nat.lt_or_ge j m with hj | hj
  · have e1 := ea_getN (fun j => if j = t then v else f j) hj
    have e0 := ea_getN f hj
    rw [Nat.zero_add, Nat.mul_one] at e1 e0
    rw [e1, Nat.zero_add, Nat.mul_one]
    have hn : (List.take t.toNat (ea m f)).length = t.toNat := by rw [List.length_take, ea_len]; omega
    unfold setMany
    rcases Nat.lt_trichotomy j t.toNat with h1 | h1 | h1
    · rw [List.append_assoc, List.getElem?_append_left (by omega), List.getElem?_take_of_lt h1, e0, if_neg (by omega)]
    · subst h1
      rw [List.append_assoc, List.getElem?_append_right (by omega), hn, Nat.sub_self, if_pos (by omega)]; rfl
    · rw [List.getElem?_append_right (by simp only [List.length_append, hn, List.length_singleton]; omega)]
      simp only [List.length_append, hn, List.length_singleton, List.getElem?_drop]
      rw [show t.toNat + 1 + (j - (t.toNat + 1)) = j by omega, e0, if_neg (by omega)]
  · rw [List.getElem?_eq_none (by omega), List.getElem?_eq_none (by simp [ea_len]; omega)]
theorem ea_setN {m : Nat} (f : Int → AV) {t : Nat} (v : AV) (h : t < m) : setMany (ea m f) (0 + t * 1) [v] = ea m (fun j => if j = (t : Int) then v else f j) := by
  have := ea_set (m := m) f (t := (t : Int)) v ⟨by omega, by omega⟩
  rwa [Int.toNat_natCast] at this
theorem ea_row {α : Type} (enc : α → AV) (m : Nat) (s : Int → α) : (((List.range m).map (fun (j : Nat) => s (j : Int))).map (fun b => [enc b])).flatten = ea m (fun j => enc (s j)) := by
  unfold ea
  rw [List.map_map]
  induction List.range m with
  | nil => rfl
  | cons a l ih => simp only [List.map_cons, List.flatten_cons, ih]; rfl
theorem ImpL.of_eq {a b : List AV} (h : a = b) : ImpL a b := h ▸ ImpL.refl a
theorem ea_imp {m : Nat} {f g : Int → AV} (h : ∀ j : Int, 0 ≤ j ∧ j < m → (f j).Imp (g j)) : ImpL (ea m f) (ea m g) := by
  unfold ea
  have key : ∀ l : List Nat, (∀ j ∈ l, j < m) → ImpL (l.map (fun (j : Nat) => f (j : Int))) (l.map (fun (j : Nat) => g (j : Int))) := by
    intro l
    induction l with
    | nil => exact fun _ => .nil
    | cons a l ih => exact fun hl => .cons (h _ (by have := hl a (by simp); omega)) (ih (fun j hj => hl j (by simp [hj])))
  exact key _ (fun j hj => List.mem_range.1 hj)
def bl {α : Type} (m : Nat) (s : Int → α) : List α := (List.range m).map (fun (j : Nat) => s (j : Int))
theorem bl_len {α : Type} (m : Nat) (s : Int → α) : (bl m s).length = m := by simp [bl]
theorem bl_get {α : Type} (m : Nat) (s : Int → α) (k : Nat) (h : k < (bl m s).length) : (bl m s)[k] = s (k : Int) := by simp [bl]
theorem bl_getD {α : Type} (m : Nat) (s : Int → α) (k : Nat) (d : α) (h : k < m) : (bl m s).getD k d = s (k : Int) := by simp [bl, List.getD, h]
/-! ### The spare rooms of many growing slices -/
def tails (m : Nat) (T : Int → Option Nat) : List Item := (List.range m).map (fun (j : Nat) => .tail (T (j : Int)))
def tailsX (m u : Nat) (T : Int → Option Nat) : List Item := ((List.range m).filter (fun j => decide (j ≠ u))).map (fun (j : Nat) => .tail (T (j : Int)))
theorem perm_out {u : Nat} : ∀ l : List Nat, l.Nodup → u ∈ l → l.Perm (u :: l.filter (fun j => decide (j ≠ u)))
  | [], _, h => by cases h
  | a :: l, hn, h => by
    rw [List.nodup_cons] at hn
    by_cases e : a = u
    · subst e
      rw [List.filter_cons_of_neg (by simp), List.filter_eq_self.2 (fun x hx => by simp; rintro rfl; exact hn.1 hx)]
    · have hm : u ∈ l := by
        rcases List.mem_cons.1 h with h | h
        · exact absurd h.symm e
        · exact h
      rw [List.filter_cons_of_pos (by simpa using e)]
      exact ((perm_out l hn.2 hm).cons a).trans (List.Perm.swap _ _ _)
theorem tails_perm {m u : Nat} (T : Int → Option Nat) (h : u < m) : (tails m T).Perm (.tail (T u) :: tailsX m u T) :=
  (perm_out (List.range m) List.nodup_range (List.mem_range.2 h)).map _
theorem tailsX_upd {m u : Nat} (T : Int → Option Nat) (t : Option Nat) : tailsX m u (fun j => if j = (u : Int) then t else T j) = tailsX m u T := by
  unfold tailsX
  refine List.map_congr_left fun j hj => ?_
  have hne : j ≠ u := by simpa using (List.mem_filter.1 hj).2
  simp only
  rw [if_neg (by omega)]
theorem tails_perm2 {m u : Nat} (T : Int → Option Nat) (t : Option Nat) (h : u < m) : (Item.tail t :: tailsX m u T).Perm (tails m (fun j => if j = (u : Int) then t else T j)) := by
  have := (tails_perm (fun j => if j = (u : Int) then t else T j) h).symm
  rw [tailsX_upd, if_pos rfl] at this
  exact this
theorem tails_none (m : Nat) : ∀ st : List Item, ∀ {n : Nat} {σ : Fr}, Weak n σ st σ (tails m (fun _ => none) ++ st) := by
  unfold tails
  induction List.range m with
  | nil => intro st n σ; exact Weak.refl _ _ _
  | cons a l ih => intro st n σ; exact Weak.trans (ih st) Weak.tail0
end Go.Aw
