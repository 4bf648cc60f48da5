/- Own arrays of numbers, by what stands at each place. For every program. No condition. -/
import Derived.Test.YtoejpilhekodjaaK0
set_option linter.unusedVariables false
set_option linter.unusedSimpArgs false
namespace Go.Aw
/-- The cells of an array of m numbers. -/
def ec (m : Nat) (f : Int → Int) : List AV := (List.range m).map (fun (j : Nat) => AV.int (f (j : Int)))
theorem ec_len (m : Nat) (f : Int → Int) : (ec m f).length = m := by simp [ec]
theorem ec_congr {m : Nat} {f g : Int → Int} (h : ∀ j : Int, 0 ≤ j ∧ j < m → f j = g j) : ec m f = ec m g := by
  unfold ec
  refine List.map_congr_left fun j hj => ?_
  have := List.mem_range.1 hj
  rw [h j (by omega)]
theorem ec_make (m : Nat) : (List.replicate m (List.map AV.val [Value.int .i64 0])).flatten = ec m (fun _ => 0) := by
  refine List.ext_getElem (by simp [List.length_flatten, ec]) fun i h1 h2 => ?_
  simp [ec] at h1 h2 ⊢
theorem ec_get {m : Nat} (f : Int → Int) {t : Int} (h : 0 ≤ t ∧ t < m) : (ec m f)[0 + t.toNat * 1]? = some (AV.int (f t)) := by
  rw [Nat.zero_add, Nat.mul_one, ec, List.getElem?_map, List.getElem?_range (by omega)]
  rw [Option.map_some, Int.toNat_of_nonneg h.1]
theorem ec_getN {m : Nat} (f : Int → Int) {t : Nat} (h : t < m) : (ec m f)[0 + t * 1]? = some (AV.int (f t)) := by
  rw [Nat.zero_add, Nat.mul_one, ec, List.getElem?_map, List.getElem?_range h]; rfl
theorem ec_set {m : Nat} (f : Int → Int) {t : Int} (v : Int) (h : 0 ≤ t ∧ t < m) : setMany (ec m f) (0 + t.toNat * 1) [AV.int v] = ec m (fun j => if j = t then v else f j) := by
  rw [Nat.zero_add, Nat.mul_one]
  have hl : (setMany (ec m f) t.toNat [AV.int v]).length = m := by rw [setMany_len (by simp [ec_len]; omega), ec_len]
  refine List.ext_getElem? fun j => ?_
  rcases Nat.lt_or_ge j m with hj | hj
  · have e1 := ec_getN (fun j => if j = t then v else f j) hj
    have e0 := ec_getN f hj
    rw [Nat.zero_add, Nat.mul_one] at e1 e0
    rw [e1]
    have hn : (List.take t.toNat (ec m f)).length = t.toNat := by rw [List.length_take, ec_len]; omega
    unfold setMany
    rcases Nat.lt_trichotomy j t.toNat with h1 | h1 | h1
    · rw [List.append_assoc, List.getElem?_append_left (by omega), List.getElem?_take_of_lt h1, e0, if_neg (by omega)]
    · subst h1
      rw [List.append_assoc, List.getElem?_append_right (by omega), hn, Nat.sub_self, if_pos (by omega)]; rfl
    · rw [List.getElem?_append_right (by simp only [List.length_append, hn, List.length_singleton]; omega)]
      simp only [List.length_append, hn, List.length_singleton, List.getElem?_drop]
      rw [show t.toNat + 1 + (j - (t.toNat + 1)) = j by omega, e0, if_neg (by omega)]
  · rw [List.getElem?_eq_none (by omega), List.getElem?_eq_none (by simp [ec_len]; omega)]
end Go.Aw
