/- Supervisors: what the laws count. No condition. -/
import Derived.Test.YtjjgchblmejooaaZE57
set_option linter.unusedVariables false
set_option linter.unusedSimpArgs false
namespace Sv
theorem esc_take {l : Lg} {k : Nat} {y : Ss × List Evt × Int} (hk : k < l.length) (hy : l[k] = y) : esc (l.take (k + 1)) = esc (l.take k) + ac y.2.1 5 := by
  rw [List.take_add_one, List.getElem?_eq_getElem hk, esc_append, hy]
  simp [esc]
theorem rt_take {l : Lg} {k : Nat} {y : Ss × List Evt × Int} (h1 : 1 ≤ k) (hk : k < l.length) (hy : l[k] = y) : rtimes ((l.take (k + 1)).drop 1) = rtimes ((l.take k).drop 1) ++ if 0 < ac y.2.1 3 then [y.2.2] else [] := by
  rw [List.take_add_one, List.getElem?_eq_getElem hk, List.drop_append_of_le_length (by rw [List.length_take]; omega), rtimes_append, hy]
  congr 1
  by_cases e : 0 < ac y.2.1 3
  · rw [if_pos e]; simp [rtimes, e]
  · rw [if_neg e]; simp [rtimes, e]
theorem rt_len (l : Lg) : (rtimes l).length ≤ l.length := by
  unfold rtimes
  rw [List.length_map]
  exact List.length_filter_le _ _
theorem rt_mem {l : Lg} {u : Int} (h : u ∈ rtimes l) : ∃ y ∈ l, u = y.2.2 := by
  unfold rtimes at h
  obtain ⟨y, hy, rfl⟩ := List.mem_map.1 h
  exact ⟨y, (List.mem_filter.1 hy).1, rfl⟩
theorem PInv.time {q : Spc} {k : Nat} {p : Pl} (h : PInv q k p) {u : Int} (hu : u ∈ rtimes (p.log.drop 1)) : 0 ≤ u ∧ u ≤ 255 * (k : Int) := by
  obtain ⟨y, hy, rfl⟩ := rt_mem hu
  exact (h.s1 y (List.mem_of_mem_drop hy)).2.2
theorem drop_mem {l : Lg} {k : Nat} {y : Ss × List Evt × Int} (h1 : 1 ≤ k) (hk : k < l.length) (hy : l[k] = y) : y ∈ l.drop 1 := by
  rw [← hy, List.mem_iff_getElem]
  exact ⟨k - 1, by rw [List.length_drop]; omega, by rw [List.getElem_drop]; congr 1; omega⟩
theorem SetP.at {q : Spc} {s : Ss} (h : SetP q s) {i : Nat} (hi : i < s.children.length) : (s.status = 4 → s.children[i].status ≠ 1) ∧ (s.status = 1 → (q.children.getD ((i : Int)).toNat default).policy = 1 → s.children[i].status = 1) := by
  have e : sa s.children i = s.children[i].status := by unfold sa; rw [List.getD, List.getElem?_eq_getElem hi]; rfl
  rw [← e]
  exact ⟨fun h4 => h.stp h4 i, fun h1 hp => h.run h1 i (by rw [← h.len]; exact hi) hp⟩
end Sv
namespace Sv
theorem esc_no {a b : Nat} {f : Bool} {st : Int} (h : a + b = if f = true then 1 else 0) (hf : f = true → st = 4) (k : (¬ decide ((a : Int) + (b : Int) = 1) = f ∨ 1 < (a : Int) + (b : Int)) ∨ (f = true ∧ ¬ st = 4)) : False := by
  cases f with
  | false =>
    rw [if_neg (by decide)] at h
    rcases k with (k | k) | ⟨k, _⟩
    · exact k (decide_eq_false (by omega))
    · omega
    · cases k
  | true =>
    rw [if_pos rfl] at h
    rcases k with (k | k) | ⟨_, k⟩
    · exact k (decide_eq_true (by omega))
    · omega
    · exact k (hf rfl)
end Sv
namespace Sv
theorem late_t {q : Spc} {L : List Int} {i : Nat} {u : Int} (hi : i < L.length) (h : u - q.window < L[i]) : late q (L.take (i + 1)) u = late q (L.take i) u + 1 := flt_t (fun v => decide (u - q.window < v)) L i hi (decide_eq_true h)
theorem late_f {q : Spc} {L : List Int} {i : Nat} {u : Int} (hi : i < L.length) (h : ¬ u - q.window < L[i]) : late q (L.take (i + 1)) u = late q (L.take i) u := flt_f (fun v => decide (u - q.window < v)) L i hi (decide_eq_false h)
theorem rt_one (l : Lg) : rtimes ((l.take 1).drop 1) = [] := by
  rw [List.drop_eq_nil_of_le (by rw [List.length_take]; omega)]; rfl
end Sv
