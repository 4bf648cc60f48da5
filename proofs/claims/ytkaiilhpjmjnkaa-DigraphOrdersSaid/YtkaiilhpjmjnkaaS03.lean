/- Directed graphs: the plain laws of orders. No condition. -/
import Derived.Test.YtkaiilhpjmjnkaaR03
set_option linter.unusedVariables false
set_option linter.unusedSimpArgs false
namespace Dg
def frB (l : List Ed) (b : List Int) (y : Int) : Bool := !decide (0 ≤ Wl.idxI b y) && !(l.any (fun z => decide (z.v = y) && !decide (0 ≤ Wl.idxI b z.u)))
theorem frB_iff {l : List Ed} {b : List Int} {y : Int} : frB l b y = true ↔ y ∉ b ∧ ∀ z ∈ l, z.v = y → z.u ∈ b := by
  unfold frB
  simp only [Wl.idxI_mem]
  simp
def degO (l : List Ed) (out : List Int) (j : Int) : Int := ((l.countP (fun e => decide (e.v = j) && !decide (e.u ∈ out))) : Int)
theorem degO_nil (l : List Ed) (j : Int) : degO l [] j = deg l j := by unfold degO deg; rw [List.countP_eq_length_filter]; simp
theorem decs_eq (vs : List Int) : ∀ (f : Int → Int) (j : Int), decs f vs j = f j - (vs.count j : Int) := by
  induction vs with
  | nil => intro f j; simp [decs]
  | cons v vs ih =>
    intro f j
    have e : decs f (v :: vs) j = decs (upd f v (f v - 1)) vs j := rfl
    rw [e, ih, List.count_cons]
    unfold upd
    by_cases h : j = v
    · subst h; simp; omega
    · have : (v == j) = false := by simpa using Ne.symm h
      rw [if_neg h, this]; simp
theorem count_sc (l : List Ed) (u j : Int) : ((sc l u).count j : Int) = ((l.countP (fun e => decide (e.v = j) && decide (e.u = u)) : Nat) : Int) := by
  congr 1
  unfold sc
  induction l with
  | nil => rfl
  | cons e l ih =>
    rw [List.countP_cons]
    by_cases h1 : e.u = u
    · rw [List.filter_cons_of_pos (by simpa using h1), List.map_cons, List.count_cons, ih]
      simp [h1]
    · rw [List.filter_cons_of_neg (by simpa using h1), ih]
      simp [h1]
theorem degO_step (l : List Ed) (out : List Int) (u : Int) (hu : u ∉ out) (j : Int) : degO l out j - ((sc l u).count j : Int) = degO l (out ++ [u]) j := by
  rw [count_sc]
  unfold degO
  induction l with
  | nil => rfl
  | cons e l ih =>
    rw [List.countP_cons, List.countP_cons, List.countP_cons]
    simp at ih
    by_cases h1 : e.v = j
    · by_cases h2 : e.u = u
      · have h3 : e.u ∉ out := h2 ▸ hu
        simp [h1, h2, hu]
        omega
      · by_cases h3 : e.u ∈ out
        · simp [h1, h2, h3]; omega
        · simp [h1, h2, h3]; omega
    · simp [h1]; omega
structure OI (l : List Ed) (op : Int → Int) (out : List Int) : Prop where
  free : ∀ j, j ∉ out → op j = degO l out j
  done : ∀ j ∈ out, op j < 0
theorem degO_zero {l : List Ed} {out : List Int} {j : Int} : degO l out j = 0 ↔ ∀ z ∈ l, z.v = j → z.u ∈ out := by
  unfold degO
  rw [Int.natCast_eq_zero, List.countP_eq_zero]
  constructor
  · intro h z hz hv
    have := h z hz
    simpa [hv] using this
  · intro h z hz
    simp
    intro hv; exact h z hz hv
theorem OI.zero {l : List Ed} {op : Int → Int} {out : List Int} (h : OI l op out) (j : Int) : op j = 0 ↔ frB l out j = true := by
  rw [frB_iff]
  constructor
  · intro e
    have hn : j ∉ out := fun hm => by have := h.done j hm; omega
    exact ⟨hn, degO_zero.1 ((h.free j hn).symm.trans e)⟩
  · rintro ⟨hn, hz⟩
    rw [h.free j hn]; exact degO_zero.2 hz
theorem OI.next {l : List Ed} {op : Int → Int} {out : List Int} (h : OI l op out) {u : Int} (hu : op u = 0) : OI l (decs (upd op u (-1)) (sc l u)) (out ++ [u]) := by
  have hn : u ∉ out := fun hm => by have := h.done u hm; omega
  refine ⟨fun j hj => ?_, fun j hj => ?_⟩
  · simp only [List.mem_append, List.mem_singleton, not_or] at hj
    rw [decs_eq, ← degO_step l out u hn j]
    unfold upd; rw [if_neg hj.2, h.free j hj.1]
  · rw [decs_eq]
    have hc : (0 : Int) ≤ ((sc l u).count j : Int) := Int.natCast_nonneg _
    unfold upd
    split
    · omega
    · rename_i hne
      rcases List.mem_append.1 hj with hj | hj
      · have := h.done j hj; omega
      · exact absurd (List.mem_singleton.1 hj) hne
theorem pick_spec {m : Nat} {f : Int → Int} (h : 0 ≤ pick m f) : f (pick m f) = 0 ∧ ∀ y, 0 ≤ y → y < pick m f → f y ≠ 0 := by
  unfold pick at h ⊢
  unfold Wl.idxI at h ⊢
  cases e : (Go.Aw.bl m f).findIdx? (fun n => decide (n = 0)) with
  | none => rw [e] at h; simp at h
  | some k =>
    obtain ⟨hk, h1, h2⟩ := List.findIdx?_eq_some_iff_getElem.1 e
    rw [Go.Aw.bl_get] at h1
    refine ⟨by simpa using h1, fun y hy hlt => ?_⟩
    have hlt' : y < (k : Int) := hlt
    have h3 := h2 y.toNat (by omega)
    rw [Go.Aw.bl_get, Int.toNat_of_nonneg hy] at h3
    simpa using h3
theorem pick_neg {m : Nat} {f : Int → Int} (h : pick m f < 0) : ∀ y : Int, 0 ≤ y → y < m → f y ≠ 0 := by
  intro y hy hm e
  have : 0 ≤ pick m f := by
    refine (Wl.idxI_mem _ _).2 ?_
    have hl : y.toNat < (Go.Aw.bl m f).length := by rw [Go.Aw.bl_len]; omega
    have hg := Go.Aw.bl_get m f y.toNat hl
    rw [Int.toNat_of_nonneg hy, e] at hg
    rw [← hg]; exact List.getElem_mem hl
  omega
theorem ord_spec {n : Int} {l : List Ed} (hok : OkE n l) : ∀ (f : Nat) (op : Int → Int) (out o : List Int), OI l op out → ord (gr n l) f op out = some o → (∃ r, o = out ++ r) ∧ ∀ i (h : i < o.length), out.length ≤ i → frB l (o.take i) o[i] = true ∧ ∀ y, 0 ≤ y → y < o[i] → frB l (o.take i) y = false
  | 0, op, out, o, hi, h => by
    cases h
    exact ⟨⟨[], (List.append_nil _).symm⟩, fun i h h2 => absurd h2 (by omega)⟩
  | f + 1, op, out, o, hi, h => by
    rw [ord] at h
    split at h
    · cases h
    · rename_i hp
      have hp' : ¬ pick n.toNat op < 0 := hp
      obtain ⟨p1, p2⟩ := pick_spec (Int.not_lt.1 hp')
      have hlt := pick_lt (Int.not_lt.1 hp')
      have hsuc : suc (gr n l) (pick n.toNat op) = sc l (pick n.toNat op) := suc_gr ⟨Int.not_lt.1 hp', by have := hok.nb; omega⟩
      have hi2 := hi.next p1
      rw [← hsuc] at hi2
      obtain ⟨⟨r, hr⟩, h2⟩ := ord_spec hok f _ _ o hi2 h
      refine ⟨⟨pick n.toNat op :: r, by rw [hr, List.append_assoc]; rfl⟩, fun i hi3 h3 => ?_⟩
      by_cases e : i = out.length
      · subst e
        subst hr
        have e1 : ((out ++ [pick n.toNat op]) ++ r).take out.length = out := by rw [List.append_assoc, List.take_left]
        have e2 : ((out ++ [pick n.toNat op]) ++ r)[out.length] = pick n.toNat op := by simp
        rw [e1, e2]
        refine ⟨(hi.zero _).1 p1, fun y hy hy2 => ?_⟩
        cases hb : frB l out y with
        | false => rfl
        | true => exact absurd ((hi.zero y).2 hb) (p2 y hy hy2)
      · exact h2 i hi3 (by rw [List.length_append, List.length_singleton]; omega)
theorem order_law {n : Int} {l : List Ed} (h : orderE n l = 0) : ∀ i (h : i < (orderL n l).length), frB l ((orderL n l).take i) (orderL n l)[i] = true ∧ ∀ y, 0 ≤ y → y < (orderL n l)[i] → frB l ((orderL n l).take i) y = false := by
  obtain ⟨h1, h2⟩ := orderE_zero h
  have h0 : OI l (deg l) [] := ⟨fun j _ => (degO_nil l j).symm, by simp⟩
  exact fun i hi => (ord_spec (okE h1) n.toNat (deg l) [] _ h0 h2).2 i hi (Nat.zero_le _)
theorem order_err {n : Int} {l : List Ed} (hc : chk n l = 0) (h : orderE n l ≠ 0) : orderE n l = 21 ∧ orderL n l = [] := by
  have hn : ¬ chk n l ≠ 0 := by omega
  unfold orderE at h ⊢
  unfold orderL
  rw [if_neg hn] at h ⊢
  rw [if_neg hn]
  cases e : ordO n l with
  | none => exact ⟨rfl, rfl⟩
  | some o => rw [e] at h; exact absurd rfl h
end Dg
