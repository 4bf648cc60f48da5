/- Supervisors: what handling an event does to a state. No condition. -/
import Derived.Test.YtjjgchblmejooaaN57
set_option linter.unusedVariables false
set_option linter.unusedSimpArgs false
namespace Sv
def sa (l : List Cs) (i : Nat) : Int := (l.getD i default).status
def sn (l : List Cs) (i : Nat) : Int := (l.getD i default).starts
theorem sa_set (l : List Cs) (c : Cs) (i m : Nat) (h : i < l.length) : sa (l.set i c) m = if m = i then c.status else sa l m := by
  unfold sa
  by_cases e : m = i
  · subst e; simp [List.getD, h]
  · rw [if_neg e]; simp [List.getD, List.getElem?_set, Ne.symm e]
theorem sn_set (l : List Cs) (c : Cs) (i m : Nat) (h : i < l.length) : sn (l.set i c) m = if m = i then c.starts else sn l m := by
  unfold sn
  by_cases e : m = i
  · subst e; simp [List.getD, h]
  · rw [if_neg e]; simp [List.getD, List.getElem?_set, Ne.symm e]
theorem st_sa (r : Rn) (i : Int) : st r i = sa r.1.children i.toNat := rfl
theorem sa_out {l : List Cs} {m : Nat} (h : l.length ≤ m) : sa l m = 0 := by
  unfold sa; rw [List.getD, List.getElem?_eq_none h]; rfl
theorem sa_lt {l : List Cs} {m : Nat} {s : Int} (h : sa l m = s) (hs : s ≠ 0) : m < l.length := by
  rcases Nat.lt_or_ge m l.length with e | e
  · exact e
  · exact absurd ((sa_out e).symm.trans h).symm hs
theorem sa_mem {l : List Cs} {m : Nat} (h : m < l.length) : ∃ c ∈ l, c.status = sa l m ∧ c.starts = sn l m := by
  refine ⟨l[m], List.getElem_mem h, ?_, ?_⟩
  · unfold sa; rw [List.getD, List.getElem?_eq_getElem h]; rfl
  · unfold sn; rw [List.getD, List.getElem?_eq_getElem h]; rfl
theorem mem_sa {l : List Cs} {c : Cs} (h : c ∈ l) : ∃ m, m < l.length ∧ sa l m = c.status ∧ sn l m = c.starts := by
  obtain ⟨m, hm, rfl⟩ := List.getElem_of_mem h
  refine ⟨m, hm, ?_, ?_⟩
  · unfold sa; rw [List.getD, List.getElem?_eq_getElem hm]; rfl
  · unfold sn; rw [List.getD, List.getElem?_eq_getElem hm]; rfl
theorem count_pos {l : List Cs} {s : Int} (hs : s ≠ 0) : 0 < count l s ↔ ∃ m, sa l m = s := by
  unfold count
  rw [Int.natCast_pos, List.length_pos_iff_exists_mem]
  constructor
  · rintro ⟨c, hc⟩
    rw [List.mem_filter, decide_eq_true_eq] at hc
    obtain ⟨m, _, h, _⟩ := mem_sa hc.1
    exact ⟨m, h.trans hc.2⟩
  · rintro ⟨m, hm⟩
    obtain ⟨c, hc, h, _⟩ := sa_mem (sa_lt hm hs)
    exact ⟨c, List.mem_filter.2 ⟨hc, decide_eq_true (h.trans hm)⟩⟩
theorem count_nn (l : List Cs) (s : Int) : 0 ≤ count l s := Int.natCast_nonneg _
theorem count_zero {l : List Cs} {s : Int} (hs : s ≠ 0) : count l s = 0 ↔ ∀ m, sa l m ≠ s := by
  have h1 := count_pos (l := l) hs
  have h2 := count_nn l s
  constructor
  · intro h m hm
    have := h1.2 ⟨m, hm⟩; omega
  · intro h
    rcases Int.lt_or_eq_of_le h2 with e | e
    · obtain ⟨m, hm⟩ := h1.1 e; exact absurd hm (h m)
    · exact e.symm
theorem count_all : ∀ {l : List Cs}, (∀ c ∈ l, 1 ≤ c.status ∧ c.status ≤ 4) → count l 1 + count l 2 + count l 3 + count l 4 = l.length
  | [], _ => rfl
  | c :: l, h => by
    have ih := count_all (l := l) fun x hx => h x (List.mem_cons_of_mem _ hx)
    have hc := h c (List.mem_cons_self ..)
    have hcs : ∀ s, count (c :: l) s = count l s + if c.status = s then 1 else 0 := fun s => by
      unfold count
      rw [List.filter_cons]
      by_cases e : c.status = s
      · simp [e]
      · simp [e]
    rw [hcs, hcs, hcs, hcs, List.length_cons]
    have h4 : c.status = 1 ∨ c.status = 2 ∨ c.status = 3 ∨ c.status = 4 := by omega
    rcases h4 with e | e | e | e <;> simp [e] <;> omega
theorem count_full {l : List Cs} (h : ∀ c ∈ l, c.status = 3) : count l 3 = l.length := by
  unfold count
  rw [List.filter_eq_self.2 fun c hc => decide_eq_true (h c hc)]
/-! Letting children end -/
def stopEv (t : Int) (i : Int) : Evt := ⟨4, i, 0, t⟩
def startEv (t : Int) (i : Int) : Evt := ⟨3, i, 0, t⟩
def isSa (l : List Cs) (s : Int) (i : Int) : Bool := decide (sa l i.toNat = s)
structure Same (r r' : Rn) : Prop where
  status : r'.1.status = r.1.status
  restarts : r'.1.restarts = r.1.restarts
  failed : r'.1.failed = r.1.failed
  len : r'.1.children.length = r.1.children.length
theorem Same.refl (r : Rn) : Same r r := ⟨rfl, rfl, rfl, rfl⟩
theorem Same.trans {a b c : Rn} (h : Same a b) (k : Same b c) : Same a c := ⟨k.status.trans h.status, k.restarts.trans h.restarts, k.failed.trans h.failed, k.len.trans h.len⟩
theorem set_same (r : Rn) (i s : Int) : Same r (set r i s) := ⟨rfl, rfl, rfl, set_len r i s⟩
theorem set_sa (r : Rn) (i s : Int) (h : 0 ≤ i ∧ i < r.1.children.length) (m : Nat) : sa (set r i s).1.children m = if (m : Int) = i then s else sa r.1.children m := by
  show sa (setL r.1.children i s) m = _
  unfold setL
  rw [sa_set _ _ _ _ (by omega)]
  by_cases e : (m : Int) = i
  · rw [if_pos (by omega), if_pos e]
  · rw [if_neg (by omega), if_neg e]
theorem set_sn (r : Rn) (i s : Int) (h : 0 ≤ i ∧ i < r.1.children.length) (m : Nat) : sn (set r i s).1.children m = sn r.1.children m := by
  show sn (setL r.1.children i s) m = _
  unfold setL
  rw [sn_set _ _ _ _ (by omega)]
  split
  · rename_i e; subst e; rfl
  · rfl
theorem stop_fold (t : Int) : ∀ (L : List Int) (r : Rn), L.Nodup → (∀ i ∈ L, 0 ≤ i ∧ i < r.1.children.length) →
    Same r (L.foldl (stop1 t) r) ∧ (∀ m : Nat, sa (L.foldl (stop1 t) r).1.children m = if sa r.1.children m = 1 ∧ (m : Int) ∈ L then 2 else sa r.1.children m) ∧
    (∀ m, sn (L.foldl (stop1 t) r).1.children m = sn r.1.children m) ∧ (L.foldl (stop1 t) r).2 = r.2 ++ (L.filter (isSa r.1.children 1)).map (stopEv t)
  | [], r, _, _ => ⟨Same.refl r, fun m => by simp, fun m => rfl, by simp⟩
  | a :: L, r, hn, hb => by
    obtain ⟨ha, hL⟩ := List.nodup_cons.1 hn
    have hab := hb a (List.mem_cons_self ..)
    rw [List.foldl_cons]
    by_cases h1 : sa r.1.children a.toNat = 1
    · have e1 : stop1 t r a = act t (set r a 2) 4 a := if_pos h1
      have hs : ∀ m, sa (stop1 t r a).1.children m = if (m : Int) = a then 2 else sa r.1.children m := fun m => by
        rw [e1]; exact set_sa r a 2 hab m
      have hq : Same r (stop1 t r a) := by rw [e1]; exact ⟨rfl, rfl, rfl, set_len r a 2⟩
      obtain ⟨i1, i2, i3, i4⟩ := stop_fold t L (stop1 t r a) hL (fun i hi => by rw [hq.len]; exact hb i (List.mem_cons_of_mem _ hi))
      refine ⟨hq.trans i1, fun m => ?_, fun m => ?_, ?_⟩
      · rw [i2, hs]
        by_cases em : (m : Int) = a
        · have : sa r.1.children m = 1 := by rw [← h1]; congr 1; omega
          simp [em, this]
        · simp [em]
      · rw [i3, e1]; exact set_sn r a 2 hab m
      · rw [i4, e1]
        show r.2 ++ [⟨4, a, 0, t⟩] ++ _ = _
        rw [List.filter_cons, if_pos (by simp [isSa, h1]), List.map_cons, List.append_assoc, List.singleton_append]
        congr 3
        refine List.filter_congr fun i hi => ?_
        have hib := hb i (List.mem_cons_of_mem _ hi)
        have hne : i ≠ a := fun e => ha (e ▸ hi)
        have h2 := hs i.toNat
        rw [e1, if_neg (by omega)] at h2
        unfold isSa
        rw [h2]
    · have e1 : stop1 t r a = r := if_neg h1
      rw [e1]
      obtain ⟨i1, i2, i3, i4⟩ := stop_fold t L r hL (fun i hi => hb i (List.mem_cons_of_mem _ hi))
      refine ⟨i1, fun m => ?_, i3, ?_⟩
      · rw [i2]
        by_cases em : (m : Int) = a
        · have : sa r.1.children m ≠ 1 := fun h => h1 (by rw [← h]; congr 1; omega)
          simp [this]
        · simp [em]
      · rw [i4, List.filter_cons, if_neg (by simp [isSa, h1])]
theorem again_fold (t : Int) (r : Rn) : ∀ (k : Nat), k ≤ r.1.children.length →
    Same r ((idx k).foldl (again1 t) r) ∧ (∀ m : Nat, sa ((idx k).foldl (again1 t) r).1.children m = if sa r.1.children m = 4 ∧ m < k then 1 else sa r.1.children m) ∧
    (∀ m : Nat, sn ((idx k).foldl (again1 t) r).1.children m = if sa r.1.children m = 4 ∧ m < k then sn r.1.children m + 1 else sn r.1.children m) ∧ ((idx k).foldl (again1 t) r).2 = r.2 ++ ((idx k).filter (isSa r.1.children 4)).map (startEv t)
  | 0, _ => ⟨Same.refl r, fun m => by simp [idx], fun m => by simp [idx], by simp [idx]⟩
  | k + 1, hk => by
    obtain ⟨i1, i2, i3, i4⟩ := again_fold t r k (by omega)
    rw [idx_fold]
    generalize hR : (idx k).foldl (again1 t) r = R at *
    have hkk : sa R.1.children k = sa r.1.children k := by rw [i2, if_neg (by omega)]
    have hkn : sn R.1.children k = sn r.1.children k := by rw [i3, if_neg (by omega)]
    by_cases h4 : sa r.1.children k = 4
    · have e1 : again1 t R (k : Int) = act t ((({ R.1 with children := R.1.children.set k ⟨1, sn R.1.children k + 1⟩ }, R.2) : Rn)) 3 (k : Int) := if_pos (hkk.trans h4)
      have hlt : k < R.1.children.length := by rw [i1.len]; omega
      rw [e1]
      refine ⟨i1.trans ⟨rfl, rfl, rfl, by simp [act]⟩, fun m => ?_, fun m => ?_, ?_⟩
      · show sa (R.1.children.set k _) m = _
        rw [sa_set _ _ _ _ hlt, i2]
        by_cases e : m = k
        · subst e; rw [if_pos rfl, if_pos ⟨h4, by omega⟩]
        · rw [if_neg e]
          by_cases em : sa r.1.children m = 4 ∧ m < k
          · rw [if_pos em, if_pos ⟨em.1, by omega⟩]
          · rw [if_neg em, if_neg (fun h => em ⟨h.1, by omega⟩)]
      · show sn (R.1.children.set k _) m = _
        rw [sn_set _ _ _ _ hlt]
        by_cases e : m = k
        · subst e; rw [if_pos rfl, if_pos ⟨h4, by omega⟩, ← hkn]
        · rw [if_neg e, i3 m]
          by_cases em : sa r.1.children m = 4 ∧ m < k
          · rw [if_pos em, if_pos ⟨em.1, by omega⟩]
          · rw [if_neg em, if_neg (fun h => em ⟨h.1, by omega⟩)]
      · show R.2 ++ [⟨3, (k : Int), 0, t⟩] = _
        rw [i4, idx_add, List.filter_append, List.map_append, List.append_assoc]
        congr 2
        rw [List.filter_cons, if_pos (by simp [isSa, h4])]; rfl
    · have e1 : again1 t R (k : Int) = R := if_neg (fun h => h4 (hkk.symm.trans h))
      rw [e1]
      refine ⟨i1, fun m => ?_, fun m => ?_, ?_⟩
      · rw [i2]
        by_cases em : sa r.1.children m = 4 ∧ m < k
        · rw [if_pos em, if_pos ⟨em.1, by omega⟩]
        · rw [if_neg em, if_neg (fun h => em ⟨h.1, by rcases Nat.lt_or_eq_of_le (Nat.le_of_lt_succ h.2) with q | q; exact q; exact absurd (q ▸ h.1) h4⟩)]
      · rw [i3]
        by_cases em : sa r.1.children m = 4 ∧ m < k
        · rw [if_pos em, if_pos ⟨em.1, by omega⟩]
        · rw [if_neg em, if_neg (fun h => em ⟨h.1, by rcases Nat.lt_or_eq_of_le (Nat.le_of_lt_succ h.2) with q | q; exact q; exact absurd (q ▸ h.1) h4⟩)]
      · rw [i4, idx_add, List.filter_append, List.map_append]
        rw [List.filter_cons, if_neg (by simp [isSa, h4])]
        simp
theorem shut_fold : ∀ (L : List Int) (r : Rn), (∀ m, sa r.1.children m ≠ 4) → L.foldl shut1 r = r
  | [], r, _ => rfl
  | a :: L, r, h => by
    have e1 : shut1 r a = r := if_neg (h a.toNat)
    rw [List.foldl_cons, e1, shut_fold L r h]
end Sv
