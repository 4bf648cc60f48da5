/- Supervisors: what one thing that happens does at first. No condition. -/
import Derived.Test.YtjjgchblmejooaaZ57
set_option linter.unusedVariables false
set_option linter.unusedSimpArgs false
namespace Sv
theorem nodup_rev {L : List Int} (h : L.Nodup) : L.reverse.Nodup := by
  unfold List.Nodup at *
  rw [List.pairwise_reverse]
  exact h.imp fun e => Ne.symm e
theorem stop_ok (t : Int) (r : Rn) (L : List Int) (hn : L.Nodup) (hb : ∀ i ∈ L, 0 ≤ i ∧ i < r.1.children.length) :
    Same r (stop t r L) ∧ (∀ m : Nat, sa (stop t r L).1.children m = if sa r.1.children m = 1 ∧ (m : Int) ∈ L then 2 else sa r.1.children m) ∧
    (∀ m, sn (stop t r L).1.children m = sn r.1.children m) ∧ (stop t r L).2 = r.2 ++ (L.reverse.filter (isSa r.1.children 1)).map (stopEv t) := by
  have h := stop_fold t L.reverse r (nodup_rev hn) (fun i hi => hb i (List.mem_reverse.1 hi))
  simp only [List.mem_reverse] at h
  exact h
theorem shut_mid {q : Spc} {s0 : Ss} {now b : Int} {r : Rn} (hr2 : r.2 = []) (hlen : r.1.children.length = q.children.length) (hsa : ∀ m, m < q.children.length → sa r.1.children m = 1 ∨ sa r.1.children m = 3)
    (hsn : ∀ m, m < q.children.length → 1 ≤ sn r.1.children m ∧ sn r.1.children m ≤ b) (hrs : Rs q r.1.restarts now) (heq : r.1.restarts = s0.restarts) :
    Mid q s0 now b (shut now r).1 (shut now r).2 (adds now (shut now r).2) ∧ (shut now r).2.length ≤ q.children.length + 1 := by
  have hno4 : ∀ m, sa r.1.children m ≠ 4 := fun m e => by
    have hm := sa_lt e (by decide)
    have := hsa m (hlen ▸ hm); omega
  have hsh : shut now r = if 0 < count (stop now r (idx r.1.children.length)).1.children 2 then ({ (stop now r (idx r.1.children.length)).1 with status := 3 }, (stop now r (idx r.1.children.length)).2) else ended now (stop now r (idx r.1.children.length)) := by
    unfold shut
    dsimp only
    rw [shut_fold _ _ hno4]
  obtain ⟨i1, i2, i3, i4⟩ := stop_ok now r (idx r.1.children.length) (idx_nodup _) (fun i hi => idx_mem hi)
  have hF : ((idx r.1.children.length).reverse.filter (isSa r.1.children 1)).Nodup := (nodup_rev (idx_nodup _)).filter _
  have hFl : ((idx r.1.children.length).reverse.filter (isSa r.1.children 1)).length ≤ q.children.length := by
    have h := List.length_filter_le (isSa r.1.children 1) (idx r.1.children.length).reverse
    rw [List.length_reverse, idx_len] at h; omega
  have hFm : ∀ i, i ∈ (idx r.1.children.length).reverse.filter (isSa r.1.children 1) ↔ 0 ≤ i ∧ sa r.1.children i.toNat = 1 := fun i => by
    rw [List.mem_filter, List.mem_reverse, mem_idx]
    unfold isSa
    rw [decide_eq_true_eq]
    constructor
    · exact fun h => ⟨h.1.1, h.2⟩
    · intro h
      have := sa_lt h.2 (by decide)
      exact ⟨⟨h.1, by omega⟩, h.2⟩
  generalize (idx r.1.children.length).reverse.filter (isSa r.1.children 1) = F at *
  have hsa2 : ∀ m : Nat, sa (stop now r (idx r.1.children.length)).1.children m = if sa r.1.children m = 1 then 2 else sa r.1.children m := fun m => by
    rw [i2]
    by_cases e : sa r.1.children m = 1
    · rw [if_pos e, if_pos ⟨e, mem_idx.2 ⟨by omega, by have := sa_lt e (by decide); omega⟩⟩]
    · rw [if_neg e, if_neg (fun h => e h.1)]
  rw [hr2, List.nil_append] at i4
  generalize stop now r (idx r.1.children.length) = R at *
  rw [hsh]
  by_cases hcnt : 0 < count R.1.children 2
  · rw [if_pos hcnt]
    dsimp only
    rw [i4, adds_stop]
    refine ⟨⟨⟨i1.len.trans hlen, fun m hm => ?_, fun m hm => ?_, ?_, fun _ => .inl rfl, ⟨(by show (1 : Int) ≤ 3; decide), (by show (3 : Int) ≤ 4; decide)⟩, fun e => (by cases e), fun e => (by cases e), fun _ => ⟨(count_pos (by decide)).1 hcnt, fun m => ?_⟩, fun e => (by cases e), fun e => (by rcases e with e | e <;> cases e)⟩, fun _ m hm => ?_, ⟨F, rfl, hF, fun i => ?_⟩, .inl ⟨?_, ac_stop _ _ (by decide)⟩, fun e => (by cases e), fun _ => ac_stop _ _ (by decide), ?_, fun _ => ?_, ?_⟩, ?_⟩
    · show 1 ≤ sa R.1.children m ∧ sa R.1.children m ≤ 4
      rw [hsa2]; have := hsa m hm; split <;> omega
    · show 1 ≤ sn R.1.children m ∧ sn R.1.children m ≤ b + 1
      rw [i3]; have := hsn m hm; omega
    · show Rs q R.1.restarts now
      rw [i1.restarts]; exact hrs
    · show sa R.1.children m ≠ 1 ∧ sa R.1.children m ≠ 4
      rw [hsa2]; have := hno4 m; split <;> omega
    · show sn R.1.children m ≤ b
      rw [i3]; exact (hsn m hm).2
    · rw [hFm]
      show _ ↔ 0 ≤ i ∧ sa R.1.children i.toNat = 2
      rw [hsa2]
      constructor
      · rintro ⟨a, a2⟩; exact ⟨a, if_pos a2⟩
      · rintro ⟨a, a2⟩
        refine ⟨a, ?_⟩
        split at a2
        · assumption
        · have := sa_lt a2 (by decide)
          have := hsa i.toNat (by omega); omega
    · exact i1.restarts.trans heq
    · rw [ac_stop _ _ (by decide)]; omega
    · rw [ac_stop _ _ (by decide)]; omega
    · rw [ac_stop _ _ (by decide), if_neg (by rintro ⟨_, e⟩; cases e)]
    · rw [List.length_map]; omega
  · have hno := (count_zero (l := R.1.children) (s := 2) (by decide)).1 (by have := count_nn R.1.children 2; omega)
    have hFn : F = [] := by
      cases F with
      | nil => rfl
      | cons i F =>
        obtain ⟨a, a2⟩ := (hFm i).1 (List.mem_cons_self ..)
        have := hno i.toNat
        rw [hsa2, if_pos a2] at this
        exact absurd rfl this
    subst hFn
    rw [if_neg hcnt]
    obtain ⟨j1, j2⟩ := ended_ok now R
    rw [i4, List.map_nil, List.nil_append] at j2
    rw [j1, j2, adds_esc]
    refine ⟨⟨⟨i1.len.trans hlen, fun m hm => ?_, fun m hm => ?_, ?_, fun _ => .inr rfl, ⟨(by show (1 : Int) ≤ 4; decide), (by show (4 : Int) ≤ 4; decide)⟩, fun e => (by cases e), fun e => (by cases e), fun e => (by cases e), fun _ m hm => ?_, fun e => (by rcases e with e | e <;> cases e)⟩, fun _ m hm => ?_, ⟨[], rfl, List.nodup_nil, fun i => ⟨fun hi => (by cases hi), fun ⟨a, a2⟩ => absurd a2 (hno i.toNat)⟩⟩, .inl ⟨i1.restarts.trans heq, ac_esc3 _ _⟩, fun e => (by cases e), fun _ => ac_esc3 _ _, ?_, fun _ => ?_, ?_⟩, ?_⟩
    · show 1 ≤ sa R.1.children m ∧ sa R.1.children m ≤ 4
      rw [hsa2]; have := hsa m hm; split <;> omega
    · show 1 ≤ sn R.1.children m ∧ sn R.1.children m ≤ b + 1
      rw [i3]; have := hsn m hm; omega
    · show Rs q R.1.restarts now
      rw [i1.restarts]; exact hrs
    · show sa R.1.children m = 3
      have h1 := hno m
      have h2 := hsa m hm
      rw [hsa2] at h1 ⊢
      split at h1
      · exact absurd rfl h1
      · rename_i e; rw [if_neg e]; omega
    · show sn R.1.children m ≤ b
      rw [i3]; exact (hsn m hm).2
    · rw [ac_esc3]; omega
    · rw [ac_esc3]; omega
    · rw [ac_esc]
      show _ = if R.1.failed = true ∧ (4 : Int) = 4 then 1 else 0
      simp
    · cases R.1.failed <;> simp
/-- What is handled at first leaves a state in the middle. -/
theorem first_stop {q : Spc} {s0 : Ss} {now b : Int} (h : Ok q s0 now b) (hs : s0.status = 1) (hc : chk q = 0) (hn : 0 ≤ now ∧ now ≤ 1099511627776) (hb : b ≤ 1099511627776) :
    (handle q s0 ⟨2, -1, 0, now⟩).2.2 = 0 ∧ Mid q s0 now b (handle q s0 ⟨2, -1, 0, now⟩).1 (handle q s0 ⟨2, -1, 0, now⟩).2.1 (adds now (handle q s0 ⟨2, -1, 0, now⟩).2.1) ∧ (handle q s0 ⟨2, -1, 0, now⟩).2.1.length ≤ 2 * q.children.length + 1 := by
  have hval := h.valid hc hn.2 hb
  have hck : check q s0 ⟨2, -1, 0, now⟩ = 0 := by
    unfold check
    rw [if_neg (by simp), if_neg, if_neg, if_neg]
    · rintro (⟨e, _⟩ | ⟨_, e⟩)
      · cases e
      · rw [hs] at e; cases e
    · rintro ⟨h1, h2⟩
      have := (h.rs.1 _ (List.getElem_mem (by omega : s0.restarts.length - 1 < s0.restarts.length))).2
      rw [List.getD, List.getElem?_eq_getElem (by omega), Option.getD_some] at h2
      simp only at h2
      omega
    · rintro (⟨e, _⟩ | ⟨_, e | e⟩ | e)
      · cases e
      · exact e rfl
      · exact e rfl
      · rw [Bool.eq_false_iff] at e; exact e (win_t.2 hn)
  have hh : handle q s0 ⟨2, -1, 0, now⟩ = ((shut now (s0, [])).1, (shut now (s0, [])).2, 0) := by
    unfold handle
    rw [if_neg (by omega), if_neg (by omega), if_neg (by show ¬ (2 : Int) = 1; decide)]
    have : asked now (s0, []) = shut now (s0, []) := if_pos (by show s0.status ≠ 3; omega)
    show ((asked now (s0, [])).1, (asked now (s0, [])).2, (0 : Int)) = _
    rw [this]
  rw [hh]
  obtain ⟨h1, h2⟩ := shut_mid (q := q) (s0 := s0) (now := now) (b := b) (r := (s0, [])) rfl h.len (fun m hm => by
    have h1 := h.sts m hm
    have h2 := h.c1 hs m
    show sa s0.children m = 1 ∨ sa s0.children m = 3
    omega) h.sns h.rs rfl
  exact ⟨rfl, h1, by dsimp only; omega⟩
theorem nodup_one {L : List Int} {c : Int} (hn : L.Nodup) (h : ∀ i ∈ L, i = c) : L.length ≤ 1 := by
  match L, hn with
  | [], _ => simp
  | [_], _ => simp
  | a :: b :: L, hn =>
    have h1 := h a (by simp)
    have h2 := h b (by simp)
    rw [List.nodup_cons] at hn
    exact absurd (by rw [h1, h2]; simp) hn.1
theorem first_exit {q : Spc} {s0 : Ss} {c v now b : Int} (h : Ok q s0 now b) (hs : s0.status = 1) (hc : chk q = 0) (hn : 0 ≤ now ∧ now ≤ 1099511627776) (hb : b ≤ 1099511627776) (hv : isReason v = true) (hc0 : 0 ≤ c) (hc1 : sa s0.children c.toNat = 1) :
    (handle q s0 ⟨1, c, v, now⟩).2.2 = 0 ∧ Mid q s0 now b (handle q s0 ⟨1, c, v, now⟩).1 (handle q s0 ⟨1, c, v, now⟩).2.1 (adds now (handle q s0 ⟨1, c, v, now⟩).2.1) ∧ (handle q s0 ⟨1, c, v, now⟩).2.1.length ≤ 2 * q.children.length + 1 := by
  have hval := h.valid hc hn.2 hb
  have hcl : c.toNat < s0.children.length := sa_lt hc1 (by decide)
  have hlen := h.len
  have hin : 0 ≤ c ∧ c < (q.children.length : Int) := by omega
  have hin0 : 0 ≤ c ∧ c < (s0.children.length : Int) := by omega
  have hck : check q s0 ⟨1, c, v, now⟩ = 0 := check_exit hin hv hn (fun x hx => (h.rs.1 x hx).2) (.inl hc1)
  have hh := handle_exit hval hck
  have hex : exited q now (s0, []) c v = running q now (s0, []) c v := if_pos hc1
  rw [hex] at hh
  rw [hh]
  dsimp only
  have hcok := chk_ok hc
  have hst13 : ∀ m, m < q.children.length → sa s0.children m = 1 ∨ sa s0.children m = 3 := fun m hm => by
    have h1 := h.sts m hm
    have h2 := h.c1 hs m
    omega
  have hfl : s0.failed = false := by
    cases hf : s0.failed with
    | false => rfl
    | true => rcases h.fl hf with e | e <;> omega
  unfold running
  by_cases hp : polic q c = 3 ∨ (polic q c = 2 ∧ isNormal v = true)
  · rw [if_pos hp]
    have hRs := set_sa (s0, []) c 3 hin0
    have hRn := set_sn (s0, []) c 3 hin0
    have hRs' : ∀ m : Nat, sa (set (s0, []) c 3).1.children m = if (m : Int) = c then 3 else sa s0.children m := hRs
    have hRn' : ∀ m : Nat, sn (set (s0, []) c 3).1.children m = sn s0.children m := hRn
    refine ⟨rfl, ⟨⟨(set_len (s0, []) c 3).trans hlen, fun m hm => ?_, fun m hm => ?_, h.rs, h.fl, h.cs, fun _ m => ?_, fun e => (by have : s0.status = 2 := e; omega), fun e => (by have : s0.status = 3 := e; omega), fun e => (by have : s0.status = 4 := e; omega), fun _ m hm hpm => ?_⟩, fun e => absurd hs e, ⟨[], rfl, List.nodup_nil, fun i => ⟨fun hi => (by cases hi), fun ⟨a, a2⟩ => ?_⟩⟩, .inl ⟨rfl, rfl⟩, fun e => (by have : s0.status = 2 := e; omega), fun e => absurd hs e, Nat.zero_le _, fun _ => Nat.zero_le _, ?_⟩, by simp [set]⟩
    · rw [hRs']; have := h.sts m hm; split <;> omega
    · rw [hRn']; have := h.sns m hm; omega
    · rw [hRs']; have := h.c1 hs m; split <;> omega
    · rw [hRs']; split
      · rename_i e
        rw [pol_eq q hc0, show c.toNat = m by omega] at hp
        omega
      · exact h.pm (.inl hs) m hm hpm
    · rw [hRs'] at a2
      have := h.c1 hs i.toNat
      split at a2 <;> omega
    · rw [if_neg]; rfl
      rintro ⟨e, _⟩
      have : s0.failed = true := e
      rw [hfl] at this; cases this
  · rw [if_neg hp]
    by_cases hi : q.intensity ≤ ((recent q s0.restarts now).length : Int)
    · rw [if_pos hi]
      have hRs := set_sa (s0, []) c 3 hin0
      have hRn := set_sn (s0, []) c 3 hin0
      obtain ⟨h1, h2⟩ := shut_mid (q := q) (s0 := s0) (now := now) (b := b) (r := ({ (set (s0, []) c 3).1 with failed := true }, [])) rfl ((set_len (s0, []) c 3).trans hlen) (fun m hm => by
        show sa (set (s0, []) c 3).1.children m = 1 ∨ sa (set (s0, []) c 3).1.children m = 3
        rw [hRs]
        have h1 := hst13 m hm
        split
        · exact .inr rfl
        · exact h1) (fun m hm => by
        show 1 ≤ sn (set (s0, []) c 3).1.children m ∧ sn (set (s0, []) c 3).1.children m ≤ b
        rw [hRn]; exact h.sns m hm) h.rs rfl
      exact ⟨rfl, h1, Nat.le_trans h2 (by omega)⟩
    · rw [if_neg hi]
      dsimp only
      have hbs : ∀ i ∈ affected q c, 0 ≤ i ∧ i < ((set (({ s0 with restarts := recent q s0.restarts now ++ [now] }, []) : Rn) c 4).1.children.length : Int) := fun i hi2 => by
        rw [set_len]
        have := affected_mem hin hi2
        show 0 ≤ i ∧ i < (s0.children.length : Int)
        omega
      obtain ⟨i1, i2, i3, i4⟩ := stop_ok now (set (({ s0 with restarts := recent q s0.restarts now ++ [now] }, []) : Rn) c 4) (affected q c) (affected_nodup q c) hbs
      have hX := set_sa (({ s0 with restarts := recent q s0.restarts now ++ [now] }, []) : Rn) c 4 hin0
      have hXn := set_sn (({ s0 with restarts := recent q s0.restarts now ++ [now] }, []) : Rn) c 4 hin0
      have hXl : (set (({ s0 with restarts := recent q s0.restarts now ++ [now] }, []) : Rn) c 4).1.children.length = s0.children.length := set_len _ c 4
      have hXs := set_same (({ s0 with restarts := recent q s0.restarts now ++ [now] }, []) : Rn) c 4
      have hX2 : (set (({ s0 with restarts := recent q s0.restarts now ++ [now] }, []) : Rn) c 4).2 = [] := rfl
      have hXr : (set (({ s0 with restarts := recent q s0.restarts now ++ [now] }, []) : Rn) c 4).1.restarts = recent q s0.restarts now ++ [now] := rfl
      have hXt : (set (({ s0 with restarts := recent q s0.restarts now ++ [now] }, []) : Rn) c 4).1.status = s0.status := rfl
      have hXf : (set (({ s0 with restarts := recent q s0.restarts now ++ [now] }, []) : Rn) c 4).1.failed = s0.failed := rfl
      generalize set (({ s0 with restarts := recent q s0.restarts now ++ [now] }, []) : Rn) c 4 = X at *
      have hX' : ∀ m : Nat, sa X.1.children m = if (m : Int) = c then 4 else sa s0.children m := hX
      have hXn' : ∀ m : Nat, sn X.1.children m = sn s0.children m := hXn
      have hF : ((affected q c).reverse.filter (isSa X.1.children 1)).Nodup := (nodup_rev (affected_nodup q c)).filter _
      have hFl : ((affected q c).reverse.filter (isSa X.1.children 1)).length ≤ q.children.length := by
        have h1 := List.length_filter_le (isSa X.1.children 1) (affected q c).reverse
        have h2 := affected_len q c hin
        rw [List.length_reverse] at h1; omega
      have hFm : ∀ i, i ∈ (affected q c).reverse.filter (isSa X.1.children 1) ↔ i ∈ affected q c ∧ sa X.1.children i.toNat = 1 := fun i => by
        rw [List.mem_filter, List.mem_reverse]
        unfold isSa
        rw [decide_eq_true_eq]
      generalize (affected q c).reverse.filter (isSa X.1.children 1) = F at *
      rw [hX2, List.nil_append] at i4
      have hRl : (stop now X (affected q c)).1.children.length = q.children.length := i1.len.trans (hXl.trans hlen)
      have hRr : (stop now X (affected q c)).1.restarts = recent q s0.restarts now ++ [now] := i1.restarts.trans hXr
      have hRt : (stop now X (affected q c)).1.status = s0.status := i1.status.trans hXt
      have hRf : (stop now X (affected q c)).1.failed = false := i1.failed.trans (hXf.trans hfl)
      generalize stop now X (affected q c) = R at *
      have hrs := h.rs.again hn.1 hcok.wind.1 hi
      have hRc : sa R.1.children c.toNat = 4 := by
        rw [i2, hX', if_pos (Int.toNat_of_nonneg hc0), if_neg]
        rintro ⟨e, _⟩; cases e
      have hRo : ∀ m : Nat, (m : Int) ≠ c → sa R.1.children m = if sa s0.children m = 1 ∧ (m : Int) ∈ affected q c then 2 else sa s0.children m := fun m hm => by
        rw [i2, hX', if_neg hm]
      have hRn : ∀ m, sn R.1.children m = sn s0.children m := fun m => (i3 m).trans (hXn' m)
      by_cases hz : count R.1.children 2 = 0
      · rw [if_pos hz]
        have hno := (count_zero (l := R.1.children) (s := 2) (by decide)).1 hz
        have hFn : F = [] := by
          cases F with
          | nil => rfl
          | cons i F =>
            obtain ⟨a, a2⟩ := (hFm i).1 (List.mem_cons_self ..)
            have := hno i.toNat
            have hib := affected_mem hin a
            rw [i2, if_pos ⟨a2, by rw [Int.toNat_of_nonneg hib.1]; exact a⟩] at this
            exact absurd rfl this
        subst hFn
        rw [List.map_nil] at i4
        obtain ⟨j1, j2, j3, j4, j5⟩ := again_ok now R
        rw [i4, List.nil_append] at j5
        have hRsame : ∀ m : Nat, (m : Int) ≠ c → sa R.1.children m = sa s0.children m := fun m hm => by
          have h1 := hno m
          rw [hRo m hm] at h1 ⊢
          split at h1
          · exact absurd rfl h1
          · rename_i e; rw [if_neg e]
        have hlenF : ((idx R.1.children.length).filter (isSa R.1.children 4)).length ≤ 1 := by
          refine nodup_one (c := c) ((idx_nodup _).filter _) fun i hi2 => ?_
          rw [List.mem_filter] at hi2
          have hib := idx_mem hi2.1
          have h4 : sa R.1.children i.toNat = 4 := by
            have := hi2.2; unfold isSa at this; exact of_decide_eq_true this
          rcases Classical.em (i = c) with e | e
          · exact e
          · rw [hRsame _ (by omega)] at h4
            have := h.c1 hs i.toNat; omega
        have hq1 := hcok.len.1
        refine ⟨rfl, ⟨⟨j1.len.trans hRl, fun m hm => ?_, fun m hm => ?_, ?_, fun e => ?_, by rw [j2]; omega, fun _ m => ?_, fun e => (by omega), fun e => (by omega), fun e => (by omega), fun _ m hm hpm => ?_⟩, fun e => absurd j2 e, ⟨[], by rw [j5, adds_start]; rfl, List.nodup_nil, fun i => ⟨fun hi => (by cases hi), fun ⟨a, a2⟩ => ?_⟩⟩, .inr (j1.restarts.trans hRr), fun e => (by omega), fun e => absurd j2 e, ?_, fun _ => ?_, ?_⟩, ?_⟩
        · have h1 := hst13 m hm
          rw [j3]
          by_cases e : (m : Int) = c
          · rw [show m = c.toNat by omega, hRc, if_pos rfl]; omega
          · rw [hRsame m e]; split <;> omega
        · have := h.sns m hm
          rw [j4, hRn]; split <;> omega
        · rw [show (again now R).1.restarts = _ from j1.restarts.trans hRr]; exact hrs
        · have : (again now R).1.failed = false := j1.failed.trans hRf
          rw [this] at e; cases e
        · have h2 := hno m
          rw [j3]; split <;> omega
        · have h1 := h.pm (.inl hs) m hm hpm
          rw [j3]
          by_cases e : (m : Int) = c
          · rw [show m = c.toNat by omega, hRc, if_pos rfl]; decide
          · rw [hRsame m e]; split <;> omega
        · have h2 := hno i.toNat
          rw [j3] at a2
          split at a2
          · cases a2
          · exact absurd a2 h2
        · rw [j5, ac_start3]; omega
        · rw [j5, ac_start3]; exact hlenF
        · rw [j5, ac_start _ _ (by decide), if_neg]
          rintro ⟨_, e⟩; omega
        · rw [j5, List.length_map]; omega
      · rw [if_neg hz]
        have hcnt : 0 < count R.1.children 2 := by have := count_nn R.1.children 2; omega
        have hex2 := (count_pos (l := R.1.children) (s := 2) (by decide)).1 hcnt
        have hstr : q.strategy ≠ 1 := fun e => by
          obtain ⟨m, hm⟩ := hex2
          rcases Classical.em ((m : Int) = c) with e2 | e2
          · rw [show m = c.toNat by omega, hRc] at hm; cases hm
          · rw [hRo m e2] at hm
            split at hm
            · rename_i e3
              exact e2 (affected_one e e3.2)
            · exact (h.c1 hs m).1 hm
        dsimp only
        refine ⟨rfl, ⟨⟨hRl, fun m hm => ?_, fun m hm => ?_, ?_, fun e => ?_, ⟨(by show (1 : Int) ≤ 2; decide), (by show (2 : Int) ≤ 4; decide)⟩, fun e => (by cases e), fun _ => ⟨hstr, hex2, c.toNat, hRc⟩, fun e => (by cases e), fun e => (by cases e), fun _ m hm hpm => ?_⟩, fun _ m hm => ?_, ⟨F, by rw [i4, adds_stop], hF, fun i => ?_⟩, .inr hRr, fun _ => hRr, fun _ => ?_, ?_, fun _ => ?_, ?_⟩, ?_⟩
        · show 1 ≤ sa R.1.children m ∧ sa R.1.children m ≤ 4
          have h1 := hst13 m hm
          by_cases e : (m : Int) = c
          · rw [show m = c.toNat by omega, hRc]; omega
          · rw [hRo m e]; split <;> omega
        · show 1 ≤ sn R.1.children m ∧ sn R.1.children m ≤ b + 1
          have := h.sns m hm
          rw [hRn]; omega
        · show Rs q R.1.restarts now
          rw [hRr]; exact hrs
        · have : R.1.failed = true := e
          rw [hRf] at this; cases this
        · show sa R.1.children m ≠ 3
          have h1 := h.pm (.inl hs) m hm hpm
          by_cases e : (m : Int) = c
          · rw [show m = c.toNat by omega, hRc]; decide
          · rw [hRo m e]; split <;> omega
        · show sn R.1.children m ≤ b
          rw [hRn]; exact (h.sns m hm).2
        · rw [hFm]
          show _ ↔ 0 ≤ i ∧ sa R.1.children i.toNat = 2
          constructor
          · rintro ⟨a, a2⟩
            have hib := affected_mem hin a
            refine ⟨hib.1, ?_⟩
            rw [i2, if_pos ⟨a2, by rw [Int.toNat_of_nonneg hib.1]; exact a⟩]
          · rintro ⟨a, a2⟩
            rw [i2] at a2
            split at a2
            · rename_i e
              exact ⟨by rw [Int.toNat_of_nonneg a] at e; exact e.2, e.1⟩
            · exfalso
              rw [hX'] at a2
              split at a2
              · cases a2
              · exact (h.c1 hs i.toNat).1 a2
        · rw [i4]; exact ac_stop _ _ (by decide)
        · rw [i4, ac_stop _ _ (by decide)]; omega
        · rw [i4, ac_stop _ _ (by decide)]; omega
        · rw [i4, ac_stop _ _ (by decide), if_neg (by rintro ⟨_, e⟩; cases e)]
        · rw [i4, List.length_map]; omega
end Sv
