/- Supervisors: what one thing that happens does. No condition. -/
import Derived.Test.YtjjgchblmejooaaU57
set_option linter.unusedVariables false
set_option linter.unusedSimpArgs false
namespace Sv
structure Mid (q : Spc) (s0 : Ss) (now b : Int) (s : Ss) (acts w : List Evt) : Prop where
  ok : Ok q s now (b + 1)
  sn2 : s.status ≠ 1 → ∀ m, m < q.children.length → sn s.children m ≤ b
  queue : ∃ L : List Int, w = L.map (exitEv now) ∧ L.Nodup ∧ ∀ i, i ∈ L ↔ 0 ≤ i ∧ sa s.children i.toNat = 2
  rel : (s.restarts = s0.restarts ∧ ac acts 3 = 0) ∨ s.restarts = recent q s0.restarts now ++ [now]
  r2 : s.status = 2 → s.restarts = recent q s0.restarts now ++ [now]
  n3 : s.status ≠ 1 → ac acts 3 = 0
  n3' : ac acts 3 ≤ q.children.length
  one : q.strategy = 1 → ac acts 3 ≤ 1
  esc : ac acts 5 = if s.failed = true ∧ s.status = 4 then 1 else 0
theorem check_exit {q : Spc} {s : Ss} {c v now : Int} (hc : 0 ≤ c ∧ c < q.children.length) (hv : isReason v = true) (hn : 0 ≤ now ∧ now ≤ 1099511627776) (hr : ∀ x ∈ s.restarts, x ≤ now) (hs : sa s.children c.toNat = 1 ∨ sa s.children c.toNat = 2) : check q s ⟨1, c, v, now⟩ = 0 := by
  unfold check
  rw [if_neg (by simp), if_neg, if_neg, if_neg]
  · rintro (⟨_, h1, h2⟩ | ⟨h, _⟩)
    · rcases hs with h | h
      · exact h1 h
      · exact h2 h
    · exact h rfl
  · rintro ⟨h1, h2⟩
    have := hr _ (List.getElem_mem (by omega : s.restarts.length - 1 < s.restarts.length))
    rw [List.getD, List.getElem?_eq_getElem (by omega), Option.getD_some] at h2
    simp only at h2
    omega
  · rintro (⟨_, h⟩ | ⟨h, _⟩ | h)
    · rcases h with h | h
      · rw [Bool.eq_false_iff] at h; exact h (win_t.2 ⟨hc.1, by show c ≤ (q.children.length : Int) - 1; omega⟩)
      · rw [hv] at h; cases h
    · exact h rfl
    · rw [Bool.eq_false_iff] at h; exact h (win_t.2 hn)
theorem handle_exit {q : Spc} {s : Ss} {c v now : Int} (hv : valid q s = 0) (hk : check q s ⟨1, c, v, now⟩ = 0) : handle q s ⟨1, c, v, now⟩ = ((exited q now (s, []) c v).1, (exited q now (s, []) c v).2, 0) := by
  unfold handle
  rw [if_neg (by omega), if_neg (by omega), if_pos rfl]
theorem pol_eq (q : Spc) {c : Int} (h : 0 ≤ c) : polic q c = pol q c.toNat := by
  unfold pol; rw [Int.toNat_of_nonneg h]
theorem filter_idx_len (n : Nat) (p : Int → Bool) : ((idx n).filter p).length ≤ n := by
  have h := List.length_filter_le p (idx n)
  rwa [idx_len] at h
/-- A supervisor whose children all run, wait to be started or rest starts those that wait. -/
theorem again_ok (t : Int) (R : Rn) : Same R (({ (again t R).1 with status := R.1.status }, (again t R).2) : Rn) ∧ (again t R).1.status = 1 ∧ (∀ m : Nat, sa (again t R).1.children m = if sa R.1.children m = 4 then 1 else sa R.1.children m) ∧
    (∀ m : Nat, sn (again t R).1.children m = if sa R.1.children m = 4 then sn R.1.children m + 1 else sn R.1.children m) ∧ (again t R).2 = R.2 ++ ((idx R.1.children.length).filter (isSa R.1.children 4)).map (startEv t) := by
  obtain ⟨i1, i2, i3, i4⟩ := again_fold t R _ (Nat.le_refl _)
  refine ⟨⟨rfl, i1.restarts, i1.failed, i1.len⟩, rfl, fun m => ?_, fun m => ?_, i4⟩
  · refine (i2 m).trans ?_
    by_cases e : sa R.1.children m = 4
    · rw [if_pos e, if_pos ⟨e, sa_lt e (by decide)⟩]
    · rw [if_neg e, if_neg (fun h => e h.1)]
  · refine (i3 m).trans ?_
    by_cases e : sa R.1.children m = 4
    · rw [if_pos e, if_pos ⟨e, sa_lt e (by decide)⟩]
    · rw [if_neg e, if_neg (fun h => e h.1)]
theorem ended_ok (t : Int) (R : Rn) : (ended t R).1 = { R.1 with status := 4 } ∧ (ended t R).2 = R.2 ++ (if R.1.failed = true then [⟨5, -1, 0, t⟩] else []) := by
  unfold ended
  split
  · exact ⟨rfl, rfl⟩
  · exact ⟨rfl, by rw [List.append_nil]⟩
theorem ac_esc (t : Int) (b : Bool) : ac (if b = true then [⟨5, -1, 0, t⟩] else []) 5 = if b = true then 1 else 0 := by
  cases b <;> rfl
theorem ac_esc3 (t : Int) (b : Bool) : ac (if b = true then [⟨5, -1, 0, t⟩] else []) 3 = 0 := by
  cases b <;> rfl
theorem adds_esc (t : Int) (b : Bool) : adds t (if b = true then [⟨5, -1, 0, t⟩] else []) = [] := by
  cases b <;> rfl
theorem mid_step {q : Spc} {s0 s : Ss} {now b : Int} {acts w : List Evt} {e : Evt} (h : Mid q s0 now b s acts (e :: w)) (hc : chk q = 0) (hn : 0 ≤ now ∧ now ≤ 1099511627776) (hb : b + 1 ≤ 1099511627776) :
    (handle q s e).2.2 = 0 ∧ adds now (handle q s e).2.1 = [] ∧ Mid q s0 now b (handle q s e).1 (acts ++ (handle q s e).2.1) w ∧ (handle q s e).2.1.length ≤ q.children.length + 1 := by
  obtain ⟨L0, hw, hnd, hm⟩ := h.queue
  obtain ⟨c, L, rfl⟩ : ∃ c L, L0 = c :: L := by
    cases L0 with
    | nil => cases hw
    | cons c L => exact ⟨c, L, rfl⟩
  rw [List.map_cons, List.cons.injEq] at hw
  obtain ⟨rfl, rfl⟩ := hw
  obtain ⟨hcL, hL⟩ := List.nodup_cons.1 hnd
  obtain ⟨hc0, hc2⟩ := (hm c).1 (List.mem_cons_self ..)
  have hcl : c.toNat < s.children.length := sa_lt hc2 (by decide)
  have hlen := h.ok.len
  have hin : 0 ≤ c ∧ c < (q.children.length : Int) := by omega
  have hst : s.status = 2 ∨ s.status = 3 := by
    have h1 := h.ok.cs
    have h2 : s.status ≠ 1 := fun e => (h.ok.c1 e c.toNat).1 hc2
    have h3 : s.status ≠ 4 := fun e => by have := h.ok.c4 e c.toNat (by omega); omega
    omega
  have hval := h.ok.valid hc hn.2 hb
  have hck : check q s (exitEv now c) = 0 := check_exit hin (by decide) hn (fun x hx => (h.ok.rs.1 x hx).2) (.inr hc2)
  have hh := handle_exit hval hck
  change handle q s (exitEv now c) = _ at hh
  have hex : exited q now (s, []) c 1 = stopping q now (s, []) c := if_neg (by show ¬ sa s.children c.toNat = 1; omega)
  rw [hex] at hh
  obtain ⟨z, hz, hz3, hz4, hstop⟩ : ∃ z : Int, (z = 3 ∨ z = 4) ∧ (s.status = 3 → z = 3) ∧ (s.status = 2 → pol q c.toNat = 1 → z = 4) ∧ stopping q now (s, []) c = if 0 < count (set (s, []) c z).1.children 2 then set (s, []) c z else if (set (s, []) c z).1.status = 2 then again now (set (s, []) c z) else ended now (set (s, []) c z) := by
    unfold stopping
    by_cases hz : s.status = 2 ∧ polic q c ≠ 3
    · refine ⟨4, .inr rfl, fun e => by omega, fun _ _ => rfl, ?_⟩
      rw [if_pos hz]
    · refine ⟨3, .inl rfl, fun _ => rfl, fun e e1 => ?_, ?_⟩
      · rw [← pol_eq q hc0] at e1
        exact absurd ⟨e, by omega⟩ hz
      · rw [if_neg hz]
  have hRs := set_sa (s, []) c z (by show 0 ≤ c ∧ c < (s.children.length : Int); omega)
  have hRn := set_sn (s, []) c z (by show 0 ≤ c ∧ c < (s.children.length : Int); omega)
  have hRl : (set (s, []) c z).1.children.length = s.children.length := set_len (s, []) c z
  have hR2 : (set (s, []) c z).2 = [] := rfl
  have hRst : (set (s, []) c z).1.status = s.status := rfl
  have hRr : (set (s, []) c z).1.restarts = s.restarts := rfl
  have hRf : (set (s, []) c z).1.failed = s.failed := rfl
  generalize set (s, []) c z = R at hstop hRs hRn hRl hR2 hRst hRr hRf
  have hRs' : ∀ m : Nat, sa R.1.children m = if (m : Int) = c then z else sa s.children m := hRs
  have hRn' : ∀ m : Nat, sn R.1.children m = sn s.children m := hRn
  have hne1 : s.status ≠ 1 := by omega
  have hac3 := h.n3 hne1
  rw [hh, hstop]
  dsimp only
  by_cases hcnt : 0 < count R.1.children 2
  · rw [if_pos hcnt, hR2]
    refine ⟨rfl, rfl, ⟨⟨?_, ?_, ?_, ?_, ?_, ?_, ?_, ?_, ?_, ?_, ?_⟩, ?_, ?_, ?_, ?_, ?_, ?_, ?_, ?_⟩, by simp⟩
    · rw [hRl, hlen]
    · intro m hm; rw [hRs']; split
      · omega
      · exact h.ok.sts m hm
    · intro m hm; rw [hRn']; exact h.ok.sns m hm
    · rw [hRr]; exact h.ok.rs
    · rw [hRf, hRst]; exact h.ok.fl
    · rw [hRst]; exact h.ok.cs
    · rw [hRst]; intro e; omega
    · rw [hRst]; intro e
      obtain ⟨k1, k2, m, k3⟩ := h.ok.c2 e
      refine ⟨k1, (count_pos (by decide)).1 hcnt, m, ?_⟩
      rw [hRs', if_neg]; exact k3
      intro e2
      rw [show m = c.toNat by omega] at k3; omega
    · rw [hRst]; intro e
      refine ⟨(count_pos (by decide)).1 hcnt, fun m => ?_⟩
      rw [hRs', hz3 e]; split
      · omega
      · exact (h.ok.c3 e).2 m
    · rw [hRst]; intro e; omega
    · rw [hRst]; intro e m hm hp
      rw [hRs']; split
      · rename_i e2
        rw [hz4 (by omega) (by rw [← hp]; congr 1; omega)]; decide
      · exact h.ok.pm e m hm hp
    · intro _ m hm; rw [hRn']; exact h.sn2 hne1 m hm
    · refine ⟨L, rfl, hL, fun i => ?_⟩
      by_cases e : i = c
      · subst e
        refine ⟨fun hi => absurd hi hcL, fun hi => ?_⟩
        rw [hRs', if_pos (Int.toNat_of_nonneg hi.1)] at hi; omega
      · have hmi := hm i
        rw [List.mem_cons] at hmi
        constructor
        · intro hi
          obtain ⟨a, a2⟩ := hmi.1 (.inr hi)
          refine ⟨a, ?_⟩
          rw [hRs', if_neg (by omega)]; exact a2
        · rintro ⟨a, a2⟩
          rw [hRs', if_neg (by omega)] at a2
          rcases hmi.2 ⟨a, a2⟩ with e3 | e3
          · exact absurd e3 e
          · exact e3
    · rw [hRr, List.append_nil]; exact h.rel
    · rw [hRst, hRr]; exact h.r2
    · rw [List.append_nil]; exact fun _ => hac3
    · rw [List.append_nil]; exact h.n3'
    · rw [List.append_nil]; exact h.one
    · rw [List.append_nil, hRf, hRst]; exact h.esc
  · have hno := (count_zero (l := R.1.children) (s := 2) (by decide)).1 (by have := count_nn R.1.children 2; omega)
    have hLn : L = [] := by
      cases L with
      | nil => rfl
      | cons i L =>
        obtain ⟨a, a2⟩ := (hm i).1 (List.mem_cons_of_mem _ (List.mem_cons_self ..))
        have hic : i ≠ c := fun e => hcL (by rw [e]; exact List.mem_cons_self ..)
        have := hno i.toNat
        rw [hRs', if_neg (by omega)] at this
        exact absurd a2 this
    subst hLn
    rw [if_neg hcnt]
    rcases hst with hst | hst
    · rw [if_pos (hRst.trans hst)]
      obtain ⟨i1, i2, i3, i4, i5⟩ := again_ok now R
      have hfl : s.failed = false := by
        cases hf : s.failed with
        | false => rfl
        | true => rcases h.ok.fl hf with e | e <;> omega
      have hlen2 : (again now R).1.children.length = q.children.length := i1.len.trans (hRl.trans hlen)
      have hout : (again now R).2 = ((idx R.1.children.length).filter (isSa R.1.children 4)).map (startEv now) := by rw [i5, hR2, List.nil_append]
      have hfi := filter_idx_len R.1.children.length (isSa R.1.children 4)
      rw [hRl, hlen] at hfi
      have hrel : (again now R).1.restarts = recent q s0.restarts now ++ [now] := i1.restarts.trans (hRr.trans (h.r2 hst))
      have hsts : ∀ m, m < q.children.length → sa (again now R).1.children m = 1 ∨ sa (again now R).1.children m = 3 := fun m hm' => by
        have h1 := hno m
        have h2 : 1 ≤ sa R.1.children m ∧ sa R.1.children m ≤ 4 := by
          rw [hRs']; split
          · omega
          · exact h.ok.sts m hm'
        rw [i3]; split
        · exact .inl rfl
        · omega
      refine ⟨rfl, by rw [hout]; exact adds_start _ _, ⟨⟨hlen2, fun m hm' => by have := hsts m hm'; omega, fun m hm' => ?_, ?_, ?_, by rw [i2]; omega, fun _ m => ?_, fun e => by omega, fun e => by omega, fun e => by omega, fun _ m hm' hp => ?_⟩, fun e => absurd i2 e, ⟨[], rfl, List.nodup_nil, fun i => ⟨fun hi => (by cases hi), fun ⟨a, a2⟩ => ?_⟩⟩, .inr hrel, fun e => by omega, fun e => absurd i2 e, ?_, fun e => absurd e (h.ok.c2 hst).1, ?_⟩, ?_⟩
      · have h1 := h.ok.sns m hm'
        have h2 := h.sn2 hne1 m hm'
        rw [i4, hRn']; split <;> omega
      · rw [hrel, ← h.r2 hst]; exact h.ok.rs
      · intro hf
        have : (again now R).1.failed = s.failed := i1.failed.trans hRf
        rw [this, hfl] at hf; cases hf
      · have h1 := hno m
        rw [i3]; split <;> omega
      · have h1 : sa R.1.children m ≠ 3 := by
          rw [hRs']; split
          · rename_i e2
            rw [hz4 hst (by rw [← hp]; congr 1; omega)]; decide
          · exact h.ok.pm (.inr hst) m hm' hp
        rw [i3]; split <;> omega
      · have h1 := hno i.toNat
        rw [i3] at a2
        split at a2
        · cases a2
        · exact absurd a2 h1
      · rw [ac_append, hac3, hout, ac_start3, hRl, hlen]; omega
      · rw [ac_append, hout, ac_start _ _ (by decide), h.esc, hfl, i2]
        simp [hst]
      · rw [hout, List.length_map, hRl, hlen]; omega
    · rw [if_neg (by rw [hRst]; omega)]
      obtain ⟨i1, i2⟩ := ended_ok now R
      rw [hR2, List.nil_append] at i2
      rw [i1, i2]
      have hall : ∀ m, m < q.children.length → sa R.1.children m = 3 := fun m hm' => by
        have h1 := hno m
        have h2 := (h.ok.c3 hst).2 m
        have h3 := h.ok.sts m hm'
        rw [hRs', hz3 hst] at h1 ⊢
        split at h1
        · rename_i e2; rw [if_pos e2]
        · rename_i e2; rw [if_neg e2]; omega
      refine ⟨rfl, adds_esc _ _, ⟨⟨hRl.trans hlen, fun m hm' => (by have := hall m hm'; show 1 ≤ sa R.1.children m ∧ sa R.1.children m ≤ 4; omega), fun m hm' => ?_, ?_, fun _ => .inr rfl, ⟨(by show (1 : Int) ≤ 4; decide), (by show (4 : Int) ≤ 4; decide)⟩, fun e => (by cases e), fun e => (by cases e), fun e => (by cases e), fun _ m hm' => hall m hm', fun e => (by rcases e with e | e <;> cases e)⟩, fun _ m hm' => ?_, ⟨[], rfl, List.nodup_nil, fun i => ⟨fun hi => (by cases hi), fun ⟨a, a2⟩ => absurd a2 (hno i.toNat)⟩⟩, ?_, fun e => (by cases e), fun _ => ?_, ?_, fun e => ?_, ?_⟩, ?_⟩
      · show 1 ≤ sn R.1.children m ∧ _
        rw [hRn']; exact h.ok.sns m hm'
      · show Rs q R.1.restarts now
        rw [hRr]; exact h.ok.rs
      · show sn R.1.children m ≤ b
        rw [hRn']; exact h.sn2 hne1 m hm'
      · show (R.1.restarts = _ ∧ _) ∨ R.1.restarts = _
        rw [hRr, ac_append, ac_esc3, Nat.add_zero]; exact h.rel
      · rw [ac_append, hac3, ac_esc3]
      · rw [ac_append, hac3, ac_esc3]; omega
      · rw [ac_append, hac3, ac_esc3]; omega
      · have he := h.esc
        rw [if_neg (by omega)] at he
        rw [ac_append, he, ac_esc, Nat.zero_add]
        show _ = if R.1.failed = true ∧ (4 : Int) = 4 then 1 else 0
        simp
      · cases R.1.failed <;> simp
end Sv
