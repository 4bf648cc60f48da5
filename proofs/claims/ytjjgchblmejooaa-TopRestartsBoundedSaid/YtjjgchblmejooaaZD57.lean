/- Supervisors: the laws of what happens. No condition. -/
import Derived.Test.YtjjgchblmejooaaZC57
set_option linter.unusedVariables false
set_option linter.unusedSimpArgs false
namespace Sv
abbrev Lg := List (Ss × List Evt × Int)
structure Pl where
  s : Ss
  log : Lg
  now : Int
def evt (q : Spc) (now : Int) (h : Hp) : Evt := if h.kind = 2 then ⟨2, -1, 0, now⟩ else ⟨1, h.child.tmod q.children.length, 100 * h.kind.tmod 2, now⟩
def idle (q : Spc) (s : Ss) (h : Hp) : Prop := 2 < h.kind ∨ s.status = 4 ∨ (h.kind < 2 ∧ (s.children.getD (h.child.tmod q.children.length).toNat default).status ≠ 1)
instance {q : Spc} {s : Ss} {h : Hp} : Decidable (idle q s h) := by unfold idle; exact inferInstance
def fin (q : Spc) (now : Int) (s : Ss) (v : Evt) : Wk := wk q now s v 34
def pstep (q : Spc) (x : Pl) (h : Hp) : Pl :=
  if idle q x.s h then ⟨x.s, x.log, x.now + h.after⟩
  else ⟨(fin q (x.now + h.after) x.s (evt q (x.now + h.after) h)).1, x.log ++ [((fin q (x.now + h.after) x.s (evt q (x.now + h.after) h)).1, (fin q (x.now + h.after) x.s (evt q (x.now + h.after) h)).2.1, x.now + h.after)], x.now + h.after⟩
def P0 (q : Spc) : Pl := ⟨(new q).1, [((new q).1, (new q).2.1, 0)], 0⟩
def play (q : Spc) (l : List Hp) (k : Nat) : Pl := (l.take k).foldl (pstep q) (P0 q)
theorem play_succ {q : Spc} {l : List Hp} {k : Nat} (hk : k < l.length) : play q l (k + 1) = pstep q (play q l k) l[k] := by
  unfold play
  rw [List.take_add_one, List.getElem?_eq_getElem hk, List.foldl_append]; rfl
structure SetP (q : Spc) (s : Ss) : Prop where
  len : s.children.length = q.children.length
  st : s.status = 1 ∨ s.status = 4
  run : s.status = 1 → ∀ m, m < q.children.length → pol q m = 1 → sa s.children m = 1
  stp : s.status = 4 → ∀ m, sa s.children m ≠ 1
  fl : s.failed = true → s.status = 4
theorem Ok.setP {q : Spc} {s : Ss} {now b : Int} (h : Ok q s now b) (hs : s.status = 1 ∨ s.status = 4) : SetP q s := by
  refine ⟨h.len, hs, fun e m hm hp => ?_, fun e m e1 => ?_, fun e => ?_⟩
  · have h1 := h.sts m hm
    have h2 := h.c1 e m
    have h3 := h.pm (.inl e) m hm hp
    omega
  · have hm := sa_lt e1 (by decide)
    have := h.c4 e m (by rw [h.len] at hm; exact hm)
    omega
  · rcases h.fl e with e1 | e1
    · rcases hs with e2 | e2 <;> omega
    · exact e1
def esc (l : Lg) : Nat := (l.map (fun y => ac y.2.1 5)).sum
theorem esc_append (a b : Lg) : esc (a ++ b) = esc a + esc b := by unfold esc; rw [List.map_append, List.sum_append]
def rtimes (l : Lg) : List Int := (l.filter (fun y => decide (0 < ac y.2.1 3))).map (fun y => y.2.2)
theorem rtimes_append (a b : Lg) : rtimes (a ++ b) = rtimes a ++ rtimes b := by unfold rtimes; rw [List.filter_append, List.map_append]
def late (q : Spc) (H : List Int) (t : Int) : Nat := (H.filter (fun u => decide (t - q.window < u))).length
theorem late_append (q : Spc) (a b : List Int) (t : Int) : late q (a ++ b) t = late q a t + late q b t := by unfold late; rw [List.filter_append, List.length_append]
theorem late_le (q : Spc) (a : List Int) (t : Int) : late q a t ≤ a.length := List.length_filter_le _ _
theorem late_recent {q : Spc} (l : List Int) {now t : Int} (h : now ≤ t) : late q (recent q l now) t = late q l t := by
  unfold late recent
  rw [List.filter_filter]
  congr 1
  refine List.filter_congr fun u _ => ?_
  rw [Bool.eq_iff_iff]
  simp
  omega
structure PInv (q : Spc) (k : Nat) (x : Pl) : Prop where
  ok : Ok q x.s x.now (1 + (k : Int))
  st : x.s.status = 1 ∨ x.s.status = 4
  now : 0 ≤ x.now ∧ x.now ≤ 255 * (k : Int)
  ne : 1 ≤ x.log.length ∧ x.log.length ≤ k + 1
  s1 : ∀ y ∈ x.log, SetP q y.1 ∧ y.2.1.length ≤ 2000 ∧ 0 ≤ y.2.2 ∧ y.2.2 ≤ 255 * (k : Int)
  s2 : ∀ j (h : j < x.log.length), esc (x.log.take (j + 1)) = if x.log[j].1.failed = true then 1 else 0
  last : esc x.log = if x.s.failed = true then 1 else 0
  b1 : ∀ y ∈ x.log.drop 1, ac y.2.1 3 ≤ q.children.length ∧ (q.strategy = 1 → ac y.2.1 3 ≤ 1)
  b2 : ∀ i (h : i < (rtimes (x.log.drop 1)).length), ((late q ((rtimes (x.log.drop 1)).take (i + 1)) (rtimes (x.log.drop 1))[i] : Nat) : Int) ≤ q.intensity
  b3 : ∀ t, x.now ≤ t → late q (rtimes (x.log.drop 1)) t ≤ late q x.s.restarts t
theorem pinv0 {q : Spc} (hc : chk q = 0) : PInv q 0 (P0 q) := by
  have hcok := chk_ok hc
  have hl := hcok.len
  have hnew : new q = (⟨1, List.replicate q.children.length ⟨1, 1⟩, [], false⟩, (List.range q.children.length).map (fun (i : Nat) => ⟨3, (i : Int), 0, 0⟩), 0) := by
    unfold new
    rw [if_neg (by omega)]
  have hsa : ∀ m, m < q.children.length → sa (new q).1.children m = 1 := fun m hm => by
    rw [hnew]; unfold sa; simp [List.getD, hm]
  have hsn : ∀ m, m < q.children.length → sn (new q).1.children m = 1 := fun m hm => by
    rw [hnew]; unfold sn; simp [List.getD, hm]
  have hlen : (new q).1.children.length = q.children.length := by rw [hnew]; simp
  have hst : (new q).1.status = 1 := by rw [hnew]
  have hf : (new q).1.failed = false := by rw [hnew]
  have hr : (new q).1.restarts = [] := by rw [hnew]
  have hok : Ok q (new q).1 0 (1 + ((0 : Nat) : Int)) := by
    refine ⟨hlen, fun m hm => by rw [hsa m hm]; omega, fun m hm => by rw [hsn m hm]; omega, by rw [hr]; exact Rs.nil hcok.int.1, fun e => ?_, by rw [hst]; omega, fun _ m => ?_, fun e => by omega, fun e => by omega, fun e => by omega, fun _ m hm _ => by rw [hsa m hm]; decide⟩
    · rw [hf] at e; cases e
    · rcases Nat.lt_or_ge m q.children.length with h | h
      · rw [hsa m h]; decide
      · rw [sa_out (by omega)]; decide
  have hesc : ac (new q).2.1 5 = 0 := by
    rw [hnew]
    unfold ac
    rw [List.filter_eq_nil_iff.2]; rfl
    intro a ha
    obtain ⟨i, _, rfl⟩ := List.mem_map.1 ha
    simp
  have hol : (new q).2.1.length ≤ 2000 := by rw [hnew]; simp; omega
  refine ⟨hok, .inl hst, ⟨Int.le_refl _, by show (0 : Int) ≤ _; omega⟩, ⟨Nat.le_refl _, Nat.le_refl _⟩, fun y hy => ?_, fun j hj => ?_, ?_, fun y hy => (by cases hy), fun i h => absurd h (Nat.not_lt_zero _), fun t _ => Nat.zero_le _⟩
  · rw [List.mem_singleton.1 hy]
    exact ⟨hok.setP (.inl hst), hol, Int.le_refl _, by show (0 : Int) ≤ _; omega⟩
  · obtain rfl : j = 0 := by have : j < 1 := hj; omega
    show esc [_] = if (new q).1.failed = true then 1 else 0
    rw [hf]
    simp [esc, hesc]
  · show esc [_] = if (new q).1.failed = true then 1 else 0
    rw [hf]
    simp [esc, hesc]
def okHp (h : Hp) : Prop := (0 ≤ h.child ∧ h.child ≤ 255) ∧ (0 ≤ h.kind ∧ h.kind ≤ 255) ∧ (0 ≤ h.after ∧ h.after ≤ 255)
theorem tmod_in {a : Int} {n : Nat} (h : 0 ≤ a) (hn : 1 ≤ n) : 0 ≤ a.tmod n ∧ a.tmod n < (n : Int) := by
  rw [Int.tmod_eq_emod_of_nonneg h]
  exact ⟨Int.emod_nonneg _ (by omega), Int.emod_lt_of_pos _ (by omega)⟩
/-- The work that is done where something happens. -/
theorem play_work {q : Spc} {k : Nat} {x : Pl} {h : Hp} (hp : PInv q k x) (hc : chk q = 0) (hk : k < 40) (hh : okHp h) (hi : ¬ idle q x.s h) :
    ∃ K, WOk q (x.now + h.after) x.s (evt q (x.now + h.after) h) K ∧ Mid q x.s (x.now + h.after) (1 + (k : Int)) (wk q (x.now + h.after) x.s (evt q (x.now + h.after) h) K).1 (wk q (x.now + h.after) x.s (evt q (x.now + h.after) h) K).2.1 [] := by
  have hcok := chk_ok hc
  have hl := hcok.len
  obtain ⟨h1, h2, h3⟩ := hh
  have hnow := hp.now
  unfold idle at hi
  simp only [not_or, not_and, Classical.not_not] at hi
  have hs : x.s.status = 1 := by rcases hp.st with e | e; exact e; exact absurd e hi.2.1
  have ht := tmod_in h1.1 hl.1
  refine work_ok (hp.ok.late (by omega) (Int.le_refl _)) hs hc ⟨by omega, by omega⟩ (by omega) ?_
  unfold evt
  by_cases e : h.kind = 2
  · rw [if_pos e]; exact .inl rfl
  · rw [if_neg e]
    refine .inr ⟨_, _, rfl, ?_, ht.1, hi.2.2 (by omega)⟩
    have : h.kind = 0 ∨ h.kind = 1 := by omega
    rcases this with e | e <;> rw [e] <;> decide
theorem pinv_step {q : Spc} {k : Nat} {x : Pl} {h : Hp} (hp : PInv q k x) (hc : chk q = 0) (hk : k < 40) (hh : okHp h) : PInv q (k + 1) (pstep q x h) := by
  have hcok := chk_ok hc
  have hnow := hp.now
  have h3 := hh.2.2
  unfold pstep
  by_cases hi : idle q x.s h
  · rw [if_pos hi]
    refine ⟨hp.ok.late (by show x.now ≤ x.now + h.after; omega) (by push_cast; omega), hp.st, ⟨by show 0 ≤ x.now + h.after; omega, by show x.now + h.after ≤ _; push_cast; omega⟩, ⟨hp.ne.1, by have := hp.ne.2; show x.log.length ≤ _; omega⟩, fun y hy => ?_, hp.s2, hp.last, hp.b1, hp.b2, fun t ht => hp.b3 t (by have : x.now + h.after ≤ t := ht; omega)⟩
    obtain ⟨a, b, c, d⟩ := hp.s1 y hy
    exact ⟨a, b, c, by push_cast; omega⟩
  · rw [if_neg hi]
    obtain ⟨K, hK, hM⟩ := play_work hp hc hk hh hi
    have hfin : fin q (x.now + h.after) x.s (evt q (x.now + h.after) h) = wk q (x.now + h.after) x.s (evt q (x.now + h.after) h) K := by
      have := wk_stay hK.stop (34 - K)
      rw [show K + (34 - K) = 34 by have := hK.le; omega] at this
      exact this
    have hal := (hK.bd K (Nat.le_refl _)).1
    have hKle := hK.le
    rw [hfin]
    have hs1 : x.s.status = 1 := by
      unfold idle at hi
      rcases hp.st with e | e
      · exact e
      · exact absurd (.inr (.inl e)) hi
    have hxf : x.s.failed = false := by
      cases hf : x.s.failed with
      | false => rfl
      | true => rcases hp.ok.fl hf with e | e <;> omega
    generalize wk q (x.now + h.after) x.s (evt q (x.now + h.after) h) K = W at *
    obtain ⟨s', acts, w⟩ := W
    dsimp only at *
    have hset := hM.settled
    have hSP := hM.ok.setP hset
    have hlast := hp.last
    rw [hxf, if_neg (by decide)] at hlast
    have hesc : esc (x.log ++ [(s', acts, x.now + h.after)]) = if s'.failed = true then 1 else 0 := by
      rw [esc_append, hlast]
      show _ + esc [_] = _
      simp only [esc, List.map_cons, List.map_nil, List.sum_cons, List.sum_nil]
      rw [hM.esc]
      by_cases e : s'.failed = true
      · rw [if_pos ⟨e, hSP.fl e⟩, if_pos e]; rfl
      · rw [if_neg (fun h => e h.1), if_neg e]; rfl
    have hd : (x.log ++ [(s', acts, x.now + h.after)]).drop 1 = x.log.drop 1 ++ [(s', acts, x.now + h.after)] := by
      rw [List.drop_append_of_le_length hp.ne.1]
    have hll : (x.log ++ [(s', acts, x.now + h.after)]).length = x.log.length + 1 := by simp
    refine ⟨?_, hset, ⟨by show 0 ≤ x.now + h.after; omega, by show x.now + h.after ≤ _; push_cast; omega⟩, ⟨by rw [hll]; omega, by rw [hll]; have := hp.ne.2; omega⟩, fun y hy => ?_, fun j hj => ?_, hesc, fun y hy => ?_, fun i hi2 => ?_, fun t ht => ?_⟩
    · exact hM.ok.late (Int.le_refl _) (by push_cast; omega)
    · rcases List.mem_append.1 hy with hy | hy
      · obtain ⟨a, b, c, d⟩ := hp.s1 y hy
        exact ⟨a, b, c, by push_cast; omega⟩
      · rw [List.mem_singleton.1 hy]
        exact ⟨hSP, by dsimp only; omega, by dsimp only; omega, by dsimp only; push_cast; omega⟩
    · rw [hll] at hj
      rcases Nat.lt_or_eq_of_le (Nat.le_of_lt_succ hj) with e | e
      · rw [List.take_append_of_le_length (by omega)]
        have := hp.s2 j e
        simp only [List.getElem_append_left e]
        exact this
      · subst e
        rw [List.take_of_length_le (by rw [hll]; omega), hesc]
        simp
    · rw [hd] at hy
      rcases List.mem_append.1 hy with hy | hy
      · exact hp.b1 y hy
      · rw [List.mem_singleton.1 hy]
        exact ⟨hM.n3', hM.one⟩
    · have key : ∀ (H' : List Int), H' = rtimes (x.log.drop 1 ++ [(s', acts, x.now + h.after)]) → ∀ (hi3 : i < H'.length), ((late q (H'.take (i + 1)) H'[i] : Nat) : Int) ≤ q.intensity := by
        intro H' hH' hi3
        rw [rtimes_append] at hH'
        by_cases e : 0 < ac acts 3
        · have e1 : rtimes [(s', acts, x.now + h.after)] = [x.now + h.after] := by simp [rtimes, e]
          rw [e1] at hH'
          subst hH'
          have hlen : (rtimes (x.log.drop 1) ++ [x.now + h.after]).length = (rtimes (x.log.drop 1)).length + 1 := by simp
          rw [hlen] at hi3
          rcases Nat.lt_or_eq_of_le (Nat.le_of_lt_succ hi3) with e2 | e2
          · rw [List.take_append_of_le_length (by omega)]
            simp only [List.getElem_append_left e2]
            exact hp.b2 i e2
          · subst e2
            rw [List.take_of_length_le (by rw [hlen]; omega)]
            have hr : s'.restarts = recent q x.s.restarts (x.now + h.after) ++ [x.now + h.after] := by
              rcases hM.rel with ⟨_, e3⟩ | e3
              · omega
              · exact e3
            have h4 := hM.ok.rs.2.2.2
            rw [hr] at h4
            have h5 := hp.b3 (x.now + h.after) (by omega)
            have h6 := late_recent (q := q) x.s.restarts (Int.le_refl (x.now + h.after))
            have h7 := late_le q (recent q x.s.restarts (x.now + h.after)) (x.now + h.after)
            have h8 := late_le q [x.now + h.after] (x.now + h.after)
            rw [List.length_append] at h4
            have h9 : (rtimes (x.log.drop 1) ++ [x.now + h.after])[(rtimes (x.log.drop 1)).length]'(by rw [hlen]; omega) = x.now + h.after := by simp
            rw [h9, late_append]
            have h10 : [x.now + h.after].length = 1 := rfl
            omega
        · have e1 : rtimes [(s', acts, x.now + h.after)] = [] := by simp [rtimes, e]
          rw [e1, List.append_nil] at hH'
          subst hH'
          exact hp.b2 i hi3
      exact key _ (by rw [← hd]) hi2
    · dsimp only at ht ⊢
      rw [hd, rtimes_append, late_append]
      have h5 := hp.b3 t (by omega)
      rcases hM.rel with ⟨e1, e2⟩ | e1
      · have e3 : rtimes [(s', acts, x.now + h.after)] = [] := by simp [rtimes, e2]
        rw [e1, e3]; exact h5
      · rw [e1, late_append, late_recent _ ht]
        by_cases e : 0 < ac acts 3
        · have e3 : rtimes [(s', acts, x.now + h.after)] = [x.now + h.after] := by simp [rtimes, e]
          rw [e3]; omega
        · have e3 : rtimes [(s', acts, x.now + h.after)] = [] := by simp [rtimes, e]
          rw [e3]
          have : late q [] t = 0 := rfl
          omega
theorem pinv {q : Spc} {l : List Hp} (hc : chk q = 0) (hl : ∀ h ∈ l, okHp h) : ∀ k, k ≤ l.length → k ≤ 40 → PInv q k (play q l k)
  | 0, _, _ => pinv0 hc
  | k + 1, h1, h2 => by
    rw [play_succ (by omega)]
    exact pinv_step (pinv hc hl k (by omega) (by omega)) hc (by omega) (hl _ (List.getElem_mem _))
end Sv
