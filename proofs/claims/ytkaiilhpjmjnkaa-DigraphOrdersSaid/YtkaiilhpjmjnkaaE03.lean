/- What can be reached. -/
import Derived.Test.YtkaiilhpjmjnkaaD03
set_option linter.unusedVariables false
set_option linter.unusedSimpArgs false
set_option maxRecDepth 10000
namespace Go.Proofs
open Go.Aw Wl Dg
theorem visit_step (g : Dg.Gr) (hg : Dg.OkG g) (pa pb pc js f : Nat) (ih : ∀ (s : Int → Bool) (u : Int), 0 ≤ u ∧ u < g.n → Dg.uns g.n.toNat s < f → ACalls Try.prog 52 [.int u, .ptr pa 0, .ptr pb 0, .ptr pc 0] [.cells pa [.arr js 0 g.n.toNat], .cells js (ea g.n.toNat (fun w => .bool (s w))), .cells pb (encG g), .cells pc [.clo 52 [.ptr pa 0, .ptr pb 0, .ptr pc 0]]] (fun v st => st = [.cells pa [.arr js 0 g.n.toNat], .cells js (ea g.n.toNat (fun w => .bool ((Dg.dfs g f s u) w))), .cells pb (encG g), .cells pc [.clo 52 [.ptr pa 0, .ptr pb 0, .ptr pc 0]]])) (s : Int → Bool) (u : Int) (hu : 0 ≤ u ∧ u < g.n) (hf : Dg.uns g.n.toNat s < f + 1) : ACalls Try.prog 52 [.int u, .ptr pa 0, .ptr pb 0, .ptr pc 0] [.cells pa [.arr js 0 g.n.toNat], .cells js (ea g.n.toNat (fun w => .bool (s w))), .cells pb (encG g), .cells pc [.clo 52 [.ptr pa 0, .ptr pb 0, .ptr pc 0]]] (fun v st => st = [.cells pa [.arr js 0 g.n.toNat], .cells js (ea g.n.toNat (fun w => .bool ((Dg.dfs g (f + 1) s u) w))), .cells pb (encG g), .cells pc [.clo 52 [.ptr pa 0, .ptr pb 0, .ptr pc 0]]]) := by
  refine acallsX_body Try.func52 (by kernel_rfl) rfl Try.ntmps52 (le_ rfl) ?_
  rw [Try.results52]
  have hgn := hg.nb
  refine awx_seq ?_
  refine awx_seq ?_
  refine awx_region rfl ?_
  refine st_p (fun _ => by exact y_load (.plain rfl) (by first | exact .here | exact k1 | exact k2 | exact k3 | exact k4 | exact k5 | exact k6 | exact k7 | exact k8 | exact k9 | exact k10 | exact k11 | exact k12 | exact k13) rfl) rfl ?_
  refine st_p (fun _ => by exact y_move (.plain rfl)) rfl ?_
  refine st_p (fun _ => by exact y_indexArr (.plain rfl) (.plain rfl) (Int.toNat_of_nonneg hu.1).symm (by omega)) rfl ?_
  refine st_p (fun _ => by exact y_load (.plain rfl) (by first | exact .here | exact k1 | exact k2 | exact k3 | exact k4 | exact k5 | exact k6 | exact k7 | exact k8 | exact k9 | exact k10 | exact k11 | exact k12 | exact k13) (ea_get _ ⟨hu.1, by omega⟩)) rfl ?_
  refine aops_nil ?_
  refine awx_cond rfl (fun h1 => ?_) (fun h1 => ?_)
  · skip
    try simp only [decide_eq_true_eq, decide_eq_false_iff_not, Bool.not_eq_true', Bool.not_eq_false', Bool.not_eq_true, Bool.not_eq_false, List.length_map, Int.ofNat_lt, Int.ofNat_le, Bool.or_eq_true, Bool.and_eq_true, Bool.or_eq_false_iff, Bool.and_eq_false_iff] at h1
    refine awx_ret ?_
    exact retX (.inr rfl) (List.Perm.refl _) .nil VShift.refl (by rw [Dg.dfs, if_pos h1])
  · skip
    try simp only [decide_eq_true_eq, decide_eq_false_iff_not, Bool.not_eq_true', Bool.not_eq_false', Bool.not_eq_true, Bool.not_eq_false, List.length_map, Int.ofNat_lt, Int.ofNat_le, Bool.or_eq_true, Bool.and_eq_true, Bool.or_eq_false_iff, Bool.and_eq_false_iff] at h1
    refine awx_skip ?_
    refine awx_seq ?_
    refine awx_region rfl ?_
    refine st_p (fun _ => by exact y_load (.plain rfl) (by first | exact .here | exact k1 | exact k2 | exact k3 | exact k4 | exact k5 | exact k6 | exact k7 | exact k8 | exact k9 | exact k10 | exact k11 | exact k12 | exact k13) rfl) rfl ?_
    refine st_p (fun _ => by exact y_move (.plain rfl)) rfl ?_
    refine st_p (fun _ => by exact y_indexArr (.plain rfl) (.plain rfl) (Int.toNat_of_nonneg hu.1).symm (by omega)) rfl ?_
    refine st_s (fun _ => by exact y_store (by rfl) rfl (.plain rfl) (.plain rfl) (by first | exact .here | exact u1 | exact u2 | exact u3 | exact u4 | exact u5 | exact u6 | exact u7 | exact u8 | exact u9 | exact u10 | exact u11 | exact u12 | exact u13) (by rw [ea_len]; simp; omega)) ?_
    refine aops_nil ?_
    rw [ea_set _ _ ⟨hu.1, by omega⟩, show (ea g.n.toNat (fun j => if j = u then AV.bool true else AV.bool (s j))) = ea g.n.toNat (fun w => .bool (Dg.upd s u true w)) from ea_congr fun j _ => by unfold Dg.upd; split <;> rfl]
    have hus := Dg.uns_upd (m := g.n.toNat) (s := s) (u := u) ⟨hu.1, by omega⟩ (by simpa using h1)
    refine awx_seq ?_
    refine awx_region rfl ?_
    refine st_p (fun _ => by exact y_loadW (.plain rfl) (by first | exact .here | exact k1 | exact k2 | exact k3 | exact k4 | exact k5 | exact k6 | exact k7 | exact k8 | exact k9 | exact k10 | exact k11 | exact k12 | exact k13) (by rfl)) rfl ?_
    refine st_p (fun _ => by exact y_move (.plain rfl)) rfl ?_
    refine aops_call (blt_lt rfl) (.plain rfl) (.cons (.plain rfl) (.cons (.plain rfl) .nil)) (ACalls.frame (st1 := []) (succ0_c g u) (List.Perm.refl _) ?_)
    rintro v st ⟨si, sj, rfl, rfl⟩
    refine aops_nil ?_
    refine awx_block ?_
    refine awx_rangeFunc rfl fun iL iD T fn D RS hRS => ?_
    refine ACalls.frame (succ_c g hg u hu si sj (.yld iL _ _ T) (fun k st => st = Aw.Item.raw iL (RS .ready none) :: [.cells pa [.arr js 0 g.n.toNat], .cells js (ea g.n.toNat (fun w => .bool ((((Dg.suc g u).take k).foldl (fun s v => Dg.dfs g f s v) (Dg.upd s u true)) w))), .cells pb (encG g), .cells pc [.clo 52 [.ptr pa 0, .ptr pb 0, .ptr pc 0]]]) (fun _ => False) _ rfl ?_) (Takes.perm (by apply Takes.cons (by first | exact .here | exact k1 | exact k2 | exact k3 | exact k4 | exact k5 | exact k6 | exact k7 | exact k8 | exact k9 | exact k10 | exact k11 | exact k12 | exact k13); apply Takes.cons (by first | exact .here | exact k1 | exact k2 | exact k3 | exact k4 | exact k5 | exact k6 | exact k7 | exact k8 | exact k9 | exact k10 | exact k11 | exact k12 | exact k13); apply Takes.cons (by first | exact .here | exact k1 | exact k2 | exact k3 | exact k4 | exact k5 | exact k6 | exact k7 | exact k8 | exact k9 | exact k10 | exact k11 | exact k12 | exact k13); apply Takes.cons (by first | exact .here | exact k1 | exact k2 | exact k3 | exact k4 | exact k5 | exact k6 | exact k7 | exact k8 | exact k9 | exact k10 | exact k11 | exact k12 | exact k13); apply Takes.cons (by first | exact .here | exact k1 | exact k2 | exact k3 | exact k4 | exact k5 | exact k6 | exact k7 | exact k8 | exact k9 | exact k10 | exact k11 | exact k12 | exact k13); apply Takes.cons (by first | exact .here | exact k1 | exact k2 | exact k3 | exact k4 | exact k5 | exact k6 | exact k7 | exact k8 | exact k9 | exact k10 | exact k11 | exact k12 | exact k13); apply Takes.cons (by first | exact .here | exact k1 | exact k2 | exact k3 | exact k4 | exact k5 | exact k6 | exact k7 | exact k8 | exact k9 | exact k10 | exact k11 | exact k12 | exact k13); exact .nil _)) ?_
    · skip
      rintro k hk st rfl
      refine AYields.round hRS (by decide) rfl (fun lb => ?_)
      refine awx_region rfl ?_
      refine st_p (fun _ => by exact y_assign (.plain rfl)) rfl ?_
      refine aops_nil ?_
      refine ⟨rfl, ?_⟩
      refine awx_block ?_
      refine awx_region rfl ?_
      refine st_p (fun _ => by exact y_load (.plain rfl) (by first | exact .here | exact k1 | exact k2 | exact k3 | exact k4 | exact k5 | exact k6 | exact k7 | exact k8 | exact k9 | exact k10 | exact k11 | exact k12 | exact k13) rfl) rfl ?_
      refine st_p (fun _ => by exact y_move (.plain rfl)) rfl ?_
      refine aops_call (blt_lt rfl) (.plain rfl) (.cons (.plain rfl) .nil) ((ih _ _ ((hg.row u).2 _ (List.getElem_mem hk)) (Nat.lt_of_le_of_lt Dg.uns_fold (by omega))).mono ?_)
      rintro v st rfl
      refine aops_nil ?_
      refine ⟨true, rfl, fun _ => ?_, fun h => by cases h⟩
      rw [Dg.fold_succ _ _ _ hk]
    rintro v st' ⟨stx, rfl, rfl | hx⟩
    rotate_left
    · cases hx
    refine ⟨.ready, none, _, Take.perm (.there (.there .here)), by simp, ?_⟩
    rw [Dg.fold_all]
    refine retX (.inl rfl) (Takes.perm (by apply Takes.cons (by first | exact .here | exact k1 | exact k2 | exact k3 | exact k4 | exact k5 | exact k6 | exact k7 | exact k8 | exact k9 | exact k10 | exact k11 | exact k12 | exact k13); exact .nil _)) .nil (VShift.of2 (st' := [.cells pa [.arr js 0 g.n.toNat], .cells js (ea g.n.toNat (fun w => .bool ((List.foldl (fun s v => Dg.dfs g f s v) (Dg.upd s u true) (Dg.suc g u)) w))), .cells pb (encG g), .cells pc [.clo 52 [.ptr pa 0, .ptr pb 0, .ptr pc 0]]]) (AV.Imp.refl _) (by (repeat (first | exact .refl _ | exact .nil _ | apply ItLe2.cons (by first | exact .here | exact k1 | exact k2 | exact k3 | exact k4 | exact k5 | exact k6 | exact k7 | exact k8 | exact k9 | exact k10 | exact k11 | exact k12 | exact k13) | apply ItLe2.cells (by first | exact .here | exact k1 | exact k2 | exact k3 | exact k4 | exact k5 | exact k6 | exact k7 | exact k8 | exact k9 | exact k10 | exact k11 | exact k12 | exact k13) (by repeat (first | exact .nil | refine .cons (by first | exact AV.Imp.refl _ | exact Sl.imp | exact AV.Imp.agg RowOf.imp | exact AV.Imp.grow_sl | exact AV.Imp.nil_grow | exact AV.Imp.full_grow | exact AV.Imp.own_grow | exact AV.Imp.grow_of rfl | exact AV.Imp.sl_of rfl | exact AV.Imp.int_of (by omega) | exact AV.Imp.of_eq (by first | omega | simpa)) ?_)) | apply ItLe2.tail0)); done)) ?_
    rw [Dg.dfs, if_neg (by simpa using h1)]

theorem visit_c (g : Dg.Gr) (hg : Dg.OkG g) (pa pb pc js : Nat) : ∀ (f : Nat) (s : Int → Bool) (u : Int), 0 ≤ u ∧ u < g.n → Dg.uns g.n.toNat s < f → ACalls Try.prog 52 [.int u, .ptr pa 0, .ptr pb 0, .ptr pc 0] [.cells pa [.arr js 0 g.n.toNat], .cells js (ea g.n.toNat (fun w => .bool (s w))), .cells pb (encG g), .cells pc [.clo 52 [.ptr pa 0, .ptr pb 0, .ptr pc 0]]] (fun v st => st = [.cells pa [.arr js 0 g.n.toNat], .cells js (ea g.n.toNat (fun w => .bool ((Dg.dfs g f s u) w))), .cells pb (encG g), .cells pc [.clo 52 [.ptr pa 0, .ptr pb 0, .ptr pc 0]]])
  | 0, s, u, _, h => absurd h (by omega)
  | f + 1, s, u, hu, h => visit_step g hg pa pb pc js f (visit_c g hg pa pb pc js f) s u hu h

theorem reach_c (g : Dg.Gr) (fs : List Int) (hg : Dg.OkG g) (hfl : fs.length ≤ 1000000) (hfs : ∀ u ∈ fs, 0 ≤ u ∧ u < g.n) : ACalls Try.prog 41 [(AV.agg (encG g)), (AV.sl 1 (List.map encI fs))] [] (fun v st => v = (AV.sl 1 (List.map encB (Dg.rch g fs))) ∧ st = []) := by
  refine acalls_body Try.func41 (by kernel_rfl) rfl Try.ntmps41 (le_ rfl) ?_
  rw [Try.results41]
  have hgn := hg.nb
  refine awp_seq ?_
  refine awp_region ?_
  refine st_n (fun _ => by exact y_box (.plain rfl)) rfl fun nb => ?_
  refine st_p (fun _ => by exact y_assign (.plain rfl)) rfl ?_
  refine aops_nil ?_
  refine awp_seq ?_
  refine awp_region ?_
  refine st_p (fun _ => by exact y_fieldPtr (.plain rfl)) rfl ?_
  refine st_p (fun _ => by exact y_load (.plain rfl) (by first | exact .here | exact k1 | exact k2 | exact k3 | exact k4 | exact k5 | exact k6 | exact k7 | exact k8 | exact k9 | exact k10 | exact k11 | exact k12 | exact k13) rfl) rfl ?_
  refine st_n (fun _ => by exact y_makeArr (by rfl) (.plain rfl) (.plain rfl) (Int.toNat_of_nonneg (a := g.n) (by omega)).symm (by omega)) rfl fun nj => ?_
  refine st_n (fun _ => by exact y_alloc) rfl fun na => ?_
  refine st_s (fun _ => by exact y_storeW (by rfl) rfl (.plain rfl) (.plain rfl) (by first | exact .here | exact u1 | exact u2 | exact u3 | exact u4 | exact u5 | exact u6 | exact u7 | exact u8 | exact u9 | exact u10 | exact u11 | exact u12 | exact u13) (by rfl)) ?_
  refine aops_nil ?_
  refine awp_seq ?_
  refine awp_region ?_
  refine st_n (fun _ => by exact y_alloc) rfl fun nc => ?_
  refine aops_nil ?_
  refine awp_seq ?_
  refine awp_region ?_
  refine st_p (fun _ => by exact y_makeFunc (.cons (.plain rfl) (.cons (.plain rfl) (.cons (.plain rfl) .nil)))) rfl ?_
  refine st_s (fun _ => by exact y_storeW (by rfl) rfl (.plain rfl) (.plain rfl) (by first | exact .here | exact u1 | exact u2 | exact u3 | exact u4 | exact u5 | exact u6 | exact u7 | exact u8 | exact u9 | exact u10 | exact u11 | exact u12 | exact u13) (by rfl)) ?_
  refine aops_nil ?_
  refine awp_seq ?_
  refine awp_seq ?_
  rw [ea_make]
  refine awp_region ?_
  refine st_p (fun _ => by exact y_move (.plain rfl)) rfl ?_
  first | refine st_p (fun _ => by exact y_lenN (.plain rfl)) rfl ?_ | refine st_p (fun _ => by exact y_len (.plain rfl)) rfl ?_ | refine st_p (fun _ => by exact y_lenArr (.plain rfl)) rfl ?_
  refine st_p (fun _ => by exact y_move (.plain rfl)) rfl ?_
  refine aops_nil ?_
  refine awp_block ?_
  refine awp_loop2 (X := Nat) (rest := []) [5, 6, 13, 14] (.cons rfl (.cons rfl (.cons rfl (.cons rfl .nil)))) (fun σ x => ((15, .int (x : Int)) : Nat × AV) :: σ) (fun R x => .cells na [.arr nj 0 g.n.toNat] :: .cells nj (ea g.n.toNat (fun w => .bool ((((fs.take x).foldl (fun s u => Dg.dfs g (g.n.toNat + 1) s u) (fun _ => false))) w))) :: .cells nb (encG g) :: .cells nc [.clo 52 [.ptr na 0, .ptr nb 0, .ptr nc 0]] :: []) (fun x => x ≤ fs.length) (fun x => fs.length - x) 0 (by exact Weak.of2 (by (repeat (first | exact .nil _ | refine .cons rfl (by first | exact AV.Imp.refl _ | exact Sl.imp | exact AV.Imp.agg RowOf.imp | exact AV.Imp.grow_sl | exact AV.Imp.nil_grow | exact AV.Imp.full_grow | exact AV.Imp.own_grow | exact AV.Imp.grow_of rfl | exact AV.Imp.sl_of rfl | exact AV.Imp.int_of (by omega) | exact AV.Imp.of_eq (by first | omega | simpa)) ?_)); done) (by (repeat (first | exact .refl _ | exact .nil _ | apply ItLe2.cons (by first | exact .here | exact k1 | exact k2 | exact k3 | exact k4 | exact k5 | exact k6 | exact k7 | exact k8 | exact k9 | exact k10 | exact k11 | exact k12 | exact k13) | apply ItLe2.cells (by first | exact .here | exact k1 | exact k2 | exact k3 | exact k4 | exact k5 | exact k6 | exact k7 | exact k8 | exact k9 | exact k10 | exact k11 | exact k12 | exact k13) (by repeat (first | exact .nil | refine .cons (by first | exact AV.Imp.refl _ | exact Sl.imp | exact AV.Imp.agg RowOf.imp | exact AV.Imp.grow_sl | exact AV.Imp.nil_grow | exact AV.Imp.full_grow | exact AV.Imp.own_grow | exact AV.Imp.grow_of rfl | exact AV.Imp.sl_of rfl | exact AV.Imp.int_of (by omega) | exact AV.Imp.of_eq (by first | omega | simpa)) ?_)) | apply ItLe2.tail0)); done)) (Nat.zero_le _) ?_
  rintro k hk
  refine awp_seq ?_
  refine awp_region ?_
  refine st_p (fun _ => by exact y_lss (.plain rfl) (.plain rfl)) rfl ?_
  refine aops_nil ?_
  refine awp_seq ?_
  refine awp_cond rfl (fun h1 => ?_) (fun h1 => ?_)
  · skip
    try simp only [decide_eq_true_eq, decide_eq_false_iff_not, Bool.not_eq_true', Bool.not_eq_false', Bool.not_eq_true, Bool.not_eq_false, List.length_map, Int.ofNat_lt, Int.ofNat_le, Bool.or_eq_true, Bool.and_eq_true, Bool.or_eq_false_iff, Bool.and_eq_false_iff] at h1
    refine awp_skip ?_
    refine awp_seq ?_
    refine awp_block ?_
    refine awp_seq ?_
    refine awp_region ?_
    first | refine st_p (fun _ => by exact y_indexMap (.plain rfl) (.plain rfl) rfl (by refine ⟨?_, ?_⟩; (first | omega | (simp; omega) | (simp at hc; omega) | (simp at hc ⊢; omega) | (simp; done)); rfl)) rfl ?_ | refine st_p (fun _ => by exact y_indexT (.plain rfl) (.plain rfl) (by first | omega | (simp; omega) | (simp at hc; omega) | (simp at hc ⊢; omega) | (simp; done)) (by first | omega | (simp; omega) | (simp at hc; omega) | (simp at hc ⊢; omega) | (simp; done))) rfl ?_ | refine st_p (fun _ => by exact y_index (.plain rfl) (.plain rfl) (by omega) rfl) rfl ?_ | refine st_p (fun _ => by exact y_indexArr (.plain rfl) (.plain rfl) rfl (by first | omega | (simp; omega) | (simp at hc; omega) | (simp at hc ⊢; omega) | (simp; done))) rfl ?_
    refine st_p (fun _ => by exact y_loadE (.plain rfl) rfl) rfl ?_
    refine st_p (fun _ => by exact y_assign (.plain rfl)) rfl ?_
    refine aops_nil ?_
    refine awp_region ?_
    refine st_p (fun _ => by exact y_load (.plain rfl) (by first | exact .here | exact k1 | exact k2 | exact k3 | exact k4 | exact k5 | exact k6 | exact k7 | exact k8 | exact k9 | exact k10 | exact k11 | exact k12 | exact k13) rfl) rfl ?_
    refine st_p (fun _ => by exact y_move (.plain rfl)) rfl ?_
    have hfk : (fs.take (k + 1)).foldl (fun s u => Dg.dfs g (g.n.toNat + 1) s u) (fun _ => false) = Dg.dfs g (g.n.toNat + 1) ((fs.take k).foldl (fun s u => Dg.dfs g (g.n.toNat + 1) s u) (fun _ => false)) fs[k] := Dg.fold_succ _ _ _ h1
    refine aops_call (blt_lt rfl) (.plain rfl) (.cons (.plain rfl) .nil) (ACalls.updP (by apply Takes.cons (by first | exact .here | exact k1 | exact k2 | exact k3 | exact k4 | exact k5 | exact k6 | exact k7 | exact k8 | exact k9 | exact k10 | exact k11 | exact k12 | exact k13); apply Takes.cons (by first | exact .here | exact k1 | exact k2 | exact k3 | exact k4 | exact k5 | exact k6 | exact k7 | exact k8 | exact k9 | exact k10 | exact k11 | exact k12 | exact k13); apply Takes.cons (by first | exact .here | exact k1 | exact k2 | exact k3 | exact k4 | exact k5 | exact k6 | exact k7 | exact k8 | exact k9 | exact k10 | exact k11 | exact k12 | exact k13); apply Takes.cons (by first | exact .here | exact k1 | exact k2 | exact k3 | exact k4 | exact k5 | exact k6 | exact k7 | exact k8 | exact k9 | exact k10 | exact k11 | exact k12 | exact k13); exact .nil _) (visit_c g hg na nb nc nj (g.n.toNat + 1) _ _ (hfs _ (List.getElem_mem h1)) (Nat.lt_succ_of_le (Dg.uns_bd _ _))) ?_)
    rintro v st rfl
    refine aops_nil ?_
    refine awp_region ?_
    refine st_p (fun _ => by exact y_add (.plain rfl) (.plain rfl) (by first | omega | (simp; omega) | (simp at hc; omega) | (simp at hc ⊢; omega) | (simp; done))) rfl ?_
    refine st_p (fun _ => by exact y_move (.plain rfl)) rfl ?_
    refine aops_nil ?_
    refine ⟨k + 1, by omega, by omega, ?_⟩
    rw [hfk]
    exact Weak.of2 (by (repeat (first | exact .nil _ | refine .cons rfl (by first | exact AV.Imp.refl _ | exact Sl.imp | exact AV.Imp.agg RowOf.imp | exact AV.Imp.grow_sl | exact AV.Imp.nil_grow | exact AV.Imp.full_grow | exact AV.Imp.own_grow | exact AV.Imp.grow_of rfl | exact AV.Imp.sl_of rfl | exact AV.Imp.int_of (by omega) | exact AV.Imp.of_eq (by first | omega | simpa)) ?_)); done) (by (repeat (first | exact .refl _ | exact .nil _ | apply ItLe2.cons (by first | exact .here | exact k1 | exact k2 | exact k3 | exact k4 | exact k5 | exact k6 | exact k7 | exact k8 | exact k9 | exact k10 | exact k11 | exact k12 | exact k13) | apply ItLe2.cells (by first | exact .here | exact k1 | exact k2 | exact k3 | exact k4 | exact k5 | exact k6 | exact k7 | exact k8 | exact k9 | exact k10 | exact k11 | exact k12 | exact k13) (by repeat (first | exact .nil | refine .cons (by first | exact AV.Imp.refl _ | exact Sl.imp | exact AV.Imp.agg RowOf.imp | exact AV.Imp.grow_sl | exact AV.Imp.nil_grow | exact AV.Imp.full_grow | exact AV.Imp.own_grow | exact AV.Imp.grow_of rfl | exact AV.Imp.sl_of rfl | exact AV.Imp.int_of (by omega) | exact AV.Imp.of_eq (by first | omega | simpa)) ?_)) | apply ItLe2.tail0)); done)
  · skip
    try simp only [decide_eq_true_eq, decide_eq_false_iff_not, Bool.not_eq_true', Bool.not_eq_false', Bool.not_eq_true, Bool.not_eq_false, List.length_map, Int.ofNat_lt, Int.ofNat_le, Bool.or_eq_true, Bool.and_eq_true, Bool.or_eq_false_iff, Bool.and_eq_false_iff] at h1
    refine awp_exit ?_
    refine awp_seq ?_
    obtain rfl : k = fs.length := by omega
    rw [Dg.fold_all]
    refine awp_weak (Weak.items2 (st' := [.cells na [.arr nj 0 ((bl g.n.toNat (Dg.rchS g fs)).map encB).length], .cells nj (((bl g.n.toNat (Dg.rchS g fs)).map encB).flatten ++ [])]) (.cells (by first | exact .here | exact k1 | exact k2 | exact k3 | exact k4 | exact k5 | exact k6 | exact k7 | exact k8 | exact k9 | exact k10 | exact k11 | exact k12 | exact k13) ?_ (.cells (by first | exact .here | exact k1 | exact k2 | exact k3 | exact k4 | exact k5 | exact k6 | exact k7 | exact k8 | exact k9 | exact k10 | exact k11 | exact k12 | exact k13) ?_ (.nil _)))) ?_
    · rw [List.length_map, bl_len]; exact ImpL.refl _
    · rw [List.append_nil]; exact ImpL.of_eq (ea_row (fun b => AV.bool b) g.n.toNat (Dg.rchS g fs)).symm
    refine awp_weak (st' := [.cells na [.sl 1 ((bl g.n.toNat (Dg.rchS g fs)).map encB)]]) (Weak.freezeC (cs := [.arr nj 0 ((bl g.n.toNat (Dg.rchS g fs)).map encB).length]) (i := 0) (sz := 1) (xs := (bl g.n.toNat (Dg.rchS g fs)).map encB) (pad := []) (by intro x hx; obtain ⟨b, _, rfl⟩ := List.mem_map.1 hx; rfl) rfl (.cons (.there .here) (.cons .here (.nil _)))) ?_
    refine awp_region ?_
    refine st_p (fun _ => by exact y_load (.plain rfl) (by first | exact .here | exact k1 | exact k2 | exact k3 | exact k4 | exact k5 | exact k6 | exact k7 | exact k8 | exact k9 | exact k10 | exact k11 | exact k12 | exact k13) rfl) rfl ?_
    refine st_p (fun _ => by exact y_assign (.plain rfl)) rfl ?_
    refine aops_nil ?_
    refine awp_ret ?_
    refine retG (.inr rfl) (.cons (.tmp rfl) .nil) (VShift.of1 (Sl.imp (enc := encB)) (.nil _)) ⟨congrArg (fun x : (List (Bool)) => (AV.sl 1 (List.map encB x))) (show _ = (Dg.rch g fs) from ?_), rfl⟩
    rfl

end Go.Proofs
