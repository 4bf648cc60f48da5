/- Directed graphs: the plain functions. No condition. -/
import Derived.Test.YtkaiilhpjmjnkaaK3
import Derived.Test.YtkaiilhpjmjnkaaM18
import Derived.Test.YtkaiilhpjmjnkaaM25
set_option linter.unusedVariables false
set_option linter.unusedSimpArgs false
namespace Dg
open Go.Aw (bl)
structure Ed where
  u : Int
  v : Int
  deriving DecidableEq, Inhabited
structure Gr where
  n : Int
  nx : List (List Int)
  deriving DecidableEq, Inhabited
def upd {α : Type} (s : Int → α) (u : Int) (x : α) : Int → α := fun j => if j = u then x else s j
def bad (n : Int) (e : Ed) : Bool := decide (e.u < 0) || decide (n ≤ e.u) || decide (e.v < 0) || decide (n ≤ e.v)
def lessI (a b : Ed) : Int := if a.u ≠ b.u then a.u - b.u else a.v - b.v
def chkL (n : Int) : Option Ed → List Ed → Int
  | _, [] => 0
  | p, e :: r => if bad n e = true then 2 else if ∃ q ∈ p, 0 ≤ lessI q e then 9 else chkL n (some e) r
def chk (n : Int) (l : List Ed) : Int := if n < 0 ∨ 200 < n then 2 else if 2000 < l.length then 4 else chkL n none l
def sc (l : List Ed) (u : Int) : List Int := (l.filter (fun e => decide (e.u = u))).map (·.v)
def gr (n : Int) (l : List Ed) : Gr := ⟨n, bl n.toNat (sc l)⟩
def bd (n : Int) (l : List Ed) : Gr := if chk n l = 0 then gr n l else ⟨0, []⟩
def bdB (n : Int) (l : List Ed) : Bool := decide (chk n l = 0)
def suc (g : Gr) (u : Int) : List Int := g.nx.getD u.toNat []
structure OkG (g : Gr) : Prop where
  nb : 0 ≤ g.n ∧ g.n ≤ 200
  len : g.nx.length = g.n.toNat
  row : ∀ u, (suc g u).length ≤ 2000 ∧ ∀ v ∈ suc g u, 0 ≤ v ∧ v < g.n
def dfs (g : Gr) : Nat → (Int → Bool) → Int → (Int → Bool)
  | 0, s, _ => s
  | f + 1, s, u => if s u = true then s else (suc g u).foldl (fun s v => dfs g f s v) (upd s u true)
def rchS (g : Gr) (fs : List Int) : Int → Bool := fs.foldl (fun s u => dfs g (g.n.toNat + 1) s u) (fun _ => false)
def rch (g : Gr) (fs : List Int) : List Bool := bl g.n.toNat (rchS g fs)
def mk (s : Int → Bool) : Nat → List Int
  | 0 => []
  | k + 1 => if s (k : Int) = true then mk s k ++ [(k : Int)] else mk s k
def reach (n : Int) (l : List Ed) (u : Int) : List Int := if chk n l ≠ 0 ∨ u < 0 ∨ n ≤ u then [] else mk (rchS (gr n l) [u]) n.toNat
def comp (R : Int → Int → Bool) (m : Nat) : Nat → (Int → Bool) × List (List Int)
  | 0 => (fun _ => false, [])
  | u + 1 => if (comp R m u).1 (u : Int) = true then comp R m u else (fun j => (comp R m u).1 j || (decide (0 ≤ j ∧ j < (m : Int)) && (R u j && R j u)), (comp R m u).2 ++ [mk (fun j => R u j && R j u) m])
def comps (n : Int) (l : List Ed) : List (List Int) := if chk n l ≠ 0 then [] else (comp (fun u => rchS (gr n l) [u]) n.toNat n.toNat).2
def deg (l : List Ed) (j : Int) : Int := ((l.filter (fun e => decide (e.v = j))).length : Int)
def pick (m : Nat) (f : Int → Int) : Int := Wl.idxI (bl m f) 0
def decs (f : Int → Int) (vs : List Int) : Int → Int := vs.foldl (fun f v => upd f v (f v - 1)) f
def ord (g : Gr) : Nat → (Int → Int) → List Int → Option (List Int)
  | 0, _, out => some out
  | f + 1, op, out => if pick g.n.toNat op < 0 then none else ord g f (decs (upd op (pick g.n.toNat op) (-1)) (suc g (pick g.n.toNat op))) (out ++ [pick g.n.toNat op])
def ordO (n : Int) (l : List Ed) : Option (List Int) := ord (gr n l) n.toNat (deg l) []
def orderL (n : Int) (l : List Ed) : List Int := if chk n l ≠ 0 then [] else (ordO n l).getD []
def orderE (n : Int) (l : List Ed) : Int := if chk n l ≠ 0 then 1 else if (ordO n l).isSome = true then 0 else 21
def backU (g : Gr) (u : Int) (vs : List Int) (T : Int → List Int) : Int → List Int := vs.foldl (fun T v => upd T v (T v ++ [u])) T
def back (g : Gr) : Nat → Int → List Int
  | 0 => fun _ => []
  | u + 1 => backU g u (suc g u) (back g u)
abbrev BS := (Int → Int) × List Int
def seeF (q : Int) (x : BS) (u : Int) : BS := if x.1 u < 0 then (upd x.1 u (x.1 q + 1), x.2 ++ [u]) else x
def bfs (B : Int → List Int) : Nat → BS → (Int → Int)
  | 0, x => x.1
  | f + 1, (d, []) => d
  | f + 1, (d, q :: qs) => bfs B f (((B q).foldl (seeF q) (d, q :: qs)).1, ((B q).foldl (seeF q) (d, q :: qs)).2.tail)
def dist (g : Gr) (t : Int) : Int → Int := bfs (back g g.n.toNat) (g.n.toNat + 1) (upd (fun _ => -1) t 0, [t])
def lst (d : Int → Int) (vs : List Int) : Int := vs.foldl (fun m v => if 0 ≤ d v ∧ (m < 0 ∨ d v < m) then d v else m) (-1)
def nxt (d : Int → Int) (vs : List Int) (left now : Int) : Int := (vs.find? (fun v => decide (d v = left))).getD now
def wlk (g : Gr) (d : Int → Int) : Nat → Int → List Int → List Int
  | 0, _, out => out
  | k + 1, now, out => wlk g d k (nxt d (suc g now) ((k + 1 : Nat) : Int) now) (out ++ [nxt d (suc g now) ((k + 1 : Nat) : Int) now])
def around (g : Gr) (u : Int) : List Int := if lst (dist g u) (suc g u) < 0 then [] else wlk g (dist g u) (lst (dist g u) (suc g u)).toNat u [u]
def best (A : Int → List Int) : Nat → List Int
  | 0 => []
  | u + 1 => if 0 < (A u).length ∧ ((best A u).length = 0 ∨ (A u).length < (best A u).length) then A u else best A u
def cycL (n : Int) (l : List Ed) : List Int := if chk n l ≠ 0 then [] else best (around (gr n l)) n.toNat
def cycE (n : Int) (l : List Ed) : Int := if chk n l ≠ 0 then 1 else if (best (around (gr n l)) n.toNat).length = 0 then 7 else 0
def rkU (u : Int) (vs : List Int) (f : Int → Int) : Int → Int := vs.foldl (fun f v => upd f v (max (f v) (f u + 1))) f
def rks (g : Gr) (o : List Int) : Int → Int := o.foldl (fun f u => rkU u (suc g u) f) (fun _ => 0)
def rankL (n : Int) (l : List Ed) : List Int := if orderE n l ≠ 0 then [] else bl n.toNat (rks (gr n l) (orderL n l))
def rankE (n : Int) (l : List Ed) : Int := orderE n l
def mkE (u : Int) (s : Int → Bool) (m : Nat) : List Ed := (mk s m).map (fun v => ⟨u, v⟩)
def clo (g : Gr) : Nat → List Ed
  | 0 => []
  | u + 1 => clo g u ++ mkE u (rchS g (suc g u)) g.n.toNat
def cloL (n : Int) (l : List Ed) : List Ed := if chk n l ≠ 0 then [] else if 2000 < (clo (gr n l) n.toNat).length then [] else clo (gr n l) n.toNat
def cloE (n : Int) (l : List Ed) : Int := if chk n l ≠ 0 then 1 else if 2000 < (clo (gr n l) n.toNat).length then 4 else 0
example : cycL 4 [⟨0,1⟩,⟨1,2⟩,⟨2,0⟩,⟨2,3⟩] = [0,1,2] := by decide +kernel
example : orderL 4 [⟨0,1⟩,⟨1,2⟩,⟨2,3⟩] = [0,1,2,3] ∧ rankL 4 [⟨0,1⟩,⟨1,2⟩,⟨2,3⟩] = [0,1,2,3] ∧ comps 4 [⟨0,1⟩,⟨1,2⟩,⟨2,0⟩,⟨2,3⟩] = [[0,1,2],[3]] ∧ reach 4 [⟨0,1⟩,⟨1,2⟩,⟨2,0⟩,⟨2,3⟩] 3 = [3] := by decide +kernel
end Dg
namespace Go.Aw
open Dg
def encE (e : Ed) : List AV := [.int e.u, .int e.v]
def encB1 (b : Bool) : List AV := [.bool b]
def encG (g : Gr) : List AV := [.int g.n, .sl 1 (g.nx.map encLI)]
instance {a b : Int} : RowOf [.val (.int .i64 a), .val (.int .i64 b)] encE ⟨a, b⟩ := ⟨ImpL.refl _⟩
instance (priority := high) {e : Ed} : RowOf [.val (.int .i64 e.u), .val (.int .i64 e.v)] encE e := ⟨ImpL.refl _⟩
instance {a : Int} {v : AV} {l : List (List Int)} [h : Sl v 1 encLI l] : RowOf [.val (.int .i64 a), v] encG ⟨a, l⟩ := ⟨.cons (AV.Imp.refl _) (.cons h.imp .nil)⟩
instance (priority := high) {g : Gr} : RowOf [.val (.int .i64 g.n), .sl 1 (g.nx.map encLI)] encG g := ⟨ImpL.refl _⟩
end Go.Aw
namespace Dg
def prv (l : List Ed) (k : Nat) : Option Ed := if k = 0 then none else l[k - 1]?
theorem prv_lt (l : List Ed) (k : Nat) (hk : k < l.length) (e : Ed) : (∃ q ∈ prv l k, 0 ≤ lessI q e) ↔ (0 < k ∧ 0 ≤ lessI (l.getD (k - 1) default) e) := by
  unfold prv
  by_cases h : k = 0
  · simp [h]
  · have h1 : k - 1 < l.length := by omega
    simp only [if_neg h, List.getElem?_eq_getElem h1, Option.mem_def, Option.some.injEq, List.getD, Option.getD_some]
    exact ⟨fun ⟨q, e, hq⟩ => ⟨by omega, by rw [e]; exact hq⟩, fun ⟨_, hq⟩ => ⟨_, rfl, hq⟩⟩
theorem chkL_step (n : Int) (l : List Ed) (k : Nat) (hk : k < l.length) (hb : bad n l[k] = false) (hn : ¬ (0 < k ∧ 0 ≤ lessI (l.getD (k - 1) default) l[k])) : chkL n (prv l k) (l.drop k) = chkL n (prv l (k + 1)) (l.drop (k + 1)) := by
  rw [List.drop_eq_getElem_cons hk, chkL, if_neg (by simp [hb]), if_neg (fun h => hn ((prv_lt l k hk _).1 h))]
  simp [prv, hk]
theorem chkL_bad (n : Int) (l : List Ed) (k : Nat) (hk : k < l.length) (hb : bad n l[k] = true) : chkL n (prv l k) (l.drop k) = 2 := by
  rw [List.drop_eq_getElem_cons hk, chkL, if_pos hb]
theorem chkL_ord (n : Int) (l : List Ed) (k : Nat) (hk : k < l.length) (hb : bad n l[k] = false) (h : 0 < k ∧ 0 ≤ lessI (l.getD (k - 1) default) l[k]) : chkL n (prv l k) (l.drop k) = 9 := by
  rw [List.drop_eq_getElem_cons hk, chkL, if_neg (by simp [hb]), if_pos ((prv_lt l k hk _).2 h)]
theorem chkL_end (n : Int) (l : List Ed) (k : Nat) (hk : l.length ≤ k) : chkL n (prv l k) (l.drop k) = 0 := by
  rw [List.drop_of_length_le hk]; cases prv l k <;> rfl
theorem bad_iff {n : Int} {e : Ed} : bad n e = false ↔ (0 ≤ e.u ∧ e.u < n) ∧ (0 ≤ e.v ∧ e.v < n) := by
  unfold bad
  simp only [Bool.or_eq_false_iff, decide_eq_false_iff_not]
  omega
end Dg
namespace Dg
theorem prev_bd {n : Int} {l : List Ed} {k : Nat} (h : ∀ i (h : i < l.length), i < k → bad n l[i] = false) (hk : k < l.length) (h0 : 0 < k) (hn : n ≤ 200) : (0 ≤ (l.getD ((k : Int) - 1).toNat default).u ∧ (l.getD ((k : Int) - 1).toNat default).u < 1000) ∧ (0 ≤ (l.getD ((k : Int) - 1).toNat default).v ∧ (l.getD ((k : Int) - 1).toNat default).v < 1000) := by
  have hp : k - 1 < l.length := by omega
  have hb := bad_iff.1 (h (k - 1) hp (by omega))
  rw [show ((k : Int) - 1).toNat = k - 1 by omega, List.getD, List.getElem?_eq_getElem hp, Option.getD_some]; omega
end Dg
namespace Dg
theorem chkL_zero {n : Int} : ∀ {l : List Ed} {p : Option Ed}, chkL n p l = 0 → (∀ e ∈ l, bad n e = false)
  | [], _, _ => by simp
  | e :: r, p, h => by
    rw [chkL] at h
    split at h
    · cases h
    · rename_i hb
      split at h
      · cases h
      · intro x hx
        rcases List.mem_cons.1 hx with rfl | hx
        · simpa using hb
        · exact chkL_zero h x hx
structure OkE (n : Int) (l : List Ed) : Prop where
  nb : 0 ≤ n ∧ n ≤ 200
  len : l.length ≤ 2000
  u : ∀ e ∈ l, 0 ≤ e.u ∧ e.u < n
  v : ∀ e ∈ l, 0 ≤ e.v ∧ e.v < n
theorem okE {n : Int} {l : List Ed} (h : chk n l = 0) : OkE n l := by
  unfold chk at h
  split at h
  · cases h
  · split at h
    · cases h
    · have := chkL_zero h
      exact ⟨by omega, by omega, fun e he => (bad_iff.1 (this e he)).1, fun e he => (bad_iff.1 (this e he)).2⟩
theorem take_succ' {l : List Ed} {k : Nat} (hk : k < l.length) : l.take (k + 1) = l.take k ++ [l[k]] := by rw [List.take_add_one, List.getElem?_eq_getElem hk]; rfl
theorem sc_succ {l : List Ed} {k : Nat} (hk : k < l.length) (u : Int) : sc (l.take (k + 1)) u = if u = l[k].u then sc (l.take k) u ++ [l[k].v] else sc (l.take k) u := by
  unfold sc
  rw [take_succ' hk, List.filter_append, List.map_append]
  by_cases h : l[k].u = u
  · rw [List.filter_cons_of_pos (by simpa using h), if_pos h.symm]; rfl
  · rw [List.filter_cons_of_neg (by simpa using h), if_neg (Ne.symm h)]; simp
theorem sc_len (l : List Ed) (u : Int) : (sc l u).length ≤ l.length := by unfold sc; rw [List.length_map]; exact List.length_filter_le _ _
theorem sc_mem {l : List Ed} {u v : Int} : v ∈ sc l u ↔ (⟨u, v⟩ : Ed) ∈ l := by
  unfold sc
  simp only [List.mem_map, List.mem_filter, decide_eq_true_eq]
  constructor
  · rintro ⟨⟨a, b⟩, ⟨h1, rfl⟩, rfl⟩; exact h1
  · intro h; exact ⟨_, ⟨h, rfl⟩, rfl⟩
theorem suc_gr {n : Int} {l : List Ed} {u : Int} (h : 0 ≤ u ∧ u < n) : suc (gr n l) u = sc l u := by
  unfold suc gr
  rw [Go.Aw.bl_getD _ _ _ _ (by omega), Int.toNat_of_nonneg h.1]
theorem okG {n : Int} {l : List Ed} (h : OkE n l) : OkG (gr n l) := by
  refine ⟨h.nb, Go.Aw.bl_len _ _, fun u => ?_⟩
  have key : ∀ x, x ∈ (gr n l).nx → x.length ≤ 2000 ∧ ∀ v ∈ x, 0 ≤ v ∧ v < n := by
    intro x hx
    unfold gr Go.Aw.bl at hx
    obtain ⟨j, hj, rfl⟩ := List.mem_map.1 hx
    have := sc_len l (j : Int)
    have := h.len
    exact ⟨by omega, fun v hv => h.v _ (sc_mem.1 hv)⟩
  unfold suc List.getD
  cases e : (gr n l).nx[u.toNat]? with
  | none => simp
  | some x => exact key x (List.mem_of_getElem? e)
end Dg
namespace Dg
def uns (m : Nat) (s : Int → Bool) : Nat := (List.range m).countP (fun (j : Nat) => !s (j : Int))
theorem uns_le {m : Nat} {s s' : Int → Bool} (h : ∀ w, s w = true → s' w = true) : uns m s' ≤ uns m s := by
  unfold uns
  refine List.countP_mono_left fun j _ hj => ?_
  simp only [Bool.not_eq_true'] at hj ⊢
  cases e : s (j : Int) with
  | false => rfl
  | true => rw [h _ e] at hj; cases hj
theorem uns_upd {m : Nat} {s : Int → Bool} {u : Int} (hu : 0 ≤ u ∧ u < m) (hs : s u = false) : uns m (upd s u true) < uns m s := by
  unfold uns
  have key : ∀ l : List Nat, u.toNat ∈ l → l.countP (fun (j : Nat) => !(upd s u true) (j : Int)) < l.countP (fun (j : Nat) => !s (j : Int)) := by
    intro l
    induction l with
    | nil => intro h; cases h
    | cons a l ih =>
      intro h
      rw [List.countP_cons, List.countP_cons]
      by_cases e : (a : Int) = u
      · have h2 : l.countP (fun (j : Nat) => !(upd s u true) (j : Int)) ≤ l.countP (fun (j : Nat) => !s (j : Int)) := by
          refine List.countP_mono_left fun j _ hj => ?_
          simp only [Bool.not_eq_true', upd] at hj ⊢
          split at hj
          · cases hj
          · exact hj
        rw [if_neg (by simp [upd, e]), if_pos (by simp [e, hs])]; omega
      · have := ih (by
          rcases List.mem_cons.1 h with h | h
          · omega
          · exact h)
        have e2 : upd s u true (a : Int) = s (a : Int) := by unfold upd; rw [if_neg e]
        rw [e2]; omega
  exact key _ (List.mem_range.2 (by omega))
theorem upd_mono {s : Int → Bool} {u w : Int} (h : s w = true) : upd s u true w = true := by unfold upd; split <;> first | rfl | exact h
theorem foldl_mono {α : Type} {F : (Int → Bool) → α → (Int → Bool)} (hF : ∀ s a w, s w = true → F s a w = true) : ∀ (l : List α) (s : Int → Bool) (w : Int), s w = true → l.foldl F s w = true
  | [], _, _, h => h
  | a :: l, s, w, h => foldl_mono hF l _ w (hF s a w h)
theorem dfs_mono (g : Gr) : ∀ (f : Nat) (s : Int → Bool) (u w : Int), s w = true → dfs g f s u w = true
  | 0, _, _, _, h => h
  | f + 1, s, u, w, h => by
    rw [dfs]
    split
    · exact h
    · exact foldl_mono (dfs_mono g f) _ _ _ (upd_mono h)
theorem fold_succ {α β : Type} (F : β → α → β) (b : β) (l : List α) {k : Nat} (hk : k < l.length) : (l.take (k + 1)).foldl F b = F ((l.take k).foldl F b) l[k] := by
  rw [List.take_add_one, List.getElem?_eq_getElem hk, List.foldl_append]; rfl
theorem fold_all {α β : Type} (F : β → α → β) (b : β) (l : List α) : (l.take l.length).foldl F b = l.foldl F b := by rw [List.take_length]
theorem uns_fold {g : Gr} {f m : Nat} {s : Int → Bool} {l : List Int} : uns m (l.foldl (fun s v => dfs g f s v) s) ≤ uns m s := uns_le (fun w h => foldl_mono (dfs_mono g f) l s w h)
end Dg
namespace Dg
theorem uns_bd (m : Nat) (s : Int → Bool) : uns m s ≤ m := by
  unfold uns
  have := List.countP_le_length (p := fun (j : Nat) => !s (j : Int)) (l := List.range m)
  rw [List.length_range] at this
  exact this
end Dg
namespace Dg
theorem mk_len (s : Int → Bool) : ∀ k, (mk s k).length ≤ k
  | 0 => Nat.le_refl _
  | k + 1 => by
    have := mk_len s k
    rw [mk]
    split <;> simp <;> omega
theorem mk_t {s : Int → Bool} {k : Nat} (h : s (k : Int) = true) : mk s k ++ [(k : Int)] = mk s (k + 1) := by rw [mk, if_pos h]
theorem mk_f {s : Int → Bool} {k : Nat} (h : s (k : Int) = false) : mk s k = mk s (k + 1) := by rw [mk, if_neg (by simp [h])]
theorem bdB_f {n : Int} {l : List Ed} (h : bdB n l = true) : chk n l = 0 := by simpa [bdB] using h
theorem bd_gr {n : Int} {l : List Ed} (h : chk n l = 0) : bd n l = gr n l := by rw [bd, if_pos h]
theorem rch_len {n : Int} {l : List Ed} (fs : List Int) : (rch (gr n l) fs).length = n.toNat := Go.Aw.bl_len _ _
theorem rch_get {n : Int} {l : List Ed} (fs : List Int) {k : Nat} (h : k < (rch (gr n l) fs).length) : (rch (gr n l) fs)[k] = rchS (gr n l) fs (k : Int) := Go.Aw.bl_get _ _ _ _
theorem comp_len (R : Int → Int → Bool) (m : Nat) : ∀ k, (comp R m k).2.length ≤ k
  | 0 => Nat.le_refl _
  | k + 1 => by
    have := comp_len R m k
    rw [comp]
    split
    · omega
    · simp only [List.length_append, List.length_singleton]; omega
end Dg
namespace Dg
def cR (n : Int) (l : List Ed) : Int → Int → Bool := fun u => rchS (gr n l) [u]
theorem comps_eq {n : Int} {l : List Ed} (h : chk n l = 0) : comps n l = (comp (cR n l) n.toNat n.toNat).2 := by unfold comps; rw [if_neg (by omega)]; rfl
def cB (n : Int) (l : List Ed) (u : Int) : Int → Bool := fun j => cR n l u j && cR n l j u
theorem comp_t {n : Int} {l : List Ed} {u : Nat} (h : (comp (cR n l) n.toNat u).1 (u : Int) = true) : comp (cR n l) n.toNat u = comp (cR n l) n.toNat (u + 1) := by rw [comp, if_pos h]
def cD (n : Int) (l : List Ed) (u : Nat) (x : Nat) : Int → Bool := fun j => (comp (cR n l) n.toNat u).1 j || (decide (0 ≤ j ∧ j < (x : Int)) && cB n l u j)
theorem comp_f {n : Int} {l : List Ed} {u : Nat} (h : (comp (cR n l) n.toNat u).1 (u : Int) = false) : (comp (cR n l) n.toNat (u + 1)).1 = cD n l u n.toNat ∧ (comp (cR n l) n.toNat u).2 ++ [mk (cB n l u) n.toNat] = (comp (cR n l) n.toNat (u + 1)).2 := by
  rw [comp, if_neg (by simp [h])]; exact ⟨rfl, rfl⟩
theorem cD_zero {n : Int} {l : List Ed} {u : Nat} (j : Int) (h : 0 ≤ j) : (comp (cR n l) n.toNat u).1 j = cD n l u 0 j := by
  unfold cD; rw [decide_eq_false (by omega)]; simp
theorem cD_t {n : Int} {l : List Ed} {u x : Nat} (h : cB n l u (x : Int) = true) (j : Int) : (if j = (x : Int) then true else cD n l u x j) = cD n l u (x + 1) j := by
  unfold cD
  by_cases e : j = (x : Int)
  · subst e; rw [if_pos rfl, h, decide_eq_true (by omega)]; simp
  · rw [if_neg e]
    have : (0 ≤ j ∧ j < (x : Int)) ↔ (0 ≤ j ∧ j < ((x + 1 : Nat) : Int)) := by omega
    simp only [this]
theorem cD_f {n : Int} {l : List Ed} {u x : Nat} (h : cB n l u (x : Int) = false) (j : Int) : cD n l u x j = cD n l u (x + 1) j := by
  unfold cD
  by_cases e : j = (x : Int)
  · subst e; rw [h]; simp
  · have : (0 ≤ j ∧ j < (x : Int)) ↔ (0 ≤ j ∧ j < ((x + 1 : Nat) : Int)) := by omega
    simp only [this]
end Dg
namespace Go.Aw
open Dg
theorem ea_setI {m : Nat} (f : Int → Int) {t : Int} (x : Int) (h : 0 ≤ t ∧ t < m) : setMany (ea m fun j => .int (f j)) (0 + t.toNat * 1) [.int x] = ea m (fun j => .int (upd f t x j)) := by
  rw [ea_set _ _ h]; exact ea_congr fun j _ => by unfold upd; split <;> rfl
end Go.Aw
namespace Dg
theorem deg_succ {l : List Ed} {k : Nat} (hk : k < l.length) (j : Int) : upd (deg (l.take k)) l[k].v (deg (l.take k) l[k].v + 1) j = deg (l.take (k + 1)) j := by
  unfold upd deg
  rw [take_succ' hk, List.filter_append]
  by_cases h : j = l[k].v
  · subst h; rw [if_pos rfl, List.filter_cons_of_pos (by simp)]; simp
  · rw [if_neg h, List.filter_cons_of_neg (by simpa using Ne.symm h)]; simp
theorem deg_bd (l : List Ed) (j : Int) : 0 ≤ deg l j ∧ deg l j ≤ l.length := by
  unfold deg
  have := List.length_filter_le (fun e : Ed => decide (e.v = j)) l
  omega
theorem decs_succ (f : Int → Int) (vs : List Int) {k : Nat} (hk : k < vs.length) : upd (decs f (vs.take k)) vs[k] (decs f (vs.take k) vs[k] - 1) = decs f (vs.take (k + 1)) := by
  unfold decs; rw [fold_succ _ _ _ hk]
theorem decs_all (f : Int → Int) (vs : List Int) : decs f (vs.take vs.length) = decs f vs := by rw [List.take_length]
theorem decs_bd (vs : List Int) : ∀ (f : Int → Int) (b c : Int), (∀ j, b ≤ f j ∧ f j ≤ c) → ∀ j, b - vs.length ≤ decs f vs j ∧ decs f vs j ≤ c := by
  induction vs with
  | nil => intro f b c h j; have := h j; simp only [decs, List.foldl_nil, List.length_nil]; omega
  | cons v vs ih =>
    intro f b c h j
    have := ih (upd f v (f v - 1)) (b - 1) c (fun i => by unfold upd; have := h i; have := h v; split <;> omega) j
    have e : decs f (v :: vs) j = decs (upd f v (f v - 1)) vs j := rfl
    rw [e, List.length_cons]; omega
theorem pick_lt {m : Nat} {f : Int → Int} (h : 0 ≤ pick m f) : pick m f < m := by
  obtain ⟨k, hk, e, _⟩ := Fu.idxI_get ((Wl.idxI_mem _ _).1 h)
  unfold pick; rw [e]; rw [Go.Aw.bl_len] at hk; omega
end Dg
namespace Go.Aw
theorem ea_rep (m : Nat) (v : AV) : (List.replicate m [v]).flatten = ea m (fun _ => v) := by
  refine List.ext_getElem (by simp [List.length_flatten, ea]) fun i h1 h2 => ?_
  simp [ea] at h1 h2 ⊢
end Go.Aw
namespace Dg
theorem back_succ (g : Gr) (u : Nat) : back g (u + 1) = backU g u (suc g u) (back g u) := rfl
theorem backU_succ (g : Gr) (u : Int) (vs : List Int) (T : Int → List Int) {k : Nat} (hk : k < vs.length) (j : Int) : (if j = vs[k] then backU g u (vs.take k) T vs[k] ++ [u] else backU g u (vs.take k) T j) = backU g u (vs.take (k + 1)) T j := by
  unfold backU; rw [fold_succ _ _ _ hk]; unfold upd; rfl
theorem backU_all (g : Gr) (u : Int) (vs : List Int) (T : Int → List Int) : backU g u (vs.take vs.length) T = backU g u vs T := by rw [List.take_length]
theorem backU_bd (g : Gr) (u : Int) : ∀ (vs : List Int) (T : Int → List Int) (b : Nat), (∀ j, (T j).length ≤ b) → ∀ j, (backU g u vs T j).length ≤ b + vs.length
  | [], T, b, h, j => h j
  | v :: vs, T, b, h, j => by
    have := backU_bd g u vs (upd T v (T v ++ [u])) (b + 1) (fun i => by
      unfold upd
      split
      · have := h v; rw [List.length_append, List.length_singleton]; omega
      · have := h i; omega) j
    have e : backU g u (v :: vs) T j = backU g u vs (upd T v (T v ++ [u])) j := rfl
    rw [e, List.length_cons]; omega
theorem back_bd {g : Gr} (hg : OkG g) : ∀ (k : Nat) (j : Int), (back g k j).length ≤ 2000 * k
  | 0, j => by simp [back]
  | k + 1, j => by
    have h1 := backU_bd g k (suc g k) (back g k) (2000 * k) (back_bd hg k) j
    have h2 := (hg.row k).1
    rw [back_succ]; omega
theorem backU_mem (g : Gr) (u : Int) : ∀ (vs : List Int) (T : Int → List Int) (j w : Int), w ∈ backU g u vs T j ↔ w ∈ T j ∨ (w = u ∧ j ∈ vs)
  | [], T, j, w => by simp [backU]
  | v :: vs, T, j, w => by
    have e : backU g u (v :: vs) T j = backU g u vs (upd T v (T v ++ [u])) j := rfl
    rw [e, backU_mem g u vs]
    unfold upd
    by_cases h : j = v
    · subst h; simp
      exact fun h _ => .inr h
    · simp [h]
theorem back_mem (g : Gr) : ∀ (k : Nat) (j w : Int), w ∈ back g k j ↔ (0 ≤ w ∧ w < k) ∧ j ∈ suc g w
  | 0, j, w => by simp [back]; omega
  | k + 1, j, w => by
    rw [back_succ, backU_mem, back_mem g k]
    constructor
    · rintro (⟨⟨h1, h2⟩, h3⟩ | ⟨rfl, h⟩)
      · exact ⟨⟨h1, by omega⟩, h3⟩
      · exact ⟨⟨by omega, by omega⟩, h⟩
    · rintro ⟨⟨h1, h2⟩, h3⟩
      by_cases e : w = k
      · exact .inr ⟨e, e ▸ h3⟩
      · exact .inl ⟨⟨h1, by omega⟩, h3⟩
structure BI (m : Nat) (c : Int) (f : Nat) (x : BS) : Prop where
  q : ∀ u ∈ x.2, (0 ≤ u ∧ u < m) ∧ 0 ≤ x.1 u
  d : ∀ j, -1 ≤ x.1 j ∧ x.1 j ≤ c
  n : x.2.length + uns m (fun j => decide (0 ≤ x.1 j)) ≤ f
theorem uns_lt {m : Nat} {d : Int → Int} {u y : Int} (hu : 0 ≤ u ∧ u < m) (h : d u < 0) (hy : 0 ≤ y) : uns m (fun j => decide (0 ≤ upd d u y j)) < uns m (fun j => decide (0 ≤ d j)) := by
  have e : (fun j => decide (0 ≤ upd d u y j)) = upd (fun j => decide (0 ≤ d j)) u true := by
    funext j; unfold upd; split
    · exact decide_eq_true hy
    · rfl
  rw [e]
  exact uns_upd hu (decide_eq_false (by omega))
theorem BI.see {m : Nat} {c : Int} {f : Nat} {x : BS} (h : BI m c f x) {q : Int} {r : List Int} (hq : x.2 = q :: r) (hc : x.1 q + 1 ≤ c) {u : Int} (hu : 0 ≤ u ∧ u < m) : BI m c f (seeF q x u) ∧ (∃ r', (seeF q x u).2 = q :: r') ∧ (seeF q x u).1 q = x.1 q := by
  have h0 := (h.q q (by rw [hq]; simp)).2
  unfold seeF
  split
  · rename_i hlt
    have hne : q ≠ u := fun e => by subst e; omega
    refine ⟨⟨?_, ?_, ?_⟩, ⟨r ++ [u], by rw [hq]; rfl⟩, by simp [upd, hne]⟩
    · intro w hw
      rcases List.mem_append.1 hw with hw | hw
      · obtain ⟨a, b⟩ := h.q w hw
        refine ⟨a, ?_⟩
        show 0 ≤ upd x.1 u (x.1 q + 1) w
        unfold upd; split <;> omega
      · rw [List.mem_singleton.1 hw]
        refine ⟨hu, ?_⟩
        show 0 ≤ upd x.1 u (x.1 q + 1) u
        unfold upd; rw [if_pos rfl]; omega
    · intro j
      have := h.d j
      show -1 ≤ upd x.1 u (x.1 q + 1) j ∧ upd x.1 u (x.1 q + 1) j ≤ c
      unfold upd; split <;> omega
    · have h1 := h.n
      have h2 := uns_lt hu hlt (show 0 ≤ x.1 q + 1 by omega)
      show (x.2 ++ [u]).length + uns m (fun j => decide (0 ≤ upd x.1 u (x.1 q + 1) j)) ≤ f
      rw [List.length_append, List.length_singleton]
      omega
  · exact ⟨h, ⟨r, hq⟩, rfl⟩
theorem BI.fold {m : Nat} {c : Int} {f : Nat} {q : Int} : ∀ (l : List Int) {x : BS} {r : List Int}, BI m c f x → x.2 = q :: r → x.1 q + 1 ≤ c → (∀ u ∈ l, 0 ≤ u ∧ u < m) → BI m c f (l.foldl (seeF q) x) ∧ (∃ r', (l.foldl (seeF q) x).2 = q :: r') ∧ (l.foldl (seeF q) x).1 q = x.1 q
  | [], x, r, h, hq, hc, hl => ⟨h, ⟨r, hq⟩, rfl⟩
  | u :: l, x, r, h, hq, hc, hl => by
    obtain ⟨h1, ⟨r', h2⟩, h3⟩ := h.see hq hc (hl u (by simp))
    obtain ⟨k1, k2, k3⟩ := BI.fold l h1 h2 (by omega) (fun w hw => hl w (by simp [hw]))
    exact ⟨k1, k2, k3.trans h3⟩
theorem BI.pop {m : Nat} {c : Int} {f : Nat} {x : BS} {q : Int} {r : List Int} (h : BI m c (f + 1) x) (hq : x.2 = q :: r) : BI m c f (x.1, r) :=
  ⟨fun u hu => h.q u (by rw [hq]; simp [hu]), h.d, by have := h.n; rw [hq, List.length_cons] at this; show r.length + uns m (fun j => decide (0 ≤ x.1 j)) ≤ f; omega⟩
theorem BI.mono {m : Nat} {c c' : Int} {f : Nat} {x : BS} (h : BI m c f x) (hc : c ≤ c') : BI m c' f x := ⟨h.q, fun j => by have := h.d j; omega, h.n⟩
theorem bfs_nil (B : Int → List Int) (f : Nat) (d : Int → Int) : bfs B f (d, []) = d := by cases f <;> rfl
theorem BI.start {m : Nat} {t : Int} (ht : 0 ≤ t ∧ t < m) : BI m 0 (m + 1) (upd (fun _ => -1) t 0, [t]) := by
  refine ⟨?_, ?_, ?_⟩
  · intro u hu
    rw [List.mem_singleton.1 hu]
    refine ⟨ht, ?_⟩
    show 0 ≤ upd (fun _ => -1) t 0 t
    unfold upd; rw [if_pos rfl]; exact Int.le_refl _
  · intro j
    show -1 ≤ upd (fun _ => -1) t 0 j ∧ upd (fun _ => -1) t 0 j ≤ 0
    unfold upd; split
    · omega
    · exact ⟨Int.le_refl _, show (-1 : Int) ≤ 0 by omega⟩
  · have := uns_bd m (fun j => decide (0 ≤ upd (fun _ => -1) t 0 j))
    show 1 + uns m (fun j => decide (0 ≤ upd (fun _ => -1) t 0 j)) ≤ m + 1
    omega
def backL (g : Gr) : List (List Int) := Go.Aw.bl g.n.toNat (back g g.n.toNat)
def distL (g : Gr) (t : Int) : List Int := Go.Aw.bl g.n.toNat (dist g t)
end Dg
namespace Dg
theorem dist_get {g : Gr} {t v : Int} (h : 0 ≤ v ∧ v < g.n) : (distL g t).getD v.toNat default = dist g t v := by
  rw [distL, Go.Aw.bl_getD _ _ _ _ (by omega), Int.toNat_of_nonneg h.1]
theorem bfs_bd {B : Int → List Int} {m : Nat} (hB : ∀ q, ∀ u ∈ B q, 0 ≤ u ∧ u < (m : Int)) : ∀ (f : Nat) (x : BS), BI m ((m + 1 : Nat) - (f : Int)) f x → ∀ j, -1 ≤ bfs B f x j ∧ bfs B f x j ≤ (m + 1 : Nat)
  | 0, x, h, j => by have := h.d j; exact ⟨this.1, by have := this.2; show x.1 j ≤ _; push_cast at this ⊢; omega⟩
  | f + 1, (d, []), h, j => by have := h.d j; exact ⟨this.1, by have := this.2; show d j ≤ _; simp only at this; push_cast at this ⊢; omega⟩
  | f + 1, (d, q :: qs), h, j => by
    have h1 : d q + 1 ≤ ((m + 1 : Nat) : Int) - (f : Int) := by have := (h.d q).2; simp only at this; push_cast at this ⊢; omega
    have h2 := h.mono (c' := ((m + 1 : Nat) : Int) - (f : Int)) (by push_cast; omega)
    obtain ⟨k1, ⟨r', k2⟩, _⟩ := h2.fold (B q) rfl h1 (hB q)
    have := bfs_bd hB f _ (k1.pop k2) j
    rw [bfs, k2]; exact this
theorem dist_bd {g : Gr} (hg : OkG g) {t : Int} (ht : 0 ≤ t ∧ t < g.n) (j : Int) : -1 ≤ dist g t j ∧ dist g t j ≤ 201 := by
  have h := bfs_bd (m := g.n.toNat) (B := back g g.n.toNat) (fun q u hu => ((back_mem g g.n.toNat q u).1 hu).1) (g.n.toNat + 1) _ ((BI.start ⟨ht.1, by omega⟩).mono (by push_cast; omega)) j
  have := hg.nb
  unfold dist
  refine ⟨h.1, ?_⟩
  have := h.2
  push_cast at this; omega
def lsF (d : Int → Int) (m v : Int) : Int := if 0 ≤ d v ∧ (m < 0 ∨ d v < m) then d v else m
theorem lst_succ (d : Int → Int) (vs : List Int) {k : Nat} (hk : k < vs.length) : lst d (vs.take (k + 1)) = lsF d (lst d (vs.take k)) vs[k] := by
  unfold lst; rw [fold_succ _ _ _ hk]; rfl
theorem lst_bd {d : Int → Int} {b : Int} (h : ∀ j, d j ≤ b) (hb : 0 ≤ b) (vs : List Int) : -1 ≤ lst d vs ∧ lst d vs ≤ b := by
  have key : ∀ (vs : List Int) (m : Int), (-1 ≤ m ∧ m ≤ b) → (-1 ≤ vs.foldl (lsF d) m ∧ vs.foldl (lsF d) m ≤ b) := by
    intro vs
    induction vs with
    | nil => exact fun m h => h
    | cons v vs ih =>
      intro m hm
      refine ih _ ?_
      have := h v
      unfold lsF; split <;> omega
  exact key vs (-1) (by omega)
theorem nxt_at {d : Int → Int} {vs : List Int} {left now : Int} {k : Nat} (hk : k < vs.length) (hn : ∀ i (h : i < vs.length), i < k → d vs[i] ≠ left) (h : d vs[k] = left) : nxt d vs left now = vs[k] := by
  unfold nxt
  have : vs.find? (fun v => decide (d v = left)) = some vs[k] := by
    rw [List.find?_eq_some_iff_getElem]
    exact ⟨by simpa using h, k, hk, rfl, fun j hj => by simpa using hn j (by omega) hj⟩
  rw [this]; rfl
theorem nxt_no {d : Int → Int} {vs : List Int} {left now : Int} (hn : ∀ i (h : i < vs.length), d vs[i] ≠ left) : nxt d vs left now = now := by
  unfold nxt
  have : vs.find? (fun v => decide (d v = left)) = none := by
    rw [List.find?_eq_none]
    intro x hx
    obtain ⟨i, hi, rfl⟩ := List.getElem_of_mem hx
    simpa using hn i hi
  rw [this]; rfl
theorem nxt_mem (d : Int → Int) (vs : List Int) (left now : Int) : nxt d vs left now = now ∨ nxt d vs left now ∈ vs := by
  unfold nxt
  cases e : vs.find? (fun v => decide (d v = left)) with
  | none => exact .inl rfl
  | some x => exact .inr (List.mem_of_find?_eq_some e)
end Dg
namespace Dg
theorem ord_bd {g : Gr} : ∀ (f : Nat) (op : Int → Int) (out o : List Int), ord g f op out = some o → (∀ u ∈ out, 0 ≤ u ∧ u < (g.n.toNat : Int)) → (∀ u ∈ o, 0 ≤ u ∧ u < (g.n.toNat : Int)) ∧ o.length = out.length + f
  | 0, op, out, o, h, hb => by cases h; exact ⟨hb, rfl⟩
  | f + 1, op, out, o, h, hb => by
    rw [ord] at h
    split at h
    · cases h
    · rename_i hp
      obtain ⟨h1, h2⟩ := ord_bd f _ _ _ h (fun u hu => by
        rcases List.mem_append.1 hu with hu | hu
        · exact hb u hu
        · rw [List.mem_singleton.1 hu]; exact ⟨by omega, pick_lt (by omega)⟩)
      refine ⟨h1, ?_⟩
      rw [h2, List.length_append, List.length_singleton]; omega
theorem orderE_zero {n : Int} {l : List Ed} (h : orderE n l = 0) : chk n l = 0 ∧ ordO n l = some (orderL n l) := by
  unfold orderE at h
  split at h
  · cases h
  · rename_i hc
    split at h
    · rename_i hs
      refine ⟨by omega, ?_⟩
      unfold orderL
      rw [if_neg hc]
      cases e : ordO n l with
      | none => rw [e] at hs; cases hs
      | some o => rfl
    · cases h
theorem order_bd {n : Int} {l : List Ed} (h : orderE n l = 0) : (∀ u ∈ orderL n l, 0 ≤ u ∧ u < n) ∧ (orderL n l).length = n.toNat := by
  obtain ⟨h1, h2⟩ := orderE_zero h
  have hk := (okE h1).nb
  obtain ⟨k1, k2⟩ := ord_bd (g := gr n l) n.toNat _ _ _ h2 (by simp)
  refine ⟨fun u hu => ?_, by simpa using k2⟩
  have h3 := (k1 u hu).1
  have h4 : u < (n.toNat : Int) := (k1 u hu).2
  omega
theorem rkU_succ (u : Int) (vs : List Int) (f : Int → Int) {k : Nat} (hk : k < vs.length) : upd (rkU u (vs.take k) f) vs[k] (max (rkU u (vs.take k) f vs[k]) (rkU u (vs.take k) f u + 1)) = rkU u (vs.take (k + 1)) f := by
  unfold rkU; rw [fold_succ _ _ _ hk]
theorem rkU_bd (u : Int) : ∀ (vs : List Int) (f : Int → Int) (b : Int), (∀ j, 0 ≤ f j ∧ f j ≤ b) → ∀ j, 0 ≤ rkU u vs f j ∧ rkU u vs f j ≤ b + vs.length
  | [], f, b, h, j => by have := h j; show 0 ≤ f j ∧ f j ≤ b + 0; omega
  | v :: vs, f, b, h, j => by
    have := rkU_bd u vs (upd f v (max (f v) (f u + 1))) (b + 1) (fun i => by unfold upd; have := h i; have := h v; have := h u; split <;> omega) j
    have e : rkU u (v :: vs) f j = rkU u vs (upd f v (max (f v) (f u + 1))) j := rfl
    rw [e, List.length_cons]; omega
def rkF (g : Gr) (o : List Int) (k : Nat) : Int → Int := (o.take k).foldl (fun f u => rkU u (suc g u) f) (fun _ => 0)
theorem rkF_succ (g : Gr) (o : List Int) {k : Nat} (hk : k < o.length) : rkF g o (k + 1) = rkU o[k] (suc g o[k]) (rkF g o k) := by unfold rkF; rw [fold_succ _ _ _ hk]
theorem rkF_bd {g : Gr} (hg : OkG g) (o : List Int) : ∀ k, k ≤ o.length → ∀ j, 0 ≤ rkF g o k j ∧ rkF g o k j ≤ 2000 * k
  | 0, _, j => by simp [rkF]
  | k + 1, h, j => by
    rw [rkF_succ g o (by omega)]
    have h1 := rkU_bd o[k] (suc g o[k]) (rkF g o k) (2000 * k) (rkF_bd hg o k (by omega)) j
    have h2 := (hg.row o[k]).1
    push_cast; omega
theorem rkF_all (g : Gr) (o : List Int) : rkF g o o.length = rks g o := by unfold rkF rks; rw [List.take_length]
theorem best_len_nil {A : Int → List Int} {k : Nat} (h : (best A k).length = 0) : best A k = [] := List.eq_nil_of_length_eq_zero h
theorem mkE_succ_t {u : Int} {s : Int → Bool} {k : Nat} (h : s (k : Int) = true) (L : List Ed) : (L ++ mkE u s k) ++ [⟨u, (k : Int)⟩] = L ++ mkE u s (k + 1) := by
  unfold mkE; rw [← mk_t h, List.map_append, ← List.append_assoc]; rfl
theorem mkE_succ_f {u : Int} {s : Int → Bool} {k : Nat} (h : s (k : Int) = false) (L : List Ed) : L ++ mkE u s k = L ++ mkE u s (k + 1) := by
  unfold mkE; rw [← mk_f h]
theorem mkE_len (u : Int) (s : Int → Bool) (k : Nat) : (mkE u s k).length ≤ k := by unfold mkE; rw [List.length_map]; exact mk_len s k
theorem clo_mono (g : Gr) {a b : Nat} (h : a ≤ b) : (clo g a).length ≤ (clo g b).length := by
  induction b with
  | zero => rw [Nat.le_zero.1 h]; exact Nat.le_refl _
  | succ b ih =>
    rcases Nat.lt_or_ge b a with h1 | h1
    · rw [show a = b + 1 by omega]; exact Nat.le_refl _
    · have := ih h1
      rw [clo, List.length_append]; omega
end Dg
