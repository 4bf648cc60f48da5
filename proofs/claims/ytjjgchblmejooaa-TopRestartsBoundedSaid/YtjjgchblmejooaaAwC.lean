/- The abstract walk, third part: what values are seen as, kept frames, maps. For every program. No condition. -/
import Derived.Test.YtjjgchblmejooaaAwB
import Derived.MapKept
import Derived.Laws.CopyRow
import Derived.RangeFuncLeaves
import Derived.RangeFuncRecord
import Derived.RangeFuncIn
import Derived.OrdersIn
set_option linter.unusedVariables false
set_option linter.unusedSimpArgs false
/- An abstract walk: what a value is seen as; frames that are kept; loops over a kept frame. -/
namespace Go.Aw
open Go.RowKit (Below)

inductive RowsImp : List (List AV) → List (List AV) → Prop
  | nil : RowsImp [] []
  | cons {x y xs ys} (h : ImpL x y) (r : RowsImp xs ys) : RowsImp (x :: xs) (y :: ys)

theorem ImpL.len {a b : List AV} (h : ImpL a b) : a.length = b.length := by
  induction h with
  | nil => rfl
  | cons _ _ ih => simp [ih]
theorem ImpL.append {a b c d : List AV} (h : ImpL a b) (k : ImpL c d) : ImpL (a ++ c) (b ++ d) := by
  induction h with
  | nil => exact k
  | cons h _ ih => exact .cons h ih
theorem RowsImp.refl : ∀ (xs : List (List AV)), RowsImp xs xs
  | [] => .nil
  | x :: xs => .cons (ImpL.refl x) (RowsImp.refl xs)
theorem RowsImp.len {xs ys : List (List AV)} (h : RowsImp xs ys) : xs.length = ys.length := by
  induction h with
  | nil => rfl
  | cons _ _ ih => simp [ih]
theorem RowsImp.append {a b c d : List (List AV)} (h : RowsImp a b) (k : RowsImp c d) : RowsImp (a ++ c) (b ++ d) := by
  induction h with
  | nil => exact k
  | cons h _ ih => exact .cons h ih
theorem RowsImp.take {xs ys : List (List AV)} (h : RowsImp xs ys) : ∀ n, RowsImp (xs.take n) (ys.take n) := by
  induction h with
  | nil => intro n; simp; exact .nil
  | cons h _ ih => intro n; cases n with
    | zero => exact .nil
    | succ n => exact .cons h (ih n)
theorem RowsImp.drop {xs ys : List (List AV)} (h : RowsImp xs ys) : ∀ n, RowsImp (xs.drop n) (ys.drop n) := by
  induction h with
  | nil => intro n; simp; exact .nil
  | cons h r ih => intro n; cases n with
    | zero => exact .cons h r
    | succ n => exact ih n
theorem RowsImp.flatten {xs ys : List (List AV)} (h : RowsImp xs ys) : ImpL xs.flatten ys.flatten := by
  induction h with
  | nil => exact .nil
  | cons h _ ih => exact h.append ih
theorem RowsImp.sizes {xs ys : List (List AV)} {sz : Nat} (h : RowsImp xs ys) : (∀ x ∈ xs, x.length = sz) → ∀ y ∈ ys, y.length = sz := by
  induction h with
  | nil => exact fun h => h
  | cons h _ ih =>
    intro hl y hy
    rcases List.mem_cons.1 hy with rfl | hy
    · rw [← h.len]; exact hl _ (List.mem_cons_self ..)
    · exact ih (fun x hx => hl x (List.mem_cons_of_mem _ hx)) y hy
theorem comRow.imp {g : Ghost} {b : Nat} : ∀ {o : Nat} {cs ds : List AV}, ImpL cs ds → comRow g b o cs → comRow g b o ds
  | _, _, _, .nil, _ => trivial
  | _, _, _, .cons h r, ⟨⟨v, a, c, d⟩, k⟩ => ⟨⟨v, a, h _ _ c, d⟩, comRow.imp r k⟩
theorem AV.rows.imp {g : Ghost} {a : Option Addr} {sz : Nat} {xs ys : List (List AV)} (h : RowsImp xs ys) (k : AV.rows g a sz xs) : AV.rows g a sz ys :=
  ⟨h.sizes k.1, fun hne => by
    obtain ⟨b, o, e, hr⟩ := k.2 (by rintro rfl; cases h; exact hne rfl)
    exact ⟨b, o, e, hr.imp h.flatten⟩⟩
theorem AV.Imp.sl_rows {sz : Nat} {xs ys : List (List AV)} (h : RowsImp xs ys) : (AV.sl sz xs).Imp (.sl sz ys) := fun g u hu => by
  obtain ⟨a, cap, e, hc, hr⟩ := AV.sl_holds.1 hu
  exact AV.sl_holds.2 ⟨a, cap, by rw [← h.len]; exact e, by rw [← h.len]; exact hc, hr.imp h⟩
theorem AV.Imp.full_rows {sz : Nat} {xs ys : List (List AV)} (h : RowsImp xs ys) : (AV.full sz xs).Imp (.full sz ys) := fun g u hu => by
  obtain ⟨a, e, hc, hr⟩ := AV.full_holds.1 hu
  exact AV.full_holds.2 ⟨a, by rw [← h.len]; exact e, fun ha => by have := hc ha; subst this; cases h; rfl, hr.imp h⟩
theorem AV.Imp.own_rows {sz i : Nat} {xs ys : List (List AV)} (h : RowsImp xs ys) : (AV.own sz i xs).Imp (.own sz i ys) := fun g u hu => by
  obtain ⟨b, p, S, off, cap, h1, h2, h3, h4, h5, h6, h7⟩ := AV.own_holds.1 hu
  exact AV.own_holds.2 ⟨b, p, S, off, cap, h1, by rw [← h.len]; exact h2, by rw [← h.len]; exact h3, h.sizes h4, h5.imp h.flatten, by rw [← h.len]; exact h6, h7⟩
theorem AV.Imp.grow_rows {sz : Nat} {t : Option Nat} {xs ys : List (List AV)} (h : RowsImp xs ys) : (AV.grow sz t xs).Imp (.grow sz t ys) := by
  cases t with
  | none => exact AV.Imp.full_rows h
  | some i => exact AV.Imp.own_rows h

/-- The cells x are those of a. -/
class RowOf (x : List AV) {α : Type} (enc : α → List AV) (a : outParam α) : Prop where
  imp : ImpL x (enc a)
class RowsOf (xs : List (List AV)) {α : Type} (enc : α → List AV) (l : outParam (List α)) : Prop where
  imp : RowsImp xs (l.map enc)
class Sl (v : AV) (sz : Nat) {α : Type} (enc : α → List AV) (l : outParam (List α)) : Prop where
  imp : v.Imp (.sl sz (l.map enc))
section
variable {α : Type} {enc : α → List AV}
instance (priority := high) {a : α} : RowOf (enc a) enc a := ⟨ImpL.refl _⟩
instance (priority := high) {l : List α} : RowsOf (l.map enc) enc l := ⟨RowsImp.refl _⟩
instance : RowsOf [] enc [] := ⟨.nil⟩
instance {x : List AV} {xs : List (List AV)} {a : α} {l : List α} [h : RowOf x enc a] [r : RowsOf xs enc l] : RowsOf (x :: xs) enc (a :: l) := ⟨.cons h.imp r.imp⟩
instance {xs ys : List (List AV)} {l m : List α} [h : RowsOf xs enc l] [r : RowsOf ys enc m] : RowsOf (xs ++ ys) enc (l ++ m) := ⟨by rw [List.map_append]; exact h.imp.append r.imp⟩
instance {xs : List (List AV)} {l : List α} {n : Nat} [h : RowsOf xs enc l] : RowsOf (xs.take n) enc (l.take n) := ⟨by rw [List.map_take]; exact h.imp.take n⟩
instance {xs : List (List AV)} {l : List α} {n : Nat} [h : RowsOf xs enc l] : RowsOf (xs.drop n) enc (l.drop n) := ⟨by rw [List.map_drop]; exact h.imp.drop n⟩
instance (priority := high) {sz : Nat} {l : List α} : Sl (.sl sz (l.map enc)) sz enc l := ⟨AV.Imp.refl _⟩
instance {v : AV} {sz : Nat} {xs : List (List AV)} {l : List α} [h : Rd v sz xs] [r : RowsOf xs enc l] : Sl v sz enc l := ⟨h.imp.trans (AV.Imp.sl_rows r.imp)⟩
end
theorem AV.Imp.grow_of {α : Type} {enc : α → List AV} {sz : Nat} {t : Option Nat} {xs : List (List AV)} {l l' : List α} [h : RowsOf xs enc l] (e : l = l') : (AV.grow sz t xs).Imp (.grow sz t (l'.map enc)) := by
  subst e; exact AV.Imp.grow_rows h.imp
theorem AV.Imp.sl_of {α : Type} {enc : α → List AV} {v : AV} {sz : Nat} {l l' : List α} [h : Sl v sz enc l] (e : l = l') : v.Imp (.sl sz (l'.map enc)) := by
  subst e; exact h.imp
theorem AV.Imp.row_of {α : Type} {enc : α → List AV} {x : List AV} {a a' : α} [h : RowOf x enc a] (e : a = a') : (AV.agg x).Imp (.agg (enc a')) := by
  subst e; exact AV.Imp.agg h.imp
theorem AV.Imp.int_of {k : IntKind} {a b : Int} (e : a = b) : (AV.val (.int k a)).Imp (.val (.int k b)) := by subst e; exact AV.Imp.refl _
theorem AV.Imp.bool_of {a b : Bool} (e : a = b) : (AV.val (.bool a)).Imp (.val (.bool b)) := by subst e; exact AV.Imp.refl _
theorem AV.Imp.grow_full0 {sz : Nat} : (AV.val (.slice none 0 0)).Imp (.grow sz none []) := AV.nil_grow

def encI (n : Int) : List AV := [.int n]
instance {n : Int} : RowOf [.val (.int .i64 n)] encI n := ⟨ImpL.refl _⟩
def encU (n : Int) : List AV := [.val (.int .u8 n)]
instance {n : Int} : RowOf [.val (.int .u8 n)] encU n := ⟨ImpL.refl _⟩
def encB (b : Bool) : List AV := [.bool b]
instance {b : Bool} : RowOf [.val (.bool b)] encB b := ⟨ImpL.refl _⟩
/-- A list of lists. -/
def encLI (l : List Int) : List AV := [.sl 1 (l.map encI)]
instance {v : AV} {l : List Int} [h : Sl v 1 encI l] : RowOf [v] encLI l := ⟨.cons h.imp .nil⟩

/-! ### Places in a list of items -/
theorem k1 {x0 it : Item} {st : List Item} : Take (x0 :: it :: st) it (x0 :: st) := .there (.here)
theorem u1 {x0 it it' : Item} {st : List Item} : Upd (x0 :: it :: st) it it' (x0 :: it' :: st) := .there (.here)
theorem k2 {x0 x1 it : Item} {st : List Item} : Take (x0 :: x1 :: it :: st) it (x0 :: x1 :: st) := .there (.there (.here))
theorem u2 {x0 x1 it it' : Item} {st : List Item} : Upd (x0 :: x1 :: it :: st) it it' (x0 :: x1 :: it' :: st) := .there (.there (.here))
theorem k3 {x0 x1 x2 it : Item} {st : List Item} : Take (x0 :: x1 :: x2 :: it :: st) it (x0 :: x1 :: x2 :: st) := .there (.there (.there (.here)))
theorem u3 {x0 x1 x2 it it' : Item} {st : List Item} : Upd (x0 :: x1 :: x2 :: it :: st) it it' (x0 :: x1 :: x2 :: it' :: st) := .there (.there (.there (.here)))
theorem k4 {x0 x1 x2 x3 it : Item} {st : List Item} : Take (x0 :: x1 :: x2 :: x3 :: it :: st) it (x0 :: x1 :: x2 :: x3 :: st) := .there (.there (.there (.there (.here))))
theorem u4 {x0 x1 x2 x3 it it' : Item} {st : List Item} : Upd (x0 :: x1 :: x2 :: x3 :: it :: st) it it' (x0 :: x1 :: x2 :: x3 :: it' :: st) := .there (.there (.there (.there (.here))))
theorem k5 {x0 x1 x2 x3 x4 it : Item} {st : List Item} : Take (x0 :: x1 :: x2 :: x3 :: x4 :: it :: st) it (x0 :: x1 :: x2 :: x3 :: x4 :: st) := .there (.there (.there (.there (.there (.here)))))
theorem u5 {x0 x1 x2 x3 x4 it it' : Item} {st : List Item} : Upd (x0 :: x1 :: x2 :: x3 :: x4 :: it :: st) it it' (x0 :: x1 :: x2 :: x3 :: x4 :: it' :: st) := .there (.there (.there (.there (.there (.here)))))
theorem k6 {x0 x1 x2 x3 x4 x5 it : Item} {st : List Item} : Take (x0 :: x1 :: x2 :: x3 :: x4 :: x5 :: it :: st) it (x0 :: x1 :: x2 :: x3 :: x4 :: x5 :: st) := .there (.there (.there (.there (.there (.there (.here))))))
theorem u6 {x0 x1 x2 x3 x4 x5 it it' : Item} {st : List Item} : Upd (x0 :: x1 :: x2 :: x3 :: x4 :: x5 :: it :: st) it it' (x0 :: x1 :: x2 :: x3 :: x4 :: x5 :: it' :: st) := .there (.there (.there (.there (.there (.there (.here))))))
theorem k7 {x0 x1 x2 x3 x4 x5 x6 it : Item} {st : List Item} : Take (x0 :: x1 :: x2 :: x3 :: x4 :: x5 :: x6 :: it :: st) it (x0 :: x1 :: x2 :: x3 :: x4 :: x5 :: x6 :: st) := .there (.there (.there (.there (.there (.there (.there (.here)))))))
theorem u7 {x0 x1 x2 x3 x4 x5 x6 it it' : Item} {st : List Item} : Upd (x0 :: x1 :: x2 :: x3 :: x4 :: x5 :: x6 :: it :: st) it it' (x0 :: x1 :: x2 :: x3 :: x4 :: x5 :: x6 :: it' :: st) := .there (.there (.there (.there (.there (.there (.there (.here)))))))
theorem k8 {x0 x1 x2 x3 x4 x5 x6 x7 it : Item} {st : List Item} : Take (x0 :: x1 :: x2 :: x3 :: x4 :: x5 :: x6 :: x7 :: it :: st) it (x0 :: x1 :: x2 :: x3 :: x4 :: x5 :: x6 :: x7 :: st) := .there (.there (.there (.there (.there (.there (.there (.there (.here))))))))
theorem u8 {x0 x1 x2 x3 x4 x5 x6 x7 it it' : Item} {st : List Item} : Upd (x0 :: x1 :: x2 :: x3 :: x4 :: x5 :: x6 :: x7 :: it :: st) it it' (x0 :: x1 :: x2 :: x3 :: x4 :: x5 :: x6 :: x7 :: it' :: st) := .there (.there (.there (.there (.there (.there (.there (.there (.here))))))))
theorem k9 {x0 x1 x2 x3 x4 x5 x6 x7 x8 it : Item} {st : List Item} : Take (x0 :: x1 :: x2 :: x3 :: x4 :: x5 :: x6 :: x7 :: x8 :: it :: st) it (x0 :: x1 :: x2 :: x3 :: x4 :: x5 :: x6 :: x7 :: x8 :: st) := .there (.there (.there (.there (.there (.there (.there (.there (.there (.here)))))))))
theorem u9 {x0 x1 x2 x3 x4 x5 x6 x7 x8 it it' : Item} {st : List Item} : Upd (x0 :: x1 :: x2 :: x3 :: x4 :: x5 :: x6 :: x7 :: x8 :: it :: st) it it' (x0 :: x1 :: x2 :: x3 :: x4 :: x5 :: x6 :: x7 :: x8 :: it' :: st) := .there (.there (.there (.there (.there (.there (.there (.there (.there (.here)))))))))
theorem k10 {x0 x1 x2 x3 x4 x5 x6 x7 x8 x9 it : Item} {st : List Item} : Take (x0 :: x1 :: x2 :: x3 :: x4 :: x5 :: x6 :: x7 :: x8 :: x9 :: it :: st) it (x0 :: x1 :: x2 :: x3 :: x4 :: x5 :: x6 :: x7 :: x8 :: x9 :: st) := .there (.there (.there (.there (.there (.there (.there (.there (.there (.there (.here))))))))))
theorem u10 {x0 x1 x2 x3 x4 x5 x6 x7 x8 x9 it it' : Item} {st : List Item} : Upd (x0 :: x1 :: x2 :: x3 :: x4 :: x5 :: x6 :: x7 :: x8 :: x9 :: it :: st) it it' (x0 :: x1 :: x2 :: x3 :: x4 :: x5 :: x6 :: x7 :: x8 :: x9 :: it' :: st) := .there (.there (.there (.there (.there (.there (.there (.there (.there (.there (.here))))))))))
theorem k11 {x0 x1 x2 x3 x4 x5 x6 x7 x8 x9 x10 it : Item} {st : List Item} : Take (x0 :: x1 :: x2 :: x3 :: x4 :: x5 :: x6 :: x7 :: x8 :: x9 :: x10 :: it :: st) it (x0 :: x1 :: x2 :: x3 :: x4 :: x5 :: x6 :: x7 :: x8 :: x9 :: x10 :: st) := .there (.there (.there (.there (.there (.there (.there (.there (.there (.there (.there (.here)))))))))))
theorem u11 {x0 x1 x2 x3 x4 x5 x6 x7 x8 x9 x10 it it' : Item} {st : List Item} : Upd (x0 :: x1 :: x2 :: x3 :: x4 :: x5 :: x6 :: x7 :: x8 :: x9 :: x10 :: it :: st) it it' (x0 :: x1 :: x2 :: x3 :: x4 :: x5 :: x6 :: x7 :: x8 :: x9 :: x10 :: it' :: st) := .there (.there (.there (.there (.there (.there (.there (.there (.there (.there (.there (.here)))))))))))
theorem k12 {x0 x1 x2 x3 x4 x5 x6 x7 x8 x9 x10 x11 it : Item} {st : List Item} : Take (x0 :: x1 :: x2 :: x3 :: x4 :: x5 :: x6 :: x7 :: x8 :: x9 :: x10 :: x11 :: it :: st) it (x0 :: x1 :: x2 :: x3 :: x4 :: x5 :: x6 :: x7 :: x8 :: x9 :: x10 :: x11 :: st) := .there (.there (.there (.there (.there (.there (.there (.there (.there (.there (.there (.there (.here))))))))))))
theorem u12 {x0 x1 x2 x3 x4 x5 x6 x7 x8 x9 x10 x11 it it' : Item} {st : List Item} : Upd (x0 :: x1 :: x2 :: x3 :: x4 :: x5 :: x6 :: x7 :: x8 :: x9 :: x10 :: x11 :: it :: st) it it' (x0 :: x1 :: x2 :: x3 :: x4 :: x5 :: x6 :: x7 :: x8 :: x9 :: x10 :: x11 :: it' :: st) := .there (.there (.there (.there (.there (.there (.there (.there (.there (.there (.there (.there (.here))))))))))))
theorem k13 {x0 x1 x2 x3 x4 x5 x6 x7 x8 x9 x10 x11 x12 it : Item} {st : List Item} : Take (x0 :: x1 :: x2 :: x3 :: x4 :: x5 :: x6 :: x7 :: x8 :: x9 :: x10 :: x11 :: x12 :: it :: st) it (x0 :: x1 :: x2 :: x3 :: x4 :: x5 :: x6 :: x7 :: x8 :: x9 :: x10 :: x11 :: x12 :: st) := .there (.there (.there (.there (.there (.there (.there (.there (.there (.there (.there (.there (.there (.here)))))))))))))
theorem u13 {x0 x1 x2 x3 x4 x5 x6 x7 x8 x9 x10 x11 x12 it it' : Item} {st : List Item} : Upd (x0 :: x1 :: x2 :: x3 :: x4 :: x5 :: x6 :: x7 :: x8 :: x9 :: x10 :: x11 :: x12 :: it :: st) it it' (x0 :: x1 :: x2 :: x3 :: x4 :: x5 :: x6 :: x7 :: x8 :: x9 :: x10 :: x11 :: x12 :: it' :: st) := .there (.there (.there (.there (.there (.there (.there (.there (.there (.there (.there (.there (.there (.here)))))))))))))
class SaysI (gv : AV) (pol : Bool) (c : outParam Prop) : Prop where
  out : Says gv pol c
instance {b pol : Bool} : SaysI (.bool b) pol (b = pol) := ⟨Says.bool b pol⟩
instance {c : Prop} {b pol : Bool} : SaysI (.opt c (.bool b)) pol (c ∧ b = pol) := ⟨Says.opt c b pol⟩
theorem le_ {n m : Nat} (h : Nat.ble n m = true) : n ≤ m := Nat.le_of_ble_eq_true h

/-! ### Frames that are kept -/
inductive Keeps (σ : Fr) : List Nat → Fr → Prop
  | nil : Keeps σ [] []
  | cons {t ts v r} (h : look σ t = some v) (k : Keeps σ ts r) : Keeps σ (t :: ts) ((t, v) :: r)
theorem Keeps.le {σ : Fr} {ts : List Nat} {r : Fr} (h : Keeps σ ts r) : FrLe σ r := by
  induction h with
  | nil => exact .nil _
  | cons h _ ih => exact .cons h (AV.Imp.refl _) ih
/-- The items its are taken out of st; r is what is left. -/
inductive Takes : List Item → List Item → List Item → Prop
  | nil (st) : Takes st [] st
  | cons {st it st' its r} (h : Take st it st') (k : Takes st' its r) : Takes st (it :: its) r
theorem Takes.perm {st its r : List Item} (h : Takes st its r) : st.Perm (its ++ r) := by
  induction h with
  | nil st => exact List.Perm.refl _
  | cons h _ ih => exact h.perm.trans (List.Perm.cons _ ih)

section code
variable {P : Program} {n : Nat} {σ : Fr} {st : List Item} {Q : Exit → Fr → List Item → Prop}
theorem awp_keep {c : Code} (ts : List Nat) {σ' : Fr} (h : Keeps σ ts σ') (k : AWP P n c σ' st Q) : AWP P n c σ st Q :=
  awp_weak (Weak.of h.le (.refl st)) k

/-- A loop: the slots ts and the items rest stay as they are. -/
theorem awp_loop2 {c : Code} {X : Type} (ts : List Nat) {σk : Fr} (hk : Keeps σ ts σk) {rest : List Item} (mod : Fr → X → Fr) (mit : List Item → X → List Item) (dom : X → Prop) (μ : X → Nat) (x0 : X) (hstart : Weak n σ st (mod σk x0) (mit rest x0)) (h0 : dom x0)
    (hround : ∀ x, dom x → AWP P n c (mod σk x) (mit rest x) (Exit.thenA (fun σ' st' => ∃ x', dom x' ∧ μ x' < μ x ∧ Weak n σ' st' (mod σk x') (mit rest x')) Q)) : AWP P n (.loop c) σ st Q :=
  awp_loop (mod σk) (mit rest) dom μ x0 h0 hstart hround
end code

/-- An item's cells, put another way. -/
theorem ItLe.cellsImp {st st' st'' : List Item} {i : Nat} {cs cs' : List AV} (h : Take st (.cells i cs) st'') (hc : ImpL cs cs') (r : ItLe st'' st') : ∀ {F g w}, RelW g (st ++ F) w → RelW g (.cells i cs' :: st' ++ F) w := by
  intro F g w hw
  have h1 : RelW g (.cells i cs :: (st' ++ F)) w := (ItLe.cons h r).relW hw
  exact (ItImp.cells hc (ItImp.refl (st' ++ F))).relW h1

/-- The items st' are among those of st; their cells may say less. -/
inductive ItLe2 : List Item → List Item → Prop
  | nil (st) : ItLe2 st []
  | refl (st) : ItLe2 st st
  | cells {st i cs cs' st' st''} (h : Take st (.cells i cs) st'') (hc : ImpL cs cs') (r : ItLe2 st'' st') : ItLe2 st (.cells i cs' :: st')
  | cons {st it st' st''} (h : Take st it st'') (r : ItLe2 st'' st') : ItLe2 st (it :: st')
  | tail0 {st st'} (r : ItLe2 st st') : ItLe2 st (.tail none :: st')
  | sub {st st'} (r : st'.Sublist st) : ItLe2 st st'

theorem ItLe2.relW {st st' : List Item} (h : ItLe2 st st') : ∀ {F g w}, RelW g (st ++ F) w → RelW g (st' ++ F) w := by
  induction h with
  | nil st => intro F g w hw; exact hw.sub (List.sublist_append_right _ _)
  | refl st => exact fun hw => hw
  | @cells st i cs cs' st' st'' h hc r ih =>
    intro F g w hw
    have h1 : RelW g (.cells i cs :: (st'' ++ F)) w := hw.take h
    have h2 : RelW g (st'' ++ (.cells i cs :: F)) w := h1.perm (List.perm_middle.symm)
    have h3 := ih h2
    have h4 : RelW g (.cells i cs :: (st' ++ F)) w := h3.perm List.perm_middle
    exact (ItImp.cells hc (ItImp.refl (st' ++ F))).relW h4
  | @cons st it st' st'' h r ih =>
    intro F g w hw
    have h1 : RelW g (it :: (st'' ++ F)) w := hw.take h
    have h2 : RelW g (st'' ++ (it :: F)) w := h1.perm (List.perm_middle.symm)
    have h3 := ih h2
    exact h3.perm List.perm_middle
  | sub r => intro F g w hw; exact hw.sub (r.append_right F)
  | tail0 r ih => intro F g w hw; exact RelW.cons (ih hw) trivial (fun b hb => by simp [Item.blk, Item.id?] at hb)
theorem Weak.of2 {n : Nat} {σ σ' : Fr} {st st' : List Item} (h : FrLe σ σ') (k : ItLe2 st st') : Weak n σ st σ' st' := fun F g a w hf hw =>
  ⟨g, Ghost.ext.refl g, ⟨hf.size, hf.defers, fun t v' e => let ⟨v, h1, h2⟩ := h.look t v' e; let ⟨u, p, q⟩ := hf.slot t v h1; ⟨u, p, h2 _ _ q⟩⟩, k.relW hw⟩
theorem VShift.of2 {v v' : AV} {st st' : List Item} (h : v.Imp v') (k : ItLe2 st st') : VShift v st v' st' := fun F g u w hw hv => ⟨g, Ghost.ext.refl g, k.relW hw, h _ _ hv⟩

theorem VShift.of1 {v v' : AV} {st st' : List Item} (h : v.Imp v') (k : ItLe2 st st') : VShift (shutRes [v]) st v' st' := VShift.of2 h k
/-! ### Calls that change one item -/
section
variable {P : Program}
theorem ACalls.upd {f : FuncId} {args : List AV} {st its its' r : List Item} {v : AV} {Q : AV → List Item → Prop} (hp : Takes st its r) (h : ACalls P f args its (fun v' s => v' = v ∧ s = its')) (hq : Q v (its' ++ r)) : ACalls P f args st Q :=
  h.frame hp.perm fun v' st' ⟨a, b⟩ => by rw [a, b]; exact hq
/-- The same; what comes out is told by a predicate. -/
theorem ACalls.updP {f : FuncId} {args : List AV} {st its r : List Item} {R Q : AV → List Item → Prop} (hp : Takes st its r) (h : ACalls P f args its R) (hq : ∀ v s, R v s → Q v (s ++ r)) : ACalls P f args st Q :=
  h.frame hp.perm hq

variable {σ : Fr} {st : List Item} {i : Nat} {d : Option Tmp} {ty : TypeId} {pos : String} {after : Array Edge} {gd : Option (Nat × Bool)}
/-- A store whose cells are put in form. -/
theorem y_storeN {T j off : Nat} {x y : Operand} {cs ds cs' : List AV} {v : AV} {st' : List Item} {n : Nat} [hc : Cells v ds] (hT : sizeB P T = some n) (hn : ds.length = n) (hx : Ev σ x (.ptr j off)) (hy : Ev σ y v) (hu : Upd st (.cells j cs) (.cells j cs') st') (hfit : off + n ≤ cs.length) (hs : setMany cs off ds = cs') :
    Yields P ⟨d, .store T x y, ty, pos, after, gd⟩ σ st i (.val undef) st' := by
  subst hs; exact y_store hT hn hx hy hu hfit
/-- How long a list is. -/
class LenOf (xs : List (List AV)) (n : outParam Nat) : Prop where
  len : xs.length = n
instance {α : Type} {l : List α} {f : α → List AV} : LenOf (l.map f) l.length := ⟨List.length_map _⟩
instance : LenOf [] 0 := ⟨rfl⟩
instance {x : List AV} {xs : List (List AV)} {n : Nat} [h : LenOf xs n] : LenOf (x :: xs) (n + 1) := ⟨by simp [h.len]⟩
instance {xs ys : List (List AV)} {n m : Nat} [h : LenOf xs n] [k : LenOf ys m] : LenOf (xs ++ ys) (n + m) := ⟨by simp [h.len, k.len]⟩
instance {xs : List (List AV)} {n k : Nat} [h : LenOf xs n] : LenOf (xs.take k) (min k n) := ⟨by simp [h.len]⟩
instance {xs : List (List AV)} {n k : Nat} [h : LenOf xs n] : LenOf (xs.drop k) (n - k) := ⟨by simp [h.len]⟩
theorem y_lenN {T E sz by_ : Nat} {x : Operand} {av : AV} {xs : List (List AV)} {n : Nat} [ht : SliceT P T E sz by_] [hr : Rd av sz xs] [hl : LenOf xs n] (hx : Ev σ x av) : Yields P ⟨d, .call { callee := .builtin .len, args := #[x], argTypes := #[T] }, ty, pos, after, gd⟩ σ st i (.int (n : Int)) st := by
  have := y_len (P := P) (T := T) (d := d) (ty := ty) (pos := pos) (after := after) (gd := gd) (st := st) (i := i) (sz := sz) (xs := xs) hx
  rwa [hl.len] at this
section
variable {T E sz by_ : Nat} {x lo hi mx : Operand} {av : AV} {k k' k'' : IntKind} {ql qh qm : Int} {α : Type} {ls : List α} {f : α → List AV}
theorem y_sliceLHM [ht : SliceT P T E sz by_] [hr : Rd av sz (ls.map f)] (hx : Ev σ x av) (hlo : Ev σ lo (.val (.int k ql))) (hhi : Ev σ hi (.val (.int k' qh))) {l h : Nat} (e1 : ql = (l : Int)) (e2 : qh = (h : Int)) (h0 : l ≤ h) (h1 : h ≤ ls.length) :
    Yields P ⟨d, .slice T x (some lo) (some hi) none, ty, pos, after, gd⟩ σ st i (.sl sz (((ls.take h).drop l).map f)) st := by
  rw [List.map_drop, List.map_take]; exact y_sliceLH hx hlo hhi e1 e2 h0 (by simpa using h1)
theorem y_slice3M [ht : SliceT P T E sz by_] [hr : Rd av sz (ls.map f)] (hx : Ev σ x av) (hhi : Ev σ hi (.val (.int k qh))) (hmx : Ev σ mx (.val (.int k' qm))) {h : Nat} (e1 : qh = (h : Int)) (e2 : qm = (h : Int)) (h1 : h ≤ ls.length) :
    Yields P ⟨d, .slice T x none (some hi) (some mx), ty, pos, after, gd⟩ σ st i (.full sz ((ls.take h).map f)) st := by
  rw [List.map_take]; exact y_slice3 hx hhi hmx e1 e2 (by simpa using h1)
theorem y_slice3LM [ht : SliceT P T E sz by_] [hr : Rd av sz (ls.map f)] (hx : Ev σ x av) (hlo : Ev σ lo (.val (.int k'' ql))) (hhi : Ev σ hi (.val (.int k qh))) (hmx : Ev σ mx (.val (.int k' qm))) {l h : Nat} (e0 : ql = (l : Int)) (e1 : qh = (h : Int)) (e2 : qm = (h : Int)) (h0 : l ≤ h) (h1 : h ≤ ls.length) :
    Yields P ⟨d, .slice T x (some lo) (some hi) (some mx), ty, pos, after, gd⟩ σ st i (.full sz (((ls.take h).drop l).map f)) st := by
  rw [List.map_drop, List.map_take]; exact y_slice3L hx hlo hhi hmx e0 e1 e2 h0 (by simpa using h1)
end
theorem y_loadAggN {T n j off : Nat} {x : Operand} {cs cs' : List AV} {st' : List Item} [AggT P T n] (hx : Ev σ x (.ptr j off)) (ht : Take st (.cells j cs) st') (hn : off + n ≤ cs.length) (hs : (cs.drop off).take n = cs') : Yields P ⟨d, .load T x, ty, pos, after, gd⟩ σ st i (.agg cs') st := by
  subst hs; exact y_loadAgg hx ht hn
theorem y_loadEAggN {T n : Nat} {x : Operand} {cs cs' : List AV} [AggT P T n] (hx : Ev σ x (.eptr cs)) (hn : n ≤ cs.length) (hs : cs.take n = cs') : Yields P ⟨d, .load T x, ty, pos, after, gd⟩ σ st i (.agg cs') st := by
  subst hs; exact y_loadEAgg hx hn
theorem y_fieldAggN {T f E off sz n : Nat} {cs cs' : List AV} {x : Operand} [FldT P T f E off sz] [AggT P E n] (hx : Ev σ x (.agg cs)) (hs : (cs.drop off).take n = cs') : Yields P ⟨d, .field T x f, ty, pos, after, gd⟩ σ st i (.agg cs') st := by
  subst hs; exact y_fieldAgg hx
theorem y_fieldEN {T f E off sz : Nat} {cs cs' : List AV} {x : Operand} [FldT P T f E off sz] (hx : Ev σ x (.eptr cs)) (hl : off ≤ cs.length) (hs : cs.drop off = cs') : Yields P ⟨d, .fieldAddr T x f, ty, pos, after, gd⟩ σ st i (.eptr cs') st := by
  subst hs; exact y_fieldE hx hl
theorem st_storeN {nn : Nat} {ops : Array Oper} {rest : List Oper} {K : Fr → List Item → Prop} {T j off : Nat} {x y : Operand} {cs ds cs' : List AV} {v : AV} {st' : List Item} {n : Nat} [hc : Cells v ds] (hT : sizeB P T = some n) (hn : ds.length = n) (hx : Ev σ x (.ptr j off)) (hy : Ev σ y v) (hu : Upd st (.cells j cs) (.cells j cs') st') (hfit : off + n ≤ cs.length) (hs : setMany cs off ds = cs')
    (h : AOps P nn ops rest σ st' K) : AOps P nn ops (⟨none, .store T x y, ty, pos, after, none⟩ :: rest) σ st K :=
  st_s (fun _ => y_storeN hT hn hx hy hu hfit hs) h
theorem dr_storeN {nn : Nat} {A : List Item} {KK : Nat} {Q : Fr → List Item → Prop} {ks : List Kd} {ii : Nat} {ops : Array Oper} {rest : List Oper} {T j off : Nat} {x y : Operand} {cs ds cs' : List AV} {v : AV} {st' : List Item} {n : Nat} [hc : Cells v ds] (hT : sizeB P T = some n) (hn : ds.length = n) (hx : Ev σ x (.ptr j off)) (hy : Ev σ y v) (hu : Upd st (.cells j cs) (.cells j cs') st') (hfit : off + n ≤ cs.length) (hs : setMany cs off ds = cs')
    (h : Drv P nn ops KK A Q (ii + 1) rest ks σ st') : Drv P nn ops KK A Q ii (⟨none, .store T x y, ty, pos, after, none⟩ :: rest) (.write :: ks) σ st :=
  dr_s (fun _ => y_storeN hT hn hx hy hu hfit hs) h
/-- append to a slice without spare room: the new room has its own item. -/
theorem y_append0 {T E sz by_ : Nat} {x y : Operand} {av : AV} {xs ys : List (List AV)} {zs : List Value} [ht : SliceT P T E sz by_] [hz : ZeroT P E zs] [hr : Rd av sz ys] (hzl : zs.length = sz)
    (hx : Ev σ x (.grow sz none xs)) (hy : Ev σ y av) (hb : xs.length + ys.length ≤ 1073741824) :
    Yields P ⟨d, .call { callee := .builtin .append, args := #[x, y], argTypes := #[T, T] }, ty, pos, after, gd⟩ σ st i (.grow sz (if ys.isEmpty then none else some i) (xs ++ ys)) (.tail (if ys.isEmpty then none else some i) :: st) := fun F g a w hw hi hs => by
  have hw' : RelW g ((.tail none :: st) ++ F) w := RelW.cons hw trivial (fun b hb => by simp [Item.blk, Item.id?] at hb)
  exact y_append (t := none) hzl hx hy hb F g a w hw' hi hs
/-- An item whose cells are put another way. -/
theorem aops_cells {n : Nat} {ops : Array Oper} {rest : List Oper} {K : Fr → List Item → Prop} {st' : List Item} (h : ItLe2 st st') (k : AOps P n ops rest σ st' K) : AOps P n ops rest σ st K :=
  aops_weak (fun F g a w hf hw => ⟨g, Ghost.ext.refl g, hf, h.relW hw⟩) k
theorem awp_cells {n : Nat} {c : Code} {Q : Exit → Fr → List Item → Prop} {st' : List Item} (h : ItLe2 st st') (k : AWP P n c σ st' Q) : AWP P n c σ st Q :=
  awp_weak (fun F g a w hf hw => ⟨g, Ghost.ext.refl g, hf, h.relW hw⟩) k
end

section any
variable {P : Program} {n : Nat} {A : List Item}
theorem awp_anyT {id : Nat} {l : List Oper} {ks : List Kd} {σ : Fr} {st : List Item} {Q : Exit → Fr → List Item → Prop} (its : List Item) (ht : Takes st its A) (hm : P.follows .mixedOrders = true)
    (hd : ∀ K, Drv P n l.toArray K A (fun σ' B' => Q .normal σ' (B' ++ A)) 0 l ks σ its) (hok : orderOk l.toArray ks = true) : AWP P n (.region id l.toArray true) σ st Q :=
  awp_any hm its ht.perm hd hok
variable {ops : Array Oper} {K : Nat} {Q : Fr → List Item → Prop} {i : Nat} {rest : List Oper} {ks : List Kd} {σ : Fr} {st : List Item} {op : Op} {ty : TypeId} {pos : String} {after : Array Edge}
theorem dr_append0 {d : Nat} {T E sz by_ : Nat} {x y : Operand} {av : AV} {xs ys : List (List AV)} {zs : List Value} [ht : SliceT P T E sz by_] [hz : ZeroT P E zs] [hr : Rd av sz ys] (hzl : zs.length = sz)
    (hx : Ev σ x (.grow sz none xs)) (hy : Ev σ y av) (hb : xs.length + ys.length ≤ 1073741824) (hd : Nat.blt d n = true) (h : ∀ t', Drv P n ops K A Q (i + 1) rest ks ((d, .grow sz t' (xs ++ ys)) :: σ) (.tail t' :: st)) :
    Drv P n ops K A Q i (⟨some d, .call { callee := .builtin .append, args := #[x, y], argTypes := #[T, T] }, ty, pos, after, none⟩ :: rest) (.write :: ks) σ st :=
  ⟨_, _, dst_ok hd, (y_append0 hzl hx hy hb).plain rfl, h _⟩
end any
end Go.Aw

/- An abstract walk: maps from numbers, of the function's own. -/
namespace Go.Aw
open Go.RowKit (Below)

@[irreducible] def AV.mapv (i : Nat) : AV := ⟨fun g v => ∃ b p s, g.loc i = some (b, p, s) ∧ v = .map (some b), fun h ⟨b, p, s, a, c⟩ => ⟨b, p, s, h.loc _ _ a, c⟩⟩
theorem AV.mapv_holds {g : Ghost} {i : Nat} {v : Value} : (AV.mapv i).holds g v ↔ ∃ b p s, g.loc i = some (b, p, s) ∧ v = .map (some b) := by unfold AV.mapv; rfl
instance {i : Nat} : One (.mapv i) := ⟨fun g u h => by obtain ⟨_, _, _, _, e⟩ := AV.mapv_holds.1 h; rw [e]; rfl⟩

def getM : List (Int × AV) → Int → Option AV
  | [], _ => none
  | (k', v) :: r, k => if k = k' then some v else getM r k
def setM : List (Int × AV) → Int → AV → List (Int × AV)
  | [], k, v => [(k, v)]
  | (k', v') :: r, k, v => if k = k' then (k, v) :: r else (k', v') :: setM r k v

theorem RelW.allocMap {g : Ghost} {st : List Item} {w : World} (h : RelW g st w) {i : Nat} (hi : g.loc i = none) :
    RelW (g.setLoc i (w.heap.size, 0, 0)) (.map i [] :: st) (w.alloc (.map #[] 0)) := by
  have hle := Ghost.le_setLoc (g := g) (i := i) (x := (w.heap.size, 0, 0)) hi
  refine RelW.cons (h.evolve (row := none) hle (World.grownBy_alloc w _ none) (fun b hb => by cases hb) (fun b o v hv => .inl ⟨hv, by simp⟩) (fun it _ b _ => ⟨by simp, fun _ => rfl⟩) (h.fresh_setLoc i _)) ?_ ?_
  · exact ⟨w.heap.size, 0, 0, #[], 0, Ghost.setLoc_same, heap_alloc_new w _, trivial, fun o => h.noCom (Nat.le_refl _), h.hB⟩
  · intro b hb x hx e
    simp [Item.blk, Item.id?, Ghost.setLoc_same] at hb
    subst hb
    rw [Item.blk_le (h.items x hx) hle] at e
    exact absurd (h.blk_ne hx e).1 (Nat.lt_irrefl _)

theorem RelW.storeMap {g : Ghost} {st : List Item} {w : World} {i : Nat} {es es' : List (Int × AV)} (h : RelW g (.map i es :: st) w) {b p s : Nat} (hl : g.loc i = some (b, p, s)) {vs' : Array MapEntry} {c' : Nat}
    (hv : mapOk g es' vs'.toList) : RelW g (.map i es' :: st) { w with heap := w.heap.setIfInBounds b (.map vs' c') } := by
  obtain ⟨b', p', s', vs, c, k1, k2, k3, k5, k6⟩ := h.items _ (by simp : Item.map i es ∈ Item.map i es :: st)
  rw [hl] at k1; cases k1
  have hlt := (Array.getElem?_eq_some_iff.1 k2).1
  have hne := h.head_notin (b := b) (by simp [Item.blk, Item.id?, hl])
  have ht := h.tailOf
  refine RelW.cons (ht.evolve (row := some b) (Ghost.le.refl g) ⟨rfl, rfl, rfl, by simp, fun k _ hk => Array.getElem?_setIfInBounds_ne (fun (e : b = k) => hk (by rw [e]))⟩ (fun b' hb => by cases hb; exact k6) (fun b' o v hv => ?_) (fun it hit b' hb' => ⟨fun e => ?_, fun _ => rfl⟩) h.fresh) ?_ ?_
  · by_cases e : b' = b
    · subst e; rw [k5 o] at hv; cases hv
    · exact .inl ⟨hv, fun x => e (Option.some.inj x)⟩
  · cases e; exact hne it hit hb'
  · exact ⟨b, p, s, vs', c', hl, by simp [hlt], hv, k5, k6⟩
  · intro b' hb' x hx
    simp [Item.blk, Item.id?, hl] at hb'; subst hb'
    exact hne x hx

section
variable {P : Program} {σ : Fr} {st : List Item} {i : Nat} {d : Option Tmp} {ty : TypeId} {pos : String} {after : Array Edge} {gd : Option (Nat × Bool)} {w : World}

theorem y_makeMap {T : TypeId} : Yields P ⟨d, .makeMap T none, ty, pos, after, gd⟩ σ st i (.mapv i) (.map i [] :: st) := fun F g a w hw hi hs => by
  refine goes_value (u := .map (some w.heap.size)) (w' := w.alloc (.map #[] 0)) ?_ ⟨_, Ghost.to_setLoc hi, hw.allocMap hi, AV.mapv_holds.2 ⟨_, _, _, Ghost.setLoc_same, rfl⟩⟩
  simp [execOp, Instr.makeMap]

theorem findNow_int {kk : IntKind} (k : Int) : ∀ (es : List (Int × AV)) (r : List MapEntry) (n : Nat) {g : Ghost}, mapOk g es r →
    (∃ j v e, Instr.findNow (.int kk) (.int .i64 k) r n = some (some (n + j, e.val)) ∧ r[j]? = some e ∧ e.key = .int .i64 k ∧ getM es k = some v ∧ v.holds g e.val) ∨ (Instr.findNow (.int kk) (.int .i64 k) r n = some none ∧ getM es k = none)
  | [], [], n, g, _ => .inr ⟨rfl, rfl⟩
  | (k', v) :: es, e :: r, n, g, ⟨h1, h2, h3⟩ => by
    by_cases hk : k = k'
    · subst hk
      left
      exact ⟨0, v, e, by simp [Instr.findNow, h1, Instr.sameNow], rfl, h1, by simp [getM], h2⟩
    · have hf : Instr.findNow (.int kk) (.int .i64 k) (e :: r) n = Instr.findNow (.int kk) (.int .i64 k) r (n + 1) := by
        have hb : (k == k') = false := by simpa using hk
        simp [Instr.findNow, h1, Instr.sameNow, hb]
      rcases findNow_int k es r (n + 1) h3 with ⟨j, v', e', a, b, c, d, f⟩ | ⟨a, b⟩
      · left; exact ⟨j + 1, v', e', by rw [hf, a]; congr 3; omega, by simpa using b, c, by simp [getM, hk, d], f⟩
      · right; exact ⟨by rw [hf, a], by simp [getM, hk, b]⟩

class MapT (P : Program) (T : TypeId) (E : outParam TypeId) : Prop where
  out : ∃ K, P.underlying T = some (.map K E) ∧ P.underlying K = some (.int .i64)

theorem run_checkKey_int {e : Bool} {K : TypeId} {kk : IntKind} {v : Value} (h : P.underlying K = some (.int kk)) : (Instr.checkKey e 10000 K v).run P w = .ok () w := by
  show (Instr.checkKey e (9999 + 1) K v).run P w = _
  rw [Instr.checkKey]
  simp [run_underlying h]

theorem map_item {g : Ghost} {st st' F : List Item} {j : Nat} {es : List (Int × AV)} {w : World} (hw : RelW g (st ++ F) w) (ht : Take st (.map j es) st') {b p s : Nat} (hl : g.loc j = some (b, p, s)) :
    ∃ vs c, w.heap[b]? = some (.map vs c) ∧ mapOk g es vs.toList := by
  obtain ⟨b', p', s', vs, E, h1, h2, h3, _⟩ := (hw.take ht).items _ (List.mem_cons_self ..)
  rw [hl] at h1; cases h1
  exact ⟨vs, E, h2, h3⟩

theorem run_findKey_int {K : TypeId} {kk : IntKind} {k : Int} {r : List MapEntry} {x : Option (Nat × Value)} (h : P.underlying K = some (.int kk)) (hf : Instr.findNow (.int kk) (.int .i64 k) r 0 = some x) : (Instr.findKey K (.int .i64 k) r).run P w = .ok x w := by
  simp [Instr.findKey, run_underlying h, hf]

theorem y_lookupOk {T E j : Nat} {x y : Operand} {es : List (Int × AV)} {st' : List Item} {k : Int} {v : AV} [hm : MapT P T E] (hx : Ev σ x (.mapv j)) (hy : Ev σ y (.int k)) (ht : Take st (.map j es) st') (hv : getM es k = some v) :
    Yields P ⟨d, .lookup T x y true, ty, pos, after, gd⟩ σ st i (.tup [v, .bool true]) st := fun F g a w hw hi hs => by
  obtain ⟨K, h1, h2⟩ := hm.out
  obtain ⟨b, p, s, hl, e⟩ := AV.mapv_holds.1 (hx.holds hs (by simp [Op.operands]))
  have ey := AV.val_holds.1 (hy.holds hs (by simp [Op.operands]))
  obtain ⟨vs, c, hb, hok⟩ := map_item hw ht hl
  rcases findNow_int (kk := .i64) k es vs.toList 0 hok with ⟨q, v', e', a1, _, _, a2, a3⟩ | ⟨_, a2⟩
  · rw [hv] at a2; cases a2
    refine goes_value (u := .tuple #[e'.val, .bool true]) ?_ ⟨g, Ghost.to.refl g i, hw, AV.tup_holds.2 ⟨[e'.val, .bool true], rfl, a3, AV.val_self _, trivial⟩⟩
    simp [execOp, e, ey, Instr.lookup, run_underlying h1, MapKept.run_getObj_map hb, run_checkKey_int h2, run_findKey_int h2 a1]
  · rw [hv] at a2; cases a2
theorem y_lookupNo {T E j : Nat} {x y : Operand} {es : List (Int × AV)} {st' : List Item} {k : Int} {z : Value} [hm : MapT P T E] (hz : (P.info? E).bind (·.zero) = some z) (hx : Ev σ x (.mapv j)) (hy : Ev σ y (.int k)) (ht : Take st (.map j es) st') (hv : getM es k = none) :
    Yields P ⟨d, .lookup T x y true, ty, pos, after, gd⟩ σ st i (.tup [.val z, .bool false]) st := fun F g a w hw hi hs => by
  obtain ⟨K, h1, h2⟩ := hm.out
  obtain ⟨b, p, s, hl, e⟩ := AV.mapv_holds.1 (hx.holds hs (by simp [Op.operands]))
  have ey := AV.val_holds.1 (hy.holds hs (by simp [Op.operands]))
  obtain ⟨vs, c, hb, hok⟩ := map_item hw ht hl
  rcases findNow_int (kk := .i64) k es vs.toList 0 hok with ⟨q, v', e', a1, _, _, a2, a3⟩ | ⟨a1, a2⟩
  · rw [hv] at a2; cases a2
  · refine goes_value (u := .tuple #[z, .bool false]) ?_ ⟨g, Ghost.to.refl g i, hw, AV.tup_holds.2 ⟨[z, .bool false], rfl, AV.val_self _, AV.val_self _, trivial⟩⟩
    cases hi : P.info? E with
    | none => simp [hi] at hz
    | some inf =>
      simp [hi] at hz
      simp [execOp, e, ey, Instr.lookup, run_underlying h1, MapKept.run_getObj_map hb, run_checkKey_int h2, run_findKey_int h2 a1, zeroValue, typeInfo, hi, hz]
theorem y_lookup1 {T E j : Nat} {x y : Operand} {es : List (Int × AV)} {st' : List Item} {k : Int} {v : AV} [hm : MapT P T E] (hx : Ev σ x (.mapv j)) (hy : Ev σ y (.int k)) (ht : Take st (.map j es) st') (hv : getM es k = some v) :
    Yields P ⟨d, .lookup T x y false, ty, pos, after, gd⟩ σ st i v st := fun F g a w hw hi hs => by
  obtain ⟨K, h1, h2⟩ := hm.out
  obtain ⟨b, p, s, hl, e⟩ := AV.mapv_holds.1 (hx.holds hs (by simp [Op.operands]))
  have ey := AV.val_holds.1 (hy.holds hs (by simp [Op.operands]))
  obtain ⟨vs, c, hb, hok⟩ := map_item hw ht hl
  rcases findNow_int (kk := .i64) k es vs.toList 0 hok with ⟨q, v', e', a1, _, _, a2, a3⟩ | ⟨_, a2⟩
  · rw [hv] at a2; cases a2
    refine goes_value (u := e'.val) ?_ ⟨g, Ghost.to.refl g i, hw, a3⟩
    simp [execOp, e, ey, Instr.lookup, run_underlying h1, MapKept.run_getObj_map hb, run_checkKey_int h2, run_findKey_int h2 a1]
  · rw [hv] at a2; cases a2
theorem y_lookup0 {T E j : Nat} {x y : Operand} {es : List (Int × AV)} {st' : List Item} {k : Int} {z : Value} [hm : MapT P T E] (hz : (P.info? E).bind (·.zero) = some z) (hx : Ev σ x (.mapv j)) (hy : Ev σ y (.int k)) (ht : Take st (.map j es) st') (hv : getM es k = none) :
    Yields P ⟨d, .lookup T x y false, ty, pos, after, gd⟩ σ st i (.val z) st := fun F g a w hw hi hs => by
  obtain ⟨K, h1, h2⟩ := hm.out
  obtain ⟨b, p, s, hl, e⟩ := AV.mapv_holds.1 (hx.holds hs (by simp [Op.operands]))
  have ey := AV.val_holds.1 (hy.holds hs (by simp [Op.operands]))
  obtain ⟨vs, c, hb, hok⟩ := map_item hw ht hl
  rcases findNow_int (kk := .i64) k es vs.toList 0 hok with ⟨q, v', e', a1, _, _, a2, a3⟩ | ⟨a1, a2⟩
  · rw [hv] at a2; cases a2
  · refine goes_value (u := z) ?_ ⟨g, Ghost.to.refl g i, hw, AV.val_self _⟩
    cases hi : P.info? E with
    | none => simp [hi] at hz
    | some inf =>
      simp [hi] at hz
      simp [execOp, e, ey, Instr.lookup, run_underlying h1, MapKept.run_getObj_map hb, run_checkKey_int h2, run_findKey_int h2 a1, zeroValue, typeInfo, hi, hz]

theorem mapOk_push {g : Ghost} {k : Int} {v : AV} {u : Value} {n : Nat} (hv : v.holds g u) : ∀ {es : List (Int × AV)} {r : List MapEntry}, mapOk g es r → getM es k = none → mapOk g (setM es k v) (r ++ [{ key := .int .i64 k, val := u, born := n }])
  | [], [], _, _ => ⟨rfl, hv, trivial⟩
  | (k', v') :: es, e :: r, ⟨a, b, c⟩, h => by
    simp only [getM] at h
    by_cases hk : k = k'
    · rw [if_pos hk] at h; cases h
    · rw [if_neg hk] at h
      simp only [setM, if_neg hk]
      exact ⟨a, b, mapOk_push hv c h⟩
theorem mapOk_set {g : Ghost} {k : Int} {v : AV} {u : Value} (hv : v.holds g u) : ∀ {es : List (Int × AV)} {r : List MapEntry} {j n m : Nat} {kk : IntKind} {x : Value}, mapOk g es r → Instr.findNow (.int kk) (.int .i64 k) r n = some (some (m, x)) → m = n + j →
    mapOk g (setM es k v) (r.modify j fun e => { e with key := .int .i64 k, val := u })
  | [], [], j, n, m, kk, x, _, h, _ => by simp [Instr.findNow] at h
  | (k', v') :: es, e :: r, j, n, m, kk, x, ⟨a, b, c⟩, h, hm => by
    by_cases hk : k = k'
    · subst hk
      simp [Instr.findNow, a, Instr.sameNow] at h
      obtain rfl : j = 0 := by omega
      simp only [setM, if_pos]
      exact ⟨rfl, hv, c⟩
    · have hf : Instr.findNow (.int kk) (.int .i64 k) (e :: r) n = Instr.findNow (.int kk) (.int .i64 k) r (n + 1) := by
        have hb : (k == k') = false := by simpa using hk
        simp [Instr.findNow, a, Instr.sameNow, hb]
      rw [hf] at h
      have hge : ∀ (r : List MapEntry) (n m : Nat) (x : Value), Instr.findNow (.int kk) (.int .i64 k) r n = some (some (m, x)) → n ≤ m := by
        intro r
        induction r with
        | nil => intro n m x h; simp [Instr.findNow] at h
        | cons e r ih =>
          intro n m x h
          simp only [Instr.findNow] at h
          split at h
          · simp at h; omega
          · have := ih _ _ _ h; omega
          · cases h
      have h1 := hge _ _ _ _ h
      cases j with
      | zero => omega
      | succ j =>
        simp only [setM, if_neg hk, List.modify_succ_cons]
        exact ⟨a, b, mapOk_set hv c h (by omega)⟩

/-- m[k] = v -/
theorem y_mapSet {T E j : Nat} {x y z : Operand} {es : List (Int × AV)} {st' : List Item} {k : Int} {v : AV} [hm : MapT P T E] (hx : Ev σ x (.mapv j)) (hy : Ev σ y (.int k)) (hzv : Ev σ z v) {op : Op} (hop : op = .mapUpdate T x y z ∨ op = .insert T x y z) (hu : Upd st (.map j es) (.map j (setM es k v)) st') :
    Yields P ⟨d, op, ty, pos, after, gd⟩ σ st i (.val undef) st' := fun F g a w hw hi hs => by
  obtain ⟨K, h1, h2⟩ := hm.out
  have hmem : x ∈ op.operands ∧ y ∈ op.operands ∧ z ∈ op.operands := by rcases hop with rfl | rfl <;> simp [Op.operands]
  obtain ⟨b, p, s, hl, e⟩ := AV.mapv_holds.1 (hx.holds hs hmem.1)
  have ey := AV.val_holds.1 (hy.holds hs hmem.2.1)
  have ez := hzv.holds hs hmem.2.2
  obtain ⟨r, p1, p2⟩ := hu.perm
  have hw1 : RelW g (.map j es :: (r ++ F)) w := hw.perm (p1.append_right F)
  obtain ⟨b', p', s', vs, c, q1, q2, q3, q5, q6⟩ := hw1.items _ (List.mem_cons_self ..)
  rw [hl] at q1; cases q1
  have hexec : (execOp a.eval ⟨d, op, ty, pos, after, gd⟩) = (do Instr.mapUpdate T (a.eval x) (a.eval y) (a.eval z); pure .skip) := by rcases hop with rfl | rfl <;> rfl
  rcases findNow_int (kk := .i64) k es vs.toList 0 q3 with ⟨q, v', e', a1, a0, a4, a2, a3⟩ | ⟨a1, a2⟩
  · have h3 := hw1.storeMap (es' := setM es k v) hl (vs' := vs.modify q fun e => { e with key := .int .i64 k, val := a.eval z }) (c' := c) (by
      rw [Array.toList_modify]
      exact mapOk_set ez q3 a1 rfl)
    refine goes_skip (w' := { w with heap := w.heap.setIfInBounds b (.map (vs.modify q fun e => { e with key := .int .i64 k, val := a.eval z }) c) }) ?_ ⟨g, Ghost.to.refl g i, h3.perm (p2.append_right F).symm, AV.val_self _⟩
    have a0' : vs[q]? = some e' := by simpa using a0
    have hkey : ((vs[q]?).map (·.key)).getD (.int .i64 k) = .int .i64 k := by rw [a0']; simpa using a4
    rw [hexec]
    simp only [Nat.zero_add] at a1
    have hsame : Instr.sameBits 10000 (.int .i64 k) (.int .i64 k) = true := by simp [Instr.sameBits]
    simp [e, ey, Instr.mapUpdate, run_underlying h1, MapKept.run_getObj_map q2, run_checkKey_int h2, run_findKey_int h2 a1, hkey, Instr.keyThatStays, hsame, MapKept.run_setObj_map _ q2]
  · have h3 := hw1.storeMap (es' := setM es k v) hl (vs' := vs.push { key := .int .i64 k, val := a.eval z, born := c }) (c' := c + 1) (by
      rw [Array.toList_push]
      exact mapOk_push ez q3 a2)
    refine goes_skip (w' := { w with heap := w.heap.setIfInBounds b (.map (vs.push { key := .int .i64 k, val := a.eval z, born := c }) (c + 1)) }) ?_ ⟨g, Ghost.to.refl g i, h3.perm (p2.append_right F).symm, AV.val_self _⟩
    rw [hexec]
    simp [e, ey, Instr.mapUpdate, run_underlying h1, MapKept.run_getObj_map q2, run_checkKey_int h2, run_findKey_int h2 a1, MapKept.run_setObj_map _ q2]
end
end Go.Aw

/- An abstract walk: copies into own arrays, parts of own arrays, numbers without sign, pointers that are not nil. -/
namespace Go.Aw
open Go.RowKit (Below)
section
variable {P : Program} {σ : Fr} {st : List Item} {i : Nat} {d : Option Tmp} {ty : TypeId} {pos : String} {after : Array Edge} {gd : Option (Nat × Bool)} {w : World}

/-! ### Parts of own arrays -/
theorem y_sliceArrLo {T E sz by_ j off n : Nat} {x lo : Operand} {k : IntKind} {q : Int} [ht : SliceT P T E sz by_] (hx : Ev σ x (.arr j off n)) (hlo : Ev σ lo (.val (.int k q))) {l : Nat} (e : q = (l : Int)) (h : l < n) :
    Yields P ⟨d, .slice T x (some lo) none none, ty, pos, after, gd⟩ σ st i (.arr j (off + l * sz) (n - l)) st := fun F g a w hw hi hs => by
  subst e
  obtain ⟨b, p, s, cap, hl, e, hc⟩ := AV.arr_holds.1 (hx.holds hs (by simp [Op.operands]))
  have e2 := AV.val_holds.1 (hlo.holds hs (by simp [Op.operands]))
  have hr := run_slice_lo (P := P) (T := T) (w := w) (some ⟨b, off, none⟩) n cap l k (Nat.le_of_lt h) hc
  rw [if_neg (by omega)] at hr
  refine goes_value (u := .slice (some ⟨b, off + l * sz, none⟩) (n - l) (cap - l)) ?_ ⟨g, Ghost.to.refl g i, hw, AV.arr_holds.2 ⟨b, p, s, cap - l, hl, rfl, by omega⟩⟩
  simp only [execOp, e, e2, Option.map_some, Option.map_none]
  rw [Sem.run_bind, hr]
  simp [Addr.add_mk]
theorem y_sliceArrHi {T E sz by_ j off n : Nat} {x hi' : Operand} {k : IntKind} {q : Int} [ht : SliceT P T E sz by_] (hx : Ev σ x (.arr j off n)) (hhi : Ev σ hi' (.val (.int k q))) {h : Nat} (e : q = (h : Int)) (hh : h ≤ n) :
    Yields P ⟨d, .slice T x none (some hi') none, ty, pos, after, gd⟩ σ st i (.arr j off h) st := fun F g a w hw hi hs => by
  subst e
  obtain ⟨b, p, s, cap, hl, e, hc⟩ := AV.arr_holds.1 (hx.holds hs (by simp [Op.operands]))
  have e2 := AV.val_holds.1 (hhi.holds hs (by simp [Op.operands]))
  have hr := run_slice_hi (P := P) (T := T) (w := w) (some ⟨b, off, none⟩) n cap h k (by omega)
  have hif : (if cap = 0 then some (⟨b, off, none⟩ : Addr) else (some (⟨b, off, none⟩ : Addr)).map (·.add (0 * sz))) = some ⟨b, off, none⟩ := by split <;> simp [Addr.add_mk]
  rw [hif] at hr
  refine goes_value (u := .slice (some ⟨b, off, none⟩) h cap) ?_ ⟨g, Ghost.to.refl g i, hw, AV.arr_holds.2 ⟨b, p, s, cap, hl, rfl, by omega⟩⟩
  simp only [execOp, e, e2, Option.map_some, Option.map_none]
  rw [Sem.run_bind, hr]; rfl

/-! ### copy -/
theorem flatten_take' {sz : Nat} {xs : List (List AV)} (h : ∀ x ∈ xs, x.length = sz) (k : Nat) : (xs.take k).flatten = xs.flatten.take (k * sz) := flatten_take h k
/-- copy into an own array, of what is never written. -/
theorem y_copy {T E sz by_ T' j off n : Nat} {x y : Operand} {av : AV} {ys : List (List AV)} {cs : List AV} {st' : List Item} [ht : SliceT P T E sz by_] [hr : Rd av sz ys] (hx : Ev σ x (.arr j off n)) (hy : Ev σ y av) {m : Nat} (hm : m = min ys.length n)
    (hu : Upd st (.cells j cs) (.cells j (setMany cs off (ys.take m).flatten)) st') (hfit : off + m * sz ≤ cs.length) :
    Yields P ⟨d, .call { callee := .builtin .copy, args := #[x, y], argTypes := #[T, T'] }, ty, pos, after, gd⟩ σ st i (.int (m : Int)) st' := fun F g a w hw hi hs => by
  obtain ⟨b, p, s, cap, hl, ex, hc⟩ := AV.arr_holds.1 (hx.holds hs (by simp [Op.operands, Call.operands]))
  obtain ⟨ad, cap', ey, hc', hlen, hrow⟩ := AV.sl_holds.1 (hr.imp _ _ (hy.holds hs (by simp [Op.operands, Call.operands])))
  obtain ⟨r, p1, p2⟩ := hu.perm
  have hw1 : RelW g (.cells j cs :: (r ++ F)) w := hw.perm (p1.append_right F)
  obtain ⟨b', p', s', vs, E', h1, h2, h3, h4, h5, h6⟩ := hw1.items _ (List.mem_cons_self ..)
  rw [hl] at h1; cases h1
  have hl1 := h3.length
  have hlt : ∀ z ∈ ys.take m, z.length = sz := fun z hz => hlen z (List.mem_of_mem_take hz)
  have hml : (ys.take m).length = m := by rw [List.length_take]; omega
  have hfl : (ys.take m).flatten.length = m * sz := by rw [flatten_len hlt, hml]
  -- what is read
  have hnews : ∃ news : List Value, holdsL g (ys.take m).flatten news ∧ (∀ u ∈ news, u.oneCell' = true) ∧ (Builtin.firstCells sz m (.slice ad ys.length cap')).run P w = .ok news.toArray w := by
    rcases Classical.em (ys = []) with hys | hys
    · subst hys
      have hm0 : m = 0 := by simp at hm; omega
      subst hm0
      refine ⟨[], trivial, by simp, ?_⟩
      cases ad with
      | none => simp [Builtin.firstCells]
      | some ad => simp [Builtin.firstCells, loadCells, loadCellsFrom]
    · obtain ⟨b0, o0, rfl, hrow0⟩ := hrow hys
      have hrt : comRow g b0 o0 (ys.take m).flatten := by rw [flatten_take hlen]; exact hrow0.take _
      obtain ⟨news, n1, n2, n3⟩ := hrt.values
      exact ⟨news, n1, n2, run_firstCells_some (P := P) w sz m _ _ _ news (by rw [← n1.length, hfl]) (fun q u hq => by rw [Addr.add_mk]; exact hw.com _ _ _ (n3 q u hq))⟩
  obtain ⟨news, n1, n2, n3⟩ := hnews
  have hln : news.length = m * sz := by rw [← n1.length, hfl]
  have hst := run_storeCells_at P b off E' news 0 vs w h2 (by simp at hl1; omega) n2
  simp only [Nat.add_zero] at hst
  have h7 := hw1.storeCells (cs' := setMany cs off (ys.take m).flatten) hl (vs' := (setMany vs.toList off news).toArray) (h3.setMany off n1) (fun u hu => by
    simp only [setMany, List.mem_append] at hu
    rcases hu with (hu | hu) | hu
    · exact h4 u (List.mem_of_mem_take hu)
    · exact n2 u hu
    · exact h4 u (List.mem_of_mem_drop hu))
  refine goes_value (u := .int .i64 (m : Int)) (w' := w.setRow b (setMany vs.toList off news).toArray) ?_ ⟨g, Ghost.to.refl g i, h7.perm (p2.append_right F).symm, AV.val_self _⟩
  have hmin : Nat.min ys.length n = m := hm.symm
  simp only [execOp, resolve, Sem.run_bind, Sem.run_pure, Result.andThen_ok, invoke, builtin]
  simp only [List.map_toArray, List.map_cons, List.map_nil, ex, ey]
  simp [Builtin.copy_, run_underlying ht.und, run_sizeOf ht.hsize, Builtin.lenOf, hmin, n3, hst, setMany, goInt]
/-- copy within an own array. -/
theorem y_copySelf {T E sz by_ T' j off n off' n' : Nat} {x y : Operand} {cs : List AV} {st' : List Item} [ht : SliceT P T E sz by_] (hx : Ev σ x (.arr j off n)) (hy : Ev σ y (.arr j off' n')) {m : Nat} (hm : m = min n' n)
    (hu : Upd st (.cells j cs) (.cells j (setMany cs off ((cs.drop off').take (m * sz)))) st') (hfit : off + m * sz ≤ cs.length) (hfit' : off' + m * sz ≤ cs.length) :
    Yields P ⟨d, .call { callee := .builtin .copy, args := #[x, y], argTypes := #[T, T'] }, ty, pos, after, gd⟩ σ st i (.int (m : Int)) st' := fun F g a w hw hi hs => by
  obtain ⟨b, p, s, cap, hl, ex, hc⟩ := AV.arr_holds.1 (hx.holds hs (by simp [Op.operands, Call.operands]))
  obtain ⟨b2, p2', s2, cap2, hl2, ey, hc2⟩ := AV.arr_holds.1 (hy.holds hs (by simp [Op.operands, Call.operands]))
  rw [hl] at hl2; cases hl2
  obtain ⟨r, p1, p2⟩ := hu.perm
  have hw1 : RelW g (.cells j cs :: (r ++ F)) w := hw.perm (p1.append_right F)
  obtain ⟨b', p', s', vs, E', h1, h2, h3, h4, h5, h6⟩ := hw1.items _ (List.mem_cons_self ..)
  rw [hl] at h1; cases h1
  have hl1 := h3.length
  have n1 : holdsL g ((cs.drop off').take (m * sz)) ((vs.toList.drop off').take (m * sz)) := (h3.drop off').take _
  have n2 : ∀ u ∈ (vs.toList.drop off').take (m * sz), u.oneCell' = true := fun u hu => h4 u (List.mem_of_mem_drop (List.mem_of_mem_take hu))
  have hln : ((vs.toList.drop off').take (m * sz)).length = m * sz := by rw [List.length_take, List.length_drop]; omega
  have n3 : (Builtin.firstCells sz m (.slice (some ⟨b, off', none⟩) n' cap2)).run P w = .ok ((vs.toList.drop off').take (m * sz)).toArray w :=
    run_firstCells_some (P := P) w sz m _ _ _ _ hln (fun q u hq => by
      rw [Addr.add_mk]
      rw [List.getElem?_take] at hq
      split at hq
      · rw [List.getElem?_drop] at hq; simp [World.cell?, h2]; simpa using hq
      · cases hq)
  generalize (vs.toList.drop off').take (m * sz) = news at *
  have hst := run_storeCells_at P b off E' news 0 vs w h2 (by simp at hl1; omega) n2
  simp only [Nat.add_zero] at hst
  have h7 := hw1.storeCells (cs' := setMany cs off ((cs.drop off').take (m * sz))) hl (vs' := (setMany vs.toList off news).toArray) (h3.setMany off n1) (fun u hu => by
    simp only [setMany, List.mem_append] at hu
    rcases hu with (hu | hu) | hu
    · exact h4 u (List.mem_of_mem_take hu)
    · exact n2 u hu
    · exact h4 u (List.mem_of_mem_drop hu))
  refine goes_value (u := .int .i64 (m : Int)) (w' := w.setRow b (setMany vs.toList off news).toArray) ?_ ⟨g, Ghost.to.refl g i, h7.perm (p2.append_right F).symm, AV.val_self _⟩
  have hmin : Nat.min n' n = m := hm.symm
  simp only [execOp, resolve, Sem.run_bind, Sem.run_pure, Result.andThen_ok, invoke, builtin]
  simp only [List.map_toArray, List.map_cons, List.map_nil, ex, ey]
  simp [Builtin.copy_, run_underlying ht.und, run_sizeOf ht.hsize, Builtin.lenOf, hmin, n3, hst, setMany, goInt]

/-! ### Numbers without sign, small ones -/
theorem bits_small {n : Int} (h : 0 ≤ n ∧ n < 4294967296) : IntKind.u64.wrap ((BitVec.ofInt 64 n &&& BitVec.ofInt 64 4294967295).toNat : Int) = n := by
  obtain ⟨k, rfl⟩ := Int.eq_ofNat_of_zero_le h.1
  have hk : k < 4294967296 := by omega
  have e1 : (BitVec.ofInt 64 ((k : Nat) : Int)).toNat = k := by simp [BitVec.ofInt_natCast]; omega
  have e2 : (BitVec.ofInt 64 4294967295).toNat = 2 ^ 32 - 1 := by decide
  rw [BitVec.toNat_and, e1, e2, Nat.and_two_pow_sub_one_eq_mod, Nat.mod_eq_of_lt (by omega)]
  rw [IntKind.wrap_u64]; omega
theorem y_andMask {T T' : TypeId} {x y : Operand} {n : Int} (hx : Ev σ x (.val (.int .u64 n))) (hy : Ev σ y (.val (.int .u64 4294967295))) (h : 0 ≤ n ∧ n < 4294967296) : Yields P ⟨d, .binOp .and T x y T', ty, pos, after, gd⟩ σ st i (.val (.int .u64 n)) st := fun F g ac w hw hi hs => by
  have hb : Op.intBits .and .u64 n 4294967295 = pure (.int .u64 n) := by
    have := bits_small h
    unfold Op.intBits
    exact congrArg (fun z => (pure (.int .u64 z) : Sem Value)) this
  exact goes_value (u := .int .u64 n) (by
    simp [execOp, AV.val_holds.1 (hx.holds hs (by simp [Op.operands])), AV.val_holds.1 (hy.holds hs (by simp [Op.operands])), eqGuard, binOp_and, hb, bne]) ⟨g, Ghost.to.refl g i, hw, AV.val_self _⟩
theorem y_shrSmall {T T' : TypeId} {x y : Operand} {n : Int} {k : IntKind} (hx : Ev σ x (.val (.int .u64 n))) (hy : Ev σ y (.val (.int k 32))) (h : 0 ≤ n ∧ n < 4294967296) : Yields P ⟨d, .binOp .shr T x y T', ty, pos, after, gd⟩ σ st i (.val (.int .u64 0)) st := fun F g ac w hw hi hs =>
  goes_value (u := .int .u64 0) (by
    have hd : n / 4294967296 = 0 := Int.ediv_eq_zero_of_lt h.1 h.2
    simp [execOp, AV.val_holds.1 (hx.holds hs (by simp [Op.operands])), AV.val_holds.1 (hy.holds hs (by simp [Op.operands])), eqGuard, binOp_shr, shift_shr_any, IntKind.bits, hd, bne]) ⟨g, Ghost.to.refl g i, hw, AV.val_self _⟩
theorem y_addU {T T' : TypeId} {x y : Operand} {a b : Int} (hx : Ev σ x (.val (.int .u64 a))) (hy : Ev σ y (.val (.int .u64 b))) (h : 0 ≤ a + b ∧ a + b < 4294967296) : Yields P ⟨d, .binOp .add T x y T', ty, pos, after, gd⟩ σ st i (.val (.int .u64 (a + b))) st := by
  have := y_addw (P := P) (st := st) (i := i) (d := d) (ty := ty) (pos := pos) (after := after) (gd := gd) (T := T) (T' := T') hx hy
  rwa [show IntKind.u64.wrap (a + b) = a + b by rw [IntKind.wrap_u64]; omega] at this
theorem y_mulU {T T' : TypeId} {x y : Operand} {a b : Int} (hx : Ev σ x (.val (.int .u64 a))) (hy : Ev σ y (.val (.int .u64 b))) (h : 0 ≤ a * b ∧ a * b < 4294967296) : Yields P ⟨d, .binOp .mul T x y T', ty, pos, after, gd⟩ σ st i (.val (.int .u64 (a * b))) st := by
  have := y_mulw (P := P) (st := st) (i := i) (d := d) (ty := ty) (pos := pos) (after := after) (gd := gd) (T := T) (T' := T') hx hy
  rwa [show IntKind.u64.wrap (a * b) = a * b by rw [IntKind.wrap_u64]; omega] at this
/-- A conversion that keeps the number. -/
theorem y_convertN {T T' : TypeId} {x : Operand} {k k' : IntKind} {a : Int} (hT : (P.underlying T).isSome = true) (hT' : P.underlying T' = some (.int k')) (hx : Ev σ x (.val (.int k a))) (h : k'.wrap a = a) : Yields P ⟨d, .convert T T' x, ty, pos, after, gd⟩ σ st i (.val (.int k' a)) st := by
  have := y_convert (P := P) (st := st) (i := i) (d := d) (ty := ty) (pos := pos) (after := after) (gd := gd) hT hT' hx
  rwa [h] at this

/-! ### Pointers that are not nil -/
theorem y_nilPtr {x : Operand} {j off : Nat} (hx : Ev σ x (.ptr j off)) : Yields P ⟨d, .nilCheck x, ty, pos, after, gd⟩ σ st i (.ptr j off) st := fun F g a w hw hi hs => by
  have hh := hx.holds hs (by simp [Op.operands])
  obtain ⟨b, p, s, hl, e⟩ := AV.ptr_holds.1 hh
  exact goes_value (u := .pointer (some ⟨b, off, none⟩)) (by simp [execOp, e]) ⟨g, Ghost.to.refl g i, hw, AV.ptr_holds.2 ⟨b, p, s, hl, rfl⟩⟩
theorem y_nilE {x : Operand} {cs : List AV} (hx : Ev σ x (.eptr cs)) : Yields P ⟨d, .nilCheck x, ty, pos, after, gd⟩ σ st i (.eptr cs) st := fun F g a w hw hi hs => by
  have hh := hx.holds hs (by simp [Op.operands])
  obtain ⟨b, o, e, hr⟩ := AV.eptr_holds.1 hh
  exact goes_value (u := .pointer (some ⟨b, o, none⟩)) (by simp [execOp, e]) ⟨g, Ghost.to.refl g i, hw, AV.eptr_holds.2 ⟨b, o, rfl, hr⟩⟩
end
section ops
variable {P : Program} {n : Nat} {ops : Array Oper} {rest : List Oper} {σ : Fr} {st : List Item} {K : Fr → List Item → Prop} {op : Op} {ty : TypeId} {pos : String} {after : Array Edge}
/-- An operation that writes slot d, and items. -/
theorem st_w {d : Nat} {v : AV} {st' : List Item} (hy : ∀ i, Yields P ⟨some d, op, ty, pos, after, none⟩ σ st i v st') (hd : Nat.blt d n = true) (h : AOps P n ops rest ((d, v) :: σ) st' K) : AOps P n ops (⟨some d, op, ty, pos, after, none⟩ :: rest) σ st K :=
  aops_new (v := fun _ => v) (st' := fun _ => st') (blt_lt hd) (fun i => (hy i).plain rfl) fun _ => h
end ops
theorem awp_items {P : Program} {n : Nat} {c : Code} {σ : Fr} {st st' : List Item} {Q : Exit → Fr → List Item → Prop} (h : st = st') (k : AWP P n c σ st' Q) : AWP P n c σ st Q := h ▸ k
theorem awp_slots {P : Program} {n : Nat} {c : Code} {σ σ' : Fr} {st : List Item} {Q : Exit → Fr → List Item → Prop} (h : σ = σ') (k : AWP P n c σ' st Q) : AWP P n c σ st Q := h ▸ k
/-! ### Rows of one kind -/
instance {α : Type} {enc : α → List AV} {n : Nat} {a : α} : RowsOf (List.replicate n (enc a)) enc (List.replicate n a) := ⟨by rw [List.map_replicate]; exact RowsImp.refl _⟩
/-- The first copy. -/
theorem rep_first {α : Type} (n : Nat) (r z : List α) (hz : z.length = r.length) : setMany (List.replicate n z).flatten 0 ([r].take (min 1 n)).flatten = (List.replicate (min 1 n) r).flatten ++ (List.replicate (n - min 1 n) z).flatten := by
  cases n with
  | zero => rfl
  | succ n =>
    have : min 1 (n + 1) = 1 := by omega
    rw [this, Nat.add_sub_cancel]
    simp [List.replicate_succ, setMany, ← hz]
theorem rep_len {α : Type} (n : Nat) (r : List α) : (List.replicate n r).flatten.length = n * r.length := by simp [List.length_flatten]
theorem rep_add {α : Type} (n m : Nat) (r : List α) : (List.replicate (n + m) r).flatten = (List.replicate n r).flatten ++ (List.replicate m r).flatten := by
  rw [← List.replicate_append_replicate, List.flatten_append]
theorem rep_take {α : Type} (n q : Nat) (r s : List α) (h : q ≤ n) : ((List.replicate n r).flatten ++ s).take (q * r.length) = (List.replicate q r).flatten := by
  obtain ⟨m, rfl⟩ := Nat.exists_eq_add_of_le h
  rw [rep_add, List.append_assoc, ← rep_len q r, List.take_left]
theorem setMany_mid {α : Type} (A B C D : List α) (h : D.length = B.length) : setMany (A ++ (B ++ C)) A.length D = A ++ D ++ C := by
  unfold setMany
  rw [List.take_left, h, ← List.drop_drop, List.drop_left, List.drop_left]
/-- The copy of q rows behind the first n. -/
theorem rep_copy {α : Type} (n m q : Nat) (r z : List α) (hz : z.length = r.length) (h : q ≤ m) :
    setMany ((List.replicate n r).flatten ++ (List.replicate m z).flatten) (0 + n * r.length) ((List.replicate q r).flatten) = (List.replicate (n + q) r).flatten ++ (List.replicate (m - q) z).flatten := by
  obtain ⟨p, rfl⟩ := Nat.exists_eq_add_of_le h
  rw [Nat.zero_add, ← rep_len n r, rep_add n q, Nat.add_sub_cancel_left, rep_add q p z]
  exact setMany_mid _ _ _ _ (by rw [rep_len, rep_len, hz])
end Go.Aw

/- An abstract walk: calls that yield a slice with room of its own. -/
namespace Go.Aw
open Go.RowKit (Below)

theorem RelW.rename {g : Ghost} {st : List Item} {w : World} {i j : Nat} (h : RelW g (.tail (some j) :: st) w) (hi : g.loc i = none) : ∃ x, g.loc j = some x ∧ RelW (g.setLoc i x) (.tail (some i) :: st) w := by
  obtain ⟨b, pos, S, vs, E, k1, k2, k3, k4, k5, k6⟩ := h.items _ (List.mem_cons_self ..)
  refine ⟨_, k1, ?_⟩
  have hle := Ghost.le_setLoc (g := g) (i := i) (x := (b, pos, S)) hi
  have h1 : RelW (g.setLoc i (b, pos, S)) (.tail (some j) :: st) w := h.evolve (row := none) hle ⟨rfl, rfl, rfl, Nat.le_refl _, fun _ _ _ => rfl⟩ (fun b hb => by cases hb) (fun b o v hv => .inl ⟨hv, by simp⟩) (fun it _ b _ => ⟨by simp, fun _ => rfl⟩) (h.fresh_setLoc i _)
  refine RelW.cons h1.tailOf ⟨b, pos, S, vs, E, Ghost.setLoc_same, k2, k3, k4, k5, k6⟩ (fun b' hb' => ?_)
  have : b' = b := by simp [Item.blk, Item.id?, Ghost.setLoc_same] at hb'; exact hb'.symm
  subst this
  exact h1.head_notin (by simp [Item.blk, Item.id?, hle.loc _ _ k1])

def Ghost.bump (g : Ghost) (i : Nat) : Ghost := { g with next := max g.next (i + 1) }
theorem RelW.bump {g : Ghost} {st : List Item} {w : World} (h : RelW g st w) (i : Nat) : RelW (g.bump i) st w :=
  h.evolve (row := none) ⟨rfl, rfl, fun _ _ _ h => h, fun _ _ h => h, Nat.le_max_left _ _⟩ ⟨rfl, rfl, rfl, Nat.le_refl _, fun _ _ _ => rfl⟩ (fun b hb => by cases hb) (fun b o v hv => .inl ⟨hv, by simp⟩) (fun it _ b _ => ⟨by simp, fun _ => rfl⟩) (fun j hj => h.fresh j (Nat.le_trans (Nat.le_max_left _ _) hj))

section
variable {P : Program} {σ : Fr} {st : List Item} {i : Nat} {d : Option Tmp} {ty : TypeId} {pos : String} {after : Array Edge} {gd : Option (Nat × Bool)} {w : World}
/-- A call that yields a slice and the room behind it. -/
theorem y_callOwn {c : Operand} {args : Array Operand} {ts : Array TypeId} {fv : AV} {f : FuncId} {caps vs : List AV} {sz : Nat} {xs : List (List AV)} [hf : Fun fv f caps] (hc : Ev σ c fv) (hargs : EvL σ args.toList vs)
    (h : ACalls P f (vs ++ caps) [] (fun v' st'' => ∃ j, v' = .own sz j xs ∧ st'' = [.tail (some j)])) : Yields P ⟨d, .call { callee := .value c, args := args, argTypes := ts }, ty, pos, after, gd⟩ σ st i (.own sz i xs) (.tail (some i) :: st) := fun F g a w hw hi hs => by
  obtain ⟨us, e, hus⟩ := AV.clo_holds.1 (hf.imp _ _ (hc.holds hs (by simp [Op.operands, Call.operands])))
  have hv := hargs.holds hs (fun x hx => by simp [Op.operands, Call.operands]; right; simpa using hx)
  have hb := hw.bump i
  have hle : g.le (g.bump i) := ⟨rfl, rfl, fun _ _ _ h => h, fun _ _ h => h, Nat.le_max_left _ _⟩
  refine goes_call (run_call h.1 e) ((h.2 (st ++ F) (g.bump i) w _ hb ((hv.append hus).mono hle)).mono fun e' w' ⟨u, v', st'', g', he, hx, hw', hv', j, hq, hst⟩ => ?_)
  subst hq hst
  have hi' : g'.loc i = none := (hx.keep i (Nat.lt_of_lt_of_le (Nat.lt_succ_self i) (Nat.le_max_right _ _))).trans hi
  obtain ⟨x, k1, k2⟩ := RelW.rename (st := st ++ F) hw' hi'
  refine ⟨u, he, g'.setLoc i x, ?_, k2, ?_⟩
  · have h1 : g.to i g' := ⟨hle.trans hx.le, fun q hq hne => hx.keep q (Nat.lt_of_lt_of_le hq (Nat.le_max_left _ _))⟩
    exact h1.trans (Ghost.to_setLoc hi')
  · obtain ⟨b, ps, S, off, cap, l1, l2, l3, l4, l5, l6, l7⟩ := AV.own_holds.1 hv'
    rw [k1] at l1; cases l1
    exact AV.own_holds.2 ⟨b, ps, S, off, cap, Ghost.setLoc_same, l2, l3, l4, l5.mono (Ghost.le_setLoc hi'), l6, l7⟩
/-- append of nothing. -/
theorem y_appendNil {T E sz by_ : Nat} {x y : Operand} {av : AV} {xs : List (List AV)} {zs : List Value} [ht : SliceT P T E sz by_] [hz : ZeroT P E zs] [hr : Rd av sz []] (hzl : zs.length = sz)
    (hx : Ev σ x (.full sz xs)) (hy : Ev σ y av) (hb : xs.length ≤ 1073741824) :
    Yields P ⟨d, .call { callee := .builtin .append, args := #[x, y], argTypes := #[T, T] }, ty, pos, after, gd⟩ σ st i (.full sz xs) st := fun F g a w hw hi hs => by
  have := y_append0 (P := P) (T := T) (d := d) (ty := ty) (pos := pos) (after := after) (gd := gd) (st := st) (i := i) (xs := xs) (ys := []) hzl hx hy (by simpa using hb) F g a w hw hi hs
  refine this.mono fun u w' ⟨g', h1, h2, h3⟩ => ⟨g', h1, ?_, ?_⟩
  · exact h2.tailOf
  · have h4 : (AV.grow sz none (xs ++ [])).holds g' u := h3
    rw [List.append_nil] at h4; exact h4
/-- append to a slice without room: a new array. -/
theorem y_appendNew {T E sz by_ : Nat} {x y : Operand} {av : AV} {xs ys : List (List AV)} {zs : List Value} [ht : SliceT P T E sz by_] [hz : ZeroT P E zs] [hr : Rd av sz ys] (hzl : zs.length = sz)
    (hx : Ev σ x (.full sz xs)) (hy : Ev σ y av) (hne : ys ≠ []) (hb : xs.length + ys.length ≤ 1073741824) :
    Yields P ⟨d, .call { callee := .builtin .append, args := #[x, y], argTypes := #[T, T] }, ty, pos, after, gd⟩ σ st i (.own sz i (xs ++ ys)) (.tail (some i) :: st) := by
  have := y_append0 (P := P) (T := T) (d := d) (ty := ty) (pos := pos) (after := after) (gd := gd) (st := st) (i := i) (xs := xs) (ys := ys) hzl hx hy hb
  have he : ys.isEmpty = false := by cases ys with | nil => exact absurd rfl hne | cons => rfl
  rw [he] at this
  exact this
end
theorem ACalls.shift {P : Program} {f : FuncId} {args : List AV} {st : List Item} {Q Q' : AV → List Item → Prop} (h : ACalls P f args st Q) (hq : ∀ v st', Q v st' → ∃ v2 st2, VShift v st' v2 st2 ∧ Q' v2 st2) : ACalls P f args st Q' :=
  ⟨h.1, fun F g w vs hw hv => (h.2 F g w vs hw hv).mono fun e w' ⟨u, v, st', g', a, b, c, d, q⟩ => by
    obtain ⟨v2, st2, hs, hq2⟩ := hq v st' q
    obtain ⟨g2, x, y, z⟩ := hs F g' u w' c d
    exact ⟨u, v2, st2, g2, a, b.trans x, y, z, hq2⟩⟩
end Go.Aw

/- An abstract walk: more steps. -/
namespace Go.Aw
theorem Weak.items2 {n : Nat} {σ : Fr} {st st' : List Item} (k : ItLe2 st st') : Weak n σ st σ st' := fun F g a w hf hw => ⟨g, Ghost.ext.refl g, hf, k.relW hw⟩
/-- A contract that leaves the items that it asks for as they were. -/
theorem ACalls.keep {P : Program} {f : FuncId} {args : List AV} {st its r : List Item} {v : AV} (hp : Takes st its r) (h : ACalls P f args its (fun v' s => v' = v ∧ s = its)) : ACalls P f args st (fun v' s => v' = v ∧ s = st) :=
  (h.frame (Q' := fun v' s => v' = v ∧ s = its ++ r) hp.perm fun v' s ⟨a, b⟩ => ⟨a, by rw [b]⟩).shift fun v' s ⟨a, b⟩ => ⟨v', st, fun F g u w hw hv => ⟨g, Ghost.ext.refl g, (by rw [b] at hw; exact hw.perm (hp.perm.symm.append_right F)), hv⟩, a, rfl⟩
/-! ### Part of a growing slice, from a place on -/
@[irreducible] def AV.or (a b : AV) : AV := ⟨fun g v => a.holds g v ∨ b.holds g v, fun h k => k.elim (fun x => .inl (a.mono h x)) (fun x => .inr (b.mono h x))⟩
theorem AV.or_holds {a b : AV} {g : Ghost} {v : Value} : (AV.or a b).holds g v ↔ a.holds g v ∨ b.holds g v := by unfold AV.or; rfl
instance {a b : AV} [h : One a] [k : One b] : One (.or a b) := ⟨fun g u e => (AV.or_holds.1 e).elim (h.one g u) (k.one g u)⟩
section
variable {P : Program} {n : Nat} {ops : Array Oper} {rest : List Oper} {σ : Fr} {st : List Item} {K : Fr → List Item → Prop} {i : Nat} {d : Option Tmp} {ty : TypeId} {pos : String} {after : Array Edge} {gd : Option (Nat × Bool)}
theorem Weak.pop {t : Nat} {v v' : AV} : Weak n ((t, v) :: (t, v') :: σ) st ((t, v) :: σ) st := fun F g a w hf hw =>
  ⟨g, Ghost.ext.refl g, ⟨hf.size, hf.defers, fun k u e => by
    refine hf.slot k u ?_
    rw [look_cons] at e ⊢
    split at e
    · rename_i hk; rw [if_pos hk]; exact e
    · rename_i hk; rw [if_neg hk, look_cons, if_neg hk]; exact e⟩, hw⟩
theorem Weak.tailOff {j : Nat} : Weak n σ (.tail (some j) :: st) σ (.tail none :: st) := fun F g a w hf hw =>
  ⟨g, Ghost.ext.refl g, hf, RelW.cons (hw.sub (List.sublist_cons_self _ _)) trivial (fun b hb => by simp [Item.blk, Item.id?] at hb)⟩
theorem aops_or {t : Nat} {a b : AV} (h : look σ t = some (.or a b)) (ha : AOps P n ops rest ((t, a) :: σ) st K) (hb : AOps P n ops rest ((t, b) :: σ) st K) : AOps P n ops rest σ st K := fun F g ac w hf hr => by
  obtain ⟨x, p, q⟩ := hf.slot _ _ h
  have key : ∀ v : AV, v.holds g x → RelF n g ((t, v) :: σ) ac := fun v hv => ⟨hf.size, hf.defers, fun k u e => by
    rw [look_cons] at e
    split at e
    · rename_i hk; subst hk; cases e; exact ⟨x, p, hv⟩
    · exact hf.slot k u e⟩
  rcases AV.or_holds.1 q with q | q
  · exact ha F g ac w (key a q) hr
  · exact hb F g ac w (key b q) hr
section
variable {T E sz by_ : Nat} {x lo : Operand} {xs : List (List AV)} {k : IntKind} {l : Nat} {ql : Int}
theorem y_sliceLoOwn {j : Nat} [ht : SliceT P T E sz by_] (hx : Ev σ x (.own sz j xs)) (hlo : Ev σ lo (.val (.int k ql))) (e : ql = (l : Int)) (h1 : l ≤ xs.length) :
    Yields P ⟨d, .slice T x (some lo) none none, ty, pos, after, gd⟩ σ st i (.or (.own sz j (xs.drop l)) (.full sz (xs.drop l))) st := fun F g a w hw hi hs => by
  subst e
  obtain ⟨b, ps, S, off, cap, hl, e, hcap, hsz, hrow, hp, hS⟩ := AV.own_holds.1 (hx.holds hs (by simp [Op.operands]))
  have e2 := AV.val_holds.1 (hlo.holds hs (by simp [Op.operands]))
  refine goes_value (by simp only [execOp, e, e2, Option.map_some, Option.map_none]; rw [Sem.run_bind, run_slice_lo (some ⟨b, off, none⟩) _ _ _ _ h1 hcap]; rfl) ⟨g, Ghost.to.refl g i, hw, AV.or_holds.2 ?_⟩
  by_cases hc : cap = l
  · right
    have hl0 : xs.drop l = [] := List.drop_of_length_le (by omega)
    rw [AV.full_holds, hl0]
    refine ⟨some ⟨b, off, none⟩, ?_, fun _ => rfl, ⟨fun _ h => absurd h List.not_mem_nil, fun h => absurd rfl h⟩⟩
    have h1 : xs.length - l = 0 := by omega
    have h2 : cap - l = 0 := by omega
    rw [h1, h2, if_pos hc]; rfl
  · left
    rw [AV.own_holds]
    have hf := flatten_drop hsz l
    refine ⟨b, ps, S, off + l * sz, cap - l, hl, ?_, by rw [List.length_drop]; omega, fun y hy => hsz y (List.mem_of_mem_drop hy), ?_, ?_, ?_⟩
    · rw [if_neg hc, List.length_drop, Option.map_some, Addr.add_mk]
    · rw [hf]; exact hrow.drop _ (by rw [flatten_len hsz]; exact Nat.mul_le_mul_right _ h1)
    · rw [List.length_drop, Nat.sub_mul]; have := Nat.mul_le_mul_right sz h1; omega
    · rw [Nat.sub_mul]; have := Nat.mul_le_mul_right sz (Nat.le_trans h1 hcap); omega
theorem y_sliceLoFull [ht : SliceT P T E sz by_] (hx : Ev σ x (.full sz xs)) (hlo : Ev σ lo (.val (.int k ql))) (e : ql = (l : Int)) (h1 : l ≤ xs.length) :
    Yields P ⟨d, .slice T x (some lo) none none, ty, pos, after, gd⟩ σ st i (.full sz (xs.drop l)) st := fun F g a w hw hi hs => by
  subst e
  obtain ⟨ad, e, hn, hrow⟩ := AV.full_holds.1 (hx.holds hs (by simp [Op.operands]))
  have e2 := AV.val_holds.1 (hlo.holds hs (by simp [Op.operands]))
  have := rows_cut hrow l xs.length xs.length (fun e => by omega) (Nat.le_refl _)
  rw [List.take_length] at this
  refine goes_value (by simp only [execOp, e, e2, Option.map_some, Option.map_none]; rw [Sem.run_bind, run_slice_lo ad _ _ _ _ h1 (Nat.le_refl _)]; rfl)
    ⟨g, Ghost.to.refl g i, hw, AV.full_holds.2 ⟨_, by rw [List.length_drop], fun e => ?_, this⟩⟩
  have : ad = none := by
    cases ad with
    | none => rfl
    | some a => split at e <;> cases e
  rw [hn this]; simp
theorem st_sliceG {d : Nat} {t : Option Nat} {st1 : List Item} [ht : SliceT P T E sz by_] (hx : Ev σ x (.grow sz t xs)) (hlo : Ev σ lo (.val (.int k ql))) (e : ql = (l : Int)) (h1 : l ≤ xs.length) (hT : Take st (.tail t) st1)
    (hd : Nat.blt d n = true) (h : ∀ t', AOps P n ops rest ((d, .grow sz t' (xs.drop l)) :: σ) (.tail t' :: st1) K) : AOps P n ops (⟨some d, .slice T x (some lo) none none, ty, pos, after, none⟩ :: rest) σ st K := by
  cases t with
  | none => exact aops_weak (Weak.perm hT.perm) (st_p (fun _ => y_sliceLoFull (σ := σ) hx hlo e h1) hd (h none))
  | some j =>
    refine aops_weak (Weak.perm hT.perm) (st_p (fun _ => y_sliceLoOwn (σ := σ) hx hlo e h1) hd (aops_or (t := d) ((look_cons _ _ _ _).trans (if_pos rfl)) (aops_weak Weak.pop (h (some j))) (aops_weak (Weak.trans Weak.pop Weak.tailOff) (h none))))
end
end
theorem AV.Imp.nil_of {α : Type} {sz : Nat} {enc : α → List AV} {l : List α} (h : l = []) : (AV.val (.slice none 0 0)).Imp (.grow sz none (l.map enc)) := by
  subst h; exact AV.Imp.nil_grow
end Go.Aw

/- An abstract walk: ranges over a function (1): code in a round's frame, and behind such a statement. -/
namespace Go.Aw
open Go.RowKit (Below)

/-- The widest fence, of a frame in the round ro. -/
def wd (ro : Option Nat) : Fence := { Fence.wide with round := ro }
theorem wd_none : wd none = Fence.wide := rfl
theorem wd_some (l : Nat) : wd (some l) = Fence.wide.inRound l := rfl
theorem room_wd (ro : Option Nat) (n : Nat) : (wd ro).room n := fun _ h => by simp [wd, Fence.wide] at h
theorem callsIn_wd {ro : Option Nat} {n : Nat} {P : Program} {f : FuncId} {args : Array Value} {w : World} {R : Ending → World → Prop} (h : Calls P f args w R) : CallsIn (wd ro) n P f args w R := by
  have := (callsIn_wide (n := n)).2 h
  exact ⟨trivial, fun cs _ => this.2 cs (room_wide _)⟩
theorem rowsIn_wd {ro : Option Nat} {n : Nat} {P : Program} {row : String} {args : Array Value} {w : World} {R : Value → World → Prop} (h : Rows P row args w R) : RowsIn (wd ro) n P row args w R := fun c cs _ => by
  obtain ⟨v, w', r, s⟩ := h c cs
  exact ⟨v, w', r, stepsIn_wide.2 s⟩

/-- The marks on the deferred calls. -/
def Marks (g : Ghost) : List Nat → List Deferred → Prop
  | [], [] => True
  | m :: ms, d :: ds => (∃ b p s, g.loc m = some (b, p, s) ∧ d = { target := .collected b, args := #[] }) ∧ Marks g ms ds
  | _, _ => False
theorem Marks.mono {g g' : Ghost} (h : g.le g') : ∀ {ms : List Nat} {ds : List Deferred}, Marks g ms ds → Marks g' ms ds
  | [], [], _ => trivial
  | m :: ms, d :: ds, ⟨⟨b, p, s, e, k⟩, r⟩ => ⟨⟨b, p, s, h.loc _ _ e, k⟩, Marks.mono h r⟩
  | [], _ :: _, h => h.elim
  | _ :: _, [], h => h.elim

def Act.bare (a : Act) : Act := { a with defers := [] }
def AWX (ro : Option Nat) (P : Program) (n : Nat) (c : Code) (ms : List Nat) (σ : Fr) (st : List Item) (Q : Exit → List Nat → Fr → List Item → Prop) : Prop :=
  ∀ F g a w, RelF n g σ { a with defers := [] } → Marks g ms a.defers → RelW g (st ++ F) w →
    c.wpIn (wd ro) 0 P (fun e a' w' => ∃ g' σ' st' ms', g.ext g' ∧ RelF n g' σ' { a' with defers := [] } ∧ Marks g' ms' a'.defers ∧ RelW g' (st' ++ F) w' ∧ Q e ms' σ' st') a w

def thenX (next : List Nat → Fr → List Item → Prop) (Q : Exit → List Nat → Fr → List Item → Prop) : Exit → List Nat → Fr → List Item → Prop
  | .normal => next
  | e => Q e
def inBlockX (id : Nat) (Q : Exit → List Nat → Fr → List Item → Prop) : Exit → List Nat → Fr → List Item → Prop
  | .exit j => match Nat.beq j id with | true => Q .normal | false => Q (.exit j)
  | e => Q e

section code
variable {ro : Option Nat} {P : Program} {n : Nat} {σ : Fr} {st : List Item} {ms : List Nat} {Q : Exit → List Nat → Fr → List Item → Prop}
theorem wpx_ext {F : List Item} {g g1 : Ghost} {c : Code} {a : Act} {w : World} (hx : g.ext g1)
    (h : c.wpIn (wd ro) 0 P (fun e a' w' => ∃ g' σ' st' ms', g1.ext g' ∧ RelF n g' σ' { a' with defers := [] } ∧ Marks g' ms' a'.defers ∧ RelW g' (st' ++ F) w' ∧ Q e ms' σ' st') a w) :
    c.wpIn (wd ro) 0 P (fun e a' w' => ∃ g' σ' st' ms', g.ext g' ∧ RelF n g' σ' { a' with defers := [] } ∧ Marks g' ms' a'.defers ∧ RelW g' (st' ++ F) w' ∧ Q e ms' σ' st') a w :=
  wpIn_mono h fun e a' w' ⟨g', σ', st', ms', x, y⟩ => ⟨g', σ', st', ms', hx.trans x, y⟩
theorem awx_mono {c : Code} {Q' : Exit → List Nat → Fr → List Item → Prop} (h : AWX ro P n c ms σ st Q) (hq : ∀ e ms σ st, Q e ms σ st → Q' e ms σ st) : AWX ro P n c ms σ st Q' := fun F g a w hf hm hw =>
  wpIn_mono (h F g a w hf hm hw) fun e a' w' ⟨g', σ', st', ms', x, y, m, z, q⟩ => ⟨g', σ', st', ms', x, y, m, z, hq _ _ _ _ q⟩
theorem awx_weak {c : Code} {σ' : Fr} {st' : List Item} (hw : Weak n σ st σ' st') (h : AWX ro P n c ms σ' st' Q) : AWX ro P n c ms σ st Q := fun F g a w hf hm hr => by
  obtain ⟨g', x, y, z⟩ := hw F g _ w hf hr
  exact wpx_ext x (h F g' a w y (hm.mono x.le) z)
theorem awx_skip (h : Q .normal ms σ st) : AWX ro P n .skip ms σ st Q := fun F g a w hf hm hw => wpIn_skip ⟨g, σ, st, ms, Ghost.ext.refl g, hf, hm, hw, h⟩
theorem awx_ret (h : Q .ret ms σ st) : AWX ro P n .ret ms σ st Q := fun F g a w hf hm hw => wpIn_ret ⟨g, σ, st, ms, Ghost.ext.refl g, hf, hm, hw, h⟩
theorem awx_exit {id : Nat} (h : Q (.exit id) ms σ st) : AWX ro P n (.exit id) ms σ st Q := fun F g a w hf hm hw => wpIn_exit ⟨g, σ, st, ms, Ghost.ext.refl g, hf, hm, hw, h⟩
theorem awx_seq {x y : Code} (h : AWX ro P n x ms σ st (thenX (fun ms' σ' st' => AWX ro P n y ms' σ' st' Q) Q)) : AWX ro P n (.seq x y) ms σ st Q := fun F g a w hf hm hw =>
  wpIn_seq (wpIn_mono (h F g a w hf hm hw) fun e a' w' ⟨g', σ', st', ms', hx, hf', hm', hw', hq⟩ => by
    cases e with
    | normal => exact wpx_ext hx (hq F g' a' w' hf' hm' hw')
    | _ => exact ⟨g', σ', st', ms', hx, hf', hm', hw', hq⟩)
theorem awx_block {id : Nat} {c : Code} (h : AWX ro P n c ms σ st (inBlockX id Q)) : AWX ro P n (.block id c) ms σ st Q := fun F g a w hf hm hw =>
  wpIn_block (wpIn_mono (h F g a w hf hm hw) fun e a' w' ⟨g', σ', st', ms', hx, hf', hm', hw', hq⟩ => by
    cases e with
    | exit j =>
      simp only [inBlockX] at hq
      simp only [Exit.inBlock]
      cases e : Nat.beq j id with
      | true => rw [e] at hq; rw [if_pos (Nat.eq_of_beq_eq_true e)]; exact ⟨g', σ', st', ms', hx, hf', hm', hw', hq⟩
      | false => rw [e] at hq; rw [if_neg (Nat.ne_of_beq_eq_false e)]; exact ⟨g', σ', st', ms', hx, hf', hm', hw', hq⟩
    | _ => exact ⟨g', σ', st', ms', hx, hf', hm', hw', hq⟩)
theorem awx_cond {c : Operand} {x y : Code} {b : Bool} (hc : evA σ c = some (.bool b)) (ht : b = true → AWX ro P n x ms σ st Q) (hf : b = false → AWX ro P n y ms σ st Q) : AWX ro P n (.cond c x y) ms σ st Q := fun F g a w hfr hm hw => by
  have hv := evA_slot (ts := match c with | .tmp t => [t] | _ => []) (hfr.slots _) (fun t e => by subst e; simp) hc
  rw [AV.val_holds] at hv
  have hv' : a.eval c = .bool b := hv
  exact wpIn_cond_split hv' (fun e => ht e F g a w hfr hm hw) (fun e => hf e F g a w hfr hm hw)

/-! ### A plain list of operations, ahead of others -/
theorem upon_defers {ops : Array Oper} {R : Act → World → Prop} (hR : ∀ a w, R a w → a.defers = []) : ∀ (l : List Oper) (a : Act) (w : World), a.defers ≠ [] → wpList P ops (fun e a' w' => e = .normal ∧ R a' w') l a w → False
  | [], a, w, hd, h => hd (hR _ _ h.2)
  | o :: l, a, w, hd, h => by
    have ih := upon_defers (ops := ops) (R := R) hR l
    unfold wpList at h
    split at h
    · rcases h with h | ⟨_, a0, w0, e, _⟩
      · unfold Oper.wp at h
        generalize (execOp a.eval o).run P w = r at h
        have hput : ∀ (a : Act) (d : Option Tmp) (v : Value), a.defers ≠ [] → (a.put d v).defers ≠ [] := fun a d v h => by cases d <;> exact h
        cases r with
        | halt x w' => cases x <;> simp only [Oper.upon] at h <;> first | exact h | (obtain ⟨e, _⟩ := h; cases e)
        | ok x w' =>
          cases x <;> simp only [Oper.upon] at h <;> first
            | exact h
            | exact ih _ _ (hput _ _ _ hd) h
            | exact ih _ _ (hput _ _ _ (by simp)) h
            | (obtain ⟨e, w2, fr, hr, _⟩ := h []
               cases e with
               | returned v => exact ih _ _ (hput _ _ _ hd) hr
               | panicked c => obtain ⟨e, _⟩ := hr; cases e
               | outgrown => obtain ⟨_, _, e, _⟩ := hr; cases e)
            | (obtain ⟨v, w2, hr, _⟩ := h default []
               exact ih _ _ (hput _ _ _ hd) hr)
      · cases e
    · exact ih _ _ (by cases o.dst <;> exact hd) h

def plainOp (o : Oper) : Bool := match o.op with | .defer _ => false | _ => true
theorem semAt_plain {o : Oper} (h : plainOp o = true) (ρ : Operand → Value) : Oper.semAt ro ρ o = execOp ρ o :=
  Oper.semAt_eq _ _ _ fun c e => by simp [plainOp, e] at h

theorem list_in {ops : Array Oper} {R : Act → World → Prop} {Qx : Exit → Act → World → Prop} {l2 : List Oper} {ds : List Deferred} (hR : ∀ a w, R a w → a.defers = []) : ∀ (l : List Oper), (∀ o ∈ l, plainOp o = true) → ∀ (t : Array Value) (w : World),
    wpList P ops (fun e a' w' => e = .normal ∧ R a' w') l ⟨t, []⟩ w →
    (∀ t' w', R ⟨t', []⟩ w' → wpListIn (wd ro) 0 P ops Qx l2 ⟨t', ds⟩ w') → wpListIn (wd ro) 0 P ops Qx (l ++ l2) ⟨t, ds⟩ w
  | [], _, t, w, h, hk => hk t w h.2
  | o :: l, hp, t, w, h, hk => by
    have ih := list_in (ops := ops) (R := R) (Qx := Qx) (l2 := l2) (ds := ds) hR l (fun x hx => hp x (by simp [hx]))
    have ho := hp o (by simp)
    have hput : ∀ (v : Value), ∃ t', (⟨t, []⟩ : Act).put o.dst v = ⟨t', []⟩ ∧ (⟨t, ds⟩ : Act).put o.dst v = ⟨t', ds⟩ := fun v => by
      cases o.dst with
      | none => exact ⟨t, rfl, rfl⟩
      | some d => exact ⟨t.setIfInBounds d v, rfl, rfl⟩
    show wpListIn (wd ro) 0 P ops Qx (o :: (l ++ l2)) ⟨t, ds⟩ w
    unfold wpList at h
    unfold wpListIn
    split at h
    · rename_i hwn
      rw [if_pos hwn]
      refine ⟨fun f _ => trivial, ?_⟩
      rcases h with h | ⟨_, a0, w0, e, _⟩
      · unfold Oper.wp at h
        rw [semAt_plain ho]
        have hev : (⟨t, ds⟩ : Act).eval = (⟨t, []⟩ : Act).eval := by funext x; cases x <;> rfl
        rw [hev]
        generalize (execOp (⟨t, []⟩ : Act).eval o).run P w = r at h
        cases r with
        | halt x w' => cases x <;> simp only [Oper.upon] at h <;> first | exact h.elim | (obtain ⟨e, _⟩ := h; cases e)
        | ok x w' =>
          cases x with
          | value v =>
            obtain ⟨t', e1, e2⟩ := hput v
            simp only [Oper.upon, e1] at h
            simp only [Oper.uponIn, e2]
            exact ih _ _ h hk
          | skip =>
            obtain ⟨t', e1, e2⟩ := hput undef
            simp only [Oper.upon, e1] at h
            simp only [Oper.uponIn, e2]
            exact ih _ _ h hk
          | defer d =>
            simp only [Oper.upon] at h
            exact (upon_defers hR l _ _ (by cases o.dst <;> simp [Act.put]) h).elim
          | enter f args =>
            simp only [Oper.upon] at h
            simp only [Oper.uponIn]
            refine ⟨fun e => by simp [wd, Fence.wide] at e, callsIn_wd (h.mono fun e w2 he => ?_)⟩
            cases e with
            | returned v =>
              obtain ⟨t', e1, e2⟩ := hput v
              have he' : wpList P ops _ l ((⟨t, []⟩ : Act).put o.dst v) w2 := he
              rw [e1] at he'
              show wpListIn (wd ro) 0 P ops Qx (l ++ l2) ((⟨t, ds⟩ : Act).put o.dst v) w2
              rw [e2]; exact ih _ _ he' hk
            | panicked c => obtain ⟨e, _⟩ := he; cases e
            | outgrown => obtain ⟨_, _, e, _⟩ := he; cases e
          | row r args =>
            simp only [Oper.upon] at h
            simp only [Oper.uponIn]
            refine ⟨fun e => by simp [wd, Fence.wide] at e, rowsIn_wd (h.mono fun v w2 he => ?_)⟩
            obtain ⟨t', e1, e2⟩ := hput v
            rw [e1] at he; rw [e2]; exact ih _ _ he hk
          | _ => simp only [Oper.upon] at h
      · cases e
    · rename_i hwn
      rw [if_neg hwn]
      obtain ⟨t', e1, e2⟩ := hput undef
      rw [e1] at h; rw [e2]
      exact ⟨fun f _ => trivial, ih _ _ h hk⟩

theorem awx_region {id : Nat} {l : List Oper} (hp : l.all plainOp = true) (h : AOps P n l.toArray l σ st (fun σ' st' => Q .normal ms σ' st')) : AWX ro P n (.region id l.toArray false) ms σ st Q := fun F g a w hf hm hw => by
  refine wpIn_region_lit ?_
  have h2 := h F g { a with defers := [] } w hf hw
  have := list_in (ro := ro) (P := P) (ops := l.toArray) (l2 := []) (ds := a.defers) (Qx := fun e a' w' => ∃ g' σ' st' ms', g.ext g' ∧ RelF n g' σ' { a' with defers := [] } ∧ Marks g' ms' a'.defers ∧ RelW g' (st' ++ F) w' ∧ Q e ms' σ' st')
    (fun a w ⟨_, _, _, _, hf', _⟩ => hf'.defers) l (List.all_eq_true.1 hp) a.tmps w h2 (fun t' w' ⟨g', σ', st', hx, hf', hw', hq⟩ => ⟨g', σ', st', ms, hx, hf', hm.mono hx.le, hw', hq⟩)
  rw [List.append_nil] at this
  exact this

/-! ### The value of yield -/
/-- yield of the loop whose record is the item i; the frame's temporaries at the loop. -/
@[irreducible] def AV.yld (i n : Nat) (σ : Fr) (T : Array Value) : AV := ⟨fun g v => ∃ b p s, g.loc i = some (b, p, s) ∧ v = .func (.yield b) #[] #[] ∧ RelF n g σ ⟨T, []⟩, fun h ⟨b, p, s, a, c, d⟩ => ⟨b, p, s, h.loc _ _ a, c, d.mono h⟩⟩
theorem AV.yld_holds {i n : Nat} {σ : Fr} {T : Array Value} {g : Ghost} {v : Value} : (AV.yld i n σ T).holds g v ↔ ∃ b p s, g.loc i = some (b, p, s) ∧ v = .func (.yield b) #[] #[] ∧ RelF n g σ ⟨T, []⟩ := by unfold AV.yld; rfl
/-- What a call of yield does. -/
def AYields (P : Program) (yv : AV) (args : List AV) (st : List Item) (Q : AV → List Item → Prop) : Prop :=
  ∀ F g w u vs, RelW g (st ++ F) w → yv.holds g u → holdsL g args vs → ∃ l r, u = .func (.yield l) #[] #[] ∧ w.heap[l]? = some (.loop r) ∧ vs.length = r.params.size ∧
    RoundIn Fence.wide 0 P l r.fn ((r.params.zip vs.toArray).foldl (fun tmps (t, a) => tmps.setIfInBounds t a) r.tmps) r.assign r.body w
      (fun e w' => ∃ u' v st' g', e = .returned u' ∧ g.ext g' ∧ RelW g' (st' ++ F) w' ∧ v.holds g' u' ∧ Q v st')
theorem AYields.mono {yv : AV} {args : List AV} {Q Q' : AV → List Item → Prop} (h : AYields P yv args st Q) (hq : ∀ v st', Q v st' → Q' v st') : AYields P yv args st Q' := fun F g w u vs hw hu hv => by
  obtain ⟨l, r, a, b, c, d⟩ := h F g w u vs hw hu hv
  exact ⟨l, r, a, b, c, d.mono fun e w' ⟨u', v, st', g', x1, x2, x3, x4, x5⟩ => ⟨u', v, st', g', x1, x2, x3, x4, hq _ _ x5⟩⟩
theorem AYields.frame {yv : AV} {args : List AV} {st1 st2 : List Item} {Q Q' : AV → List Item → Prop} (h : AYields P yv args st1 Q) (hp : st.Perm (st1 ++ st2)) (hq : ∀ v st', Q v st' → Q' v (st' ++ st2)) : AYields P yv args st Q' := fun F g w u vs hw hu hv => by
  obtain ⟨l, r, a, b, c, d⟩ := h (st2 ++ F) g w u vs (by rw [← List.append_assoc]; exact hw.perm (hp.append_right F)) hu hv
  exact ⟨l, r, a, b, c, d.mono fun e w' ⟨u', v, st', g', x1, x2, x3, x4, x5⟩ => ⟨u', v, st' ++ st2, g', x1, x2, by rw [List.append_assoc]; exact x3, x4, hq _ _ x5⟩⟩
theorem run_yieldCall {c : Operand} {args : Array Operand} {ts : Array TypeId} {a : Act} {l : Nat} {r : Loop} {w : World} {d : Option Tmp} {ty : TypeId} {pos : String} {after : Array Edge} {gd : Option (Nat × Bool)}
    (e : a.eval c = .func (.yield l) #[] #[]) (h : w.heap[l]? = some (.loop r)) (hs : args.size = r.params.size) :
    (execOp a.eval ⟨d, .call { callee := .value c, args := args, argTypes := ts }, ty, pos, after, gd⟩).run P w = .ok (.round l r.fn ((r.params.zip (args.toList.map a.eval).toArray).foldl (fun tmps (t, a) => tmps.setIfInBounds t a) r.tmps) r.assign r.body) w := by
  have he : (#[] ++ args.map a.eval) = (args.toList.map a.eval).toArray := by apply Array.ext'; simp
  have := run_yield (P := P) (args := (args.toList.map a.eval).toArray) h (by simpa using hs)
  simp only [execOp, resolve, Deferred.ofValue, e, Sem.run_bind, Sem.run_pure, Result.andThen_ok, invoke]
  rw [he, this]
/-- A region with a call of yield in it. -/
theorem awx_regionY {id : Nat} {l l1 l2 : List Oper} {d t : Nat} {args : Array Operand} {ts : Array TypeId} {ty : TypeId} {pos : String} {after : Array Edge}
    (hl : l = l1 ++ ⟨some d, .call { callee := .value (.tmp t), args := args, argTypes := ts }, ty, pos, after, none⟩ :: l2) (hp1 : l1.all plainOp = true) (hp2 : l2.all plainOp = true) (hd : Nat.blt d n = true)
    (h : AOps P n l.toArray l1 σ st (fun σ1 st1 => ∃ yv vs, look σ1 t = some yv ∧ EvL σ1 args.toList vs ∧ AYields P yv vs st1 (fun v st2 => AOps P n l.toArray l2 ((d, v) :: σ1) st2 (fun σ' st' => Q .normal ms σ' st')))) :
    AWX ro P n (.region id l.toArray false) ms σ st Q := fun F g a w hf hm hw => by
  refine wpIn_region_lit ?_
  have h2 := h F g { a with defers := [] } w hf hw
  have := list_in (ro := ro) (P := P) (ops := l.toArray) (l2 := ⟨some d, .call { callee := .value (.tmp t), args := args, argTypes := ts }, ty, pos, after, none⟩ :: l2) (ds := a.defers) (Qx := fun e a' w' => ∃ g' σ' st' ms', g.ext g' ∧ RelF n g' σ' { a' with defers := [] } ∧ Marks g' ms' a'.defers ∧ RelW g' (st' ++ F) w' ∧ Q e ms' σ' st')
    (fun a w ⟨_, _, _, _, hf', _⟩ => hf'.defers) l1 (List.all_eq_true.1 hp1) a.tmps w h2 ?_
  · have e : l1 ++ ⟨some d, .call { callee := .value (.tmp t), args := args, argTypes := ts }, ty, pos, after, none⟩ :: l2 = l := hl.symm
    rw [e] at this; exact this
  · rintro t' w' ⟨g1, σ1, st1, hx1, hf1, hw1, yv, vs, hy, hev, hY⟩
    obtain ⟨u, hu1, hu2⟩ := hf1.slot _ _ hy
    have hus : holdsL g1 vs (args.toList.map (⟨t', a.defers⟩ : Act).eval) :=
      hev.holds (o := ⟨some d, .call { callee := .value (.tmp t), args := args, argTypes := ts }, ty, pos, after, none⟩) (a := ⟨t', []⟩) (hf1.slots _) (fun x hx => by simp [Op.operands, Call.operands]; right; simpa using hx)
    obtain ⟨lb, r, e1, e2, e3, e4⟩ := hY F g1 w' u _ hw1 hu2 hus
    have hte : (⟨t', a.defers⟩ : Act).eval (.tmp t) = .func (.yield lb) #[] #[] := by
      show t'.getD t undef = _
      have hu1' : t'[t]? = some u := hu1
      rw [Array.getD_eq_getD_getElem?, hu1', ← e1]; rfl
    unfold wpListIn
    rw [if_pos (by simp [Region.wanted])]
    refine ⟨fun _ _ => trivial, ?_⟩
    rw [semAt_plain rfl, run_yieldCall hte e2 (by rw [← e3]; simp)]
    refine ⟨fun e => by simp [wd, Fence.wide] at e, trivial, fun c cs _ => ?_⟩
    obtain ⟨e, w2, ⟨u', v, st2, g2, he, hx2, hw2, hv2, hK⟩, hc⟩ := e4.2 c cs (room_wide _)
    subst he
    refine ⟨.returned u', w2, ?_, hc⟩
    have hf2 : RelF n g2 ((d, v) :: σ1) (({ tmps := t', defers := [] } : Act).put (some d) u') := (hf1.mono hx2.le).put (blt_lt hd) hv2
    have := list_in (ro := ro) (P := P) (ops := l.toArray) (l2 := []) (ds := a.defers) (Qx := fun e a' w' => ∃ g' σ' st' ms', g.ext g' ∧ RelF n g' σ' { a' with defers := [] } ∧ Marks g' ms' a'.defers ∧ RelW g' (st' ++ F) w' ∧ Q e ms' σ' st')
      (fun a w ⟨_, _, _, _, hf', _⟩ => hf'.defers) l2 (List.all_eq_true.1 hp2) (t'.setIfInBounds d u') w2 (hK F g2 _ w2 hf2 hw2) (fun t' w' ⟨g', σ', st', hx, hf', hw', hq⟩ => ⟨g', σ', st', ms, (hx1.trans hx2).trans hx, hf', (hm.mono (hx1.trans (hx2.trans hx)).le), hw', hq⟩)
    rw [List.append_nil] at this
    exact this
end code
end Go.Aw

/- An abstract walk: ranges over a function (2): rounds, the statement, the function's body. -/
namespace Go.Aw
open Go.RowKit (Below)

/-- The frame of a round: the loop's variables on top of the frame at the loop. -/
def psFr : List Tmp → List AV → Fr → Fr
  | p :: ps, v :: vs, σ => psFr ps vs ((p, v) :: σ)
  | _, _, σ => σ
theorem psFr_rel {n : Nat} {g : Ghost} : ∀ (ps : List Tmp) (avs : List AV) (vs : List Value) (σ : Fr) (T : Array Value), RelF n g σ ⟨T, []⟩ → (∀ p ∈ ps, p < n) → avs.length = ps.length → holdsL g avs vs →
    RelF n g (psFr ps avs σ) ⟨(ps.zip vs).foldl (fun t (p, v) => t.setIfInBounds p v) T, []⟩
  | [], [], [], σ, T, h, _, _, _ => h
  | p :: ps, a :: avs, v :: vs, σ, T, h, hp, hl, ⟨h1, h2⟩ =>
    psFr_rel ps avs vs ((p, a) :: σ) (T.setIfInBounds p v) (h.put (a := ⟨T, []⟩) (hp p (by simp)) h1) (fun q hq => hp q (by simp [hq])) (by simpa using hl) h2
  | [], [], _ :: _, _, _, _, _, _, h => h.elim
  | [], _ :: _, _, _, _, _, _, hl, _ => by simp at hl
  | _ :: _, [], _, _, _, _, _, hl, _ => by simp at hl
  | _ :: _, _ :: _, [], _, _, _, _, _, h => h.elim

theorem grownBy_put (W : World) (l : Nat) (o : Obj) : W.grownBy (W.putObj l o) (some l) :=
  ⟨rfl, rfl, rfl, by simp, fun k _ hk => World.putObj_heap_other (fun e => hk (by rw [e]))⟩
theorem RelW.putRaw {g : Ghost} {st : List Item} {w : World} {i : Nat} {o o' : Obj} (h : RelW g (.raw i o :: st) w) {b p s : Nat} (hl : g.loc i = some (b, p, s)) : RelW g (.raw i o' :: st) (w.putObj b o') := by
  have ho := h.items _ (List.mem_cons_self ..)
  obtain ⟨b', p', s', e1, e2, e3, e4⟩ := ho
  rw [hl] at e1; cases e1
  have hb : (Item.raw i o).blk g = some b := by simp [Item.blk, Item.id?, hl]
  have hlt : b < w.heap.size := (Array.getElem?_eq_some_iff.1 e2).1
  refine RelW.cons (h.tailOf.evolve (row := some b) (Ghost.le.refl g) (grownBy_put w b o') (fun c hc => by cases hc; exact e4) (fun c k v hv => .inl ⟨hv, fun e => by cases e; rw [e3] at hv; cases hv⟩)
    (fun it hi c hc => ⟨fun e => by cases e; exact h.head_notin hb it hi hc, fun _ => rfl⟩) h.fresh) ⟨b, p, s, hl, World.putObj_heap_same hlt, e3, e4⟩ ?_
  intro c hc x hx e
  have : (Item.raw i o').blk g = some b := by simp [Item.blk, Item.id?, hl]
  rw [this] at hc; cases hc
  exact h.head_notin hb x hx e
theorem RelW.rawAt {g : Ghost} {st : List Item} {w : World} {i : Nat} {o : Obj} (h : RelW g (.raw i o :: st) w) {b p s : Nat} (hl : g.loc i = some (b, p, s)) : w.heap[b]? = some o := by
  obtain ⟨b', p', s', e1, e2, _⟩ := h.items _ (List.mem_cons_self ..)
  rw [hl] at e1; cases e1; exact e2
theorem RelW.allocRaw {g : Ghost} {st : List Item} {w : World} (h : RelW g st w) {i : Nat} (hi : g.loc i = none) (o : Obj) :
    RelW (g.setLoc i (w.heap.size, 0, 0)) (.raw i o :: st) (w.alloc o) := by
  have hle := Ghost.le_setLoc (g := g) (i := i) (x := (w.heap.size, 0, 0)) hi
  refine RelW.cons (h.evolve (row := none) hle (World.grownBy_alloc w _ none) (fun b hb => by cases hb) (fun b o v hv => .inl ⟨hv, by simp⟩) (fun it _ b _ => ⟨by simp, fun _ => rfl⟩) (h.fresh_setLoc i _)) ?_ ?_
  · exact ⟨w.heap.size, 0, 0, Ghost.setLoc_same, heap_alloc_new w _, fun o => h.noCom (Nat.le_refl _), h.hB⟩
  · intro b hb x hx e
    simp [Item.blk, Item.id?, Ghost.setLoc_same] at hb
    subst hb
    rw [Item.blk_le (h.items x hx) hle] at e
    exact absurd (h.blk_ne hx e).1 (Nat.lt_irrefl _)

/-- The record of a loop. -/
abbrev lrec (fn : FuncId) (T : Array Value) (ps : Array Tmp) (assign body : Code) (D : Nat) (s : LoopState) (j : Option Code) : Obj := .loop { state := s, pending := j, fn, tmps := T, params := ps, assign, body, defers := D }
/-- How a round may end. -/
def roundX (i : Nat) (rec : LoopState → Option Code → Obj) (Qy : AV → List Item → Prop) : Exit → List Nat → Fr → List Item → Prop
  | .normal, ms, _, st => Qy (.bool true) (.raw i (rec .ready none) :: st)
  | .ret, ms, _, st => Qy (.bool false) (.raw i (rec .done (some .ret)) :: st)
  | .exit id, ms, _, st => Qy (.bool false) (.raw i (rec .done (some (.exit id))) :: st)
  | _, _, _, _ => False
section
variable {P : Program} {n : Nat} {σ : Fr} {st : List Item}
theorem AYields.round {i : Nat} {T : Array Value} {fn : FuncId} {ps : Array Tmp} {assign body : Code} {D : Nat} {RS : LoopState → Option Code → Obj} (hRS : RS = lrec fn T ps assign body D) {avs : List AV} {Qy : AV → List Item → Prop} (hps : ∀ p ∈ ps.toList, p < n) (hlen : avs.length = ps.toList.length)
    (h : ∀ l, AWX (some l) P n assign [] (psFr ps.toList avs σ) st (thenX (fun ms σ1 st1 => ms = [] ∧ AWX (some l) P n body [] σ1 st1 (roundX i RS Qy)) (fun _ _ _ _ => False))) :
    AYields P (.yld i n σ T) avs (.raw i (RS .ready none) :: st) Qy := fun F g w u vs hw hu hv => by
  subst hRS
  obtain ⟨b, p, s, hl, rfl, hf⟩ := AV.yld_holds.1 hu
  have hw0 : RelW g (.raw i (lrec fn T ps assign body D .ready none) :: (st ++ F)) w := hw
  have hat := hw0.rawAt hl
  refine ⟨b, _, rfl, hat, by rw [← hv.length, hlen]; simp, ?_⟩
  have hfr := psFr_rel ps.toList avs vs σ T hf hps hlen hv
  have hfold : (ps.zip vs.toArray).foldl (fun t (x : Tmp × Value) => t.setIfInBounds x.1 x.2) T = (ps.toList.zip vs).foldl (fun t (x : Tmp × Value) => t.setIfInBounds x.1 x.2) T := by
    rw [← Array.foldl_toList, Array.toList_zip]
  refine roundIn_of_wpIn (F := Fence.wide) (n := 0) trivial ?_
  have hw1 : RelW g (st ++ (.raw i (lrec fn T ps assign body D .ready none) :: F)) w := hw0.perm List.perm_middle.symm
  have h1 := h b (.raw i (lrec fn T ps assign body D .ready none) :: F) g ⟨(ps.zip vs.toArray).foldl (fun t (x : Tmp × Value) => t.setIfInBounds x.1 x.2) T, []⟩ w (by rw [hfold]; exact hfr) trivial hw1
  refine wpIn_mono h1 ?_
  rintro e a1 w1 ⟨g1, σ1, st1, ms1, hx1, hf1, hm1, hw1, hq⟩
  cases e with
  | normal =>
    obtain ⟨rfl, hb⟩ := hq
    have hl1 := hx1.le.loc _ _ hl
    have hw2 : RelW g1 (.raw i (lrec fn T ps assign body D .ready none) :: (st1 ++ F)) w1 := hw1.perm List.perm_middle
    refine ⟨_, run_beginRound (hw2.rawAt hl1) rfl, ?_⟩
    have hw3 := hw2.putRaw (o' := lrec fn T ps assign body D .busy none) hl1
    have hw4 : RelW g1 (st1 ++ (.raw i (lrec fn T ps assign body D .busy none) :: F)) (w1.putObj b (lrec fn T ps assign body D .busy none)) := hw3.perm List.perm_middle.symm
    refine wpIn_mono (hb (.raw i (lrec fn T ps assign body D .busy none) :: F) g1 a1 _ hf1 hm1 hw4) ?_
    rintro e2 a2 w2 ⟨g2, σ2, st2, ms2, hx2, hf2, hm2, hw5, hq2⟩
    have hl2 := hx2.le.loc _ _ hl1
    have hw6 : RelW g2 (.raw i (lrec fn T ps assign body D .busy none) :: (st2 ++ F)) w2 := hw5.perm List.perm_middle
    cases e2 with
    | normal => exact ⟨_, _, run_endRound none (hw6.rawAt hl2), _, .bool true, _, g2, rfl, hx1.trans hx2, hw6.putRaw hl2, AV.val_self _, hq2⟩
    | ret => exact ⟨_, _, run_endRound (some .ret) (hw6.rawAt hl2), _, .bool false, _, g2, rfl, hx1.trans hx2, hw6.putRaw hl2, AV.val_self _, hq2⟩
    | exit id => exact ⟨_, _, run_endRound (some (.exit id)) (hw6.rawAt hl2), _, .bool false, _, g2, rfl, hx1.trans hx2, hw6.putRaw hl2, AV.val_self _, hq2⟩
    | goto t => exact hq2.elim
    | panic c => exact hq2.elim
    | outgrown => exact hq2.elim
  | _ => exact hq.elim

/-- What follows the statement: on, or the jump that a round has left. -/
def afterX (P : Program) (n : Nat) (ms : List Nat) (σ : Fr) (st : List Item) (Q : Exit → List Nat → Fr → List Item → Prop) : Option Code → Prop
  | none => Q .normal ms σ st
  | some c => AWX none P n c ms σ st Q
/-- The statement 'for .. := range f { .. }', not within a round. -/
theorem awx_rangeFunc {t : Tmp} {ps : Array Tmp} {assign body : Code} {fv : AV} {G : FuncId} {caps : List AV} [hF : Fun fv G caps] {ms : List Nat} {Q : Exit → List Nat → Fr → List Item → Prop} (hf : look σ t = some fv)
    (h : ∀ (iL iD : Nat) (T : Array Value) (fn : FuncId) (D : Nat) (RS : LoopState → Option Code → Obj) (hRS : RS = lrec fn T ps assign body D), ACalls P G ([AV.yld iL n σ T] ++ caps) (.raw iL (RS .ready none) :: .raw iD (.deferred (some [])) :: st)
      (fun v st' => ∃ s j stx, st'.Perm (.raw iL (RS s j) :: stx) ∧ s ≠ .busy ∧ afterX P n (iD :: ms) σ stx Q j)) :
    AWX none P n (.rangeFunc (.tmp t) ps assign body) ms σ st Q := fun F g a w hfr hm hw => by
  refine wpIn_rangeFunc fun fn _ => ?_
  obtain ⟨u, hu1, hu2⟩ := hfr.slot _ _ hf
  obtain ⟨us, hu3, hus⟩ := AV.clo_holds.1 (hF.imp _ _ hu2)
  have hu1' : a.tmps[t]? = some u := hu1
  have hev : a.eval (.tmp t) = .func (.func G) #[] us.toArray := by
    show a.tmps.getD t undef = _
    rw [Array.getD_eq_getD_getElem?, hu1', hu3]; rfl
  -- the two blocks
  have hw0 : RelW g (st ++ F) w := hw
  have hD := hw0.fresh g.next (Nat.le_refl _)
  have hw1 := hw0.allocRaw hD (.deferred (some []))
  have hx1 : g.ext (g.setLoc g.next (w.heap.size, 0, 0)) := (Ghost.to_setLoc hD).ext (Nat.le_refl _)
  generalize hg1 : g.setLoc g.next (w.heap.size, 0, 0) = g1 at hw1 hx1
  have hlD : g1.loc g.next = some (w.heap.size, 0, 0) := by rw [← hg1]; exact Ghost.setLoc_same
  have hL := hw1.fresh g1.next (Nat.le_refl _)
  have hw2 := hw1.allocRaw hL (lrec fn a.tmps ps assign body w.heap.size .ready none)
  have hx2 := (Ghost.to_setLoc (x := ((w.alloc (.deferred (some []))).heap.size, 0, 0)) hL).ext (Nat.le_refl _)
  have hlL := Ghost.setLoc_same (g := g1) (i := g1.next) (x := ((w.alloc (.deferred (some []))).heap.size, 0, 0))
  generalize hg2 : g1.setLoc g1.next ((w.alloc (.deferred (some []))).heap.size, 0, 0) = g2 at hw2 hx2 hlL
  rw [World.size_alloc] at hlL
  have hx := hx1.trans hx2
  have hlD2 := hx2.le.loc _ _ hlD
  generalize hW : (w.alloc (.deferred (some []))).alloc (lrec fn a.tmps ps assign body w.heap.size .ready none) = W at hw2
  refine ⟨w.heap.size + 1, [{ target := .collected w.heap.size, args := #[] }], W, { target := .fn (.func G) us.toArray, args := #[.func (.yield (w.heap.size + 1)) #[] #[]] }, W, G,
    #[.func (.yield (w.heap.size + 1)) #[] #[]] ++ us.toArray, W, by rw [← hW]; exact run_enterLoop_outer _ _ _ _ _, ?_, fun _ _ => trivial, ?_, fun e => by simp [wd, Fence.wide] at e, ?_⟩
  · simp only [resolve, hev]
    simp [go_sem]
  · simp only [invoke]
    rw [run_callFunc (h 0 0 #[] 0 0 _ rfl).1]
  · have hH := (h g1.next g.next a.tmps fn w.heap.size _ rfl).2 F g2 _ (.func (.yield (w.heap.size + 1)) #[] #[] :: us) (by simpa using hw2) (by
      refine ⟨AV.yld_holds.2 ⟨_, _, _, hlL, rfl, hfr.mono hx.le⟩, hus.mono hx.le⟩)
    have hargs : (#[.func (.yield (w.heap.size + 1)) #[] #[]] ++ us.toArray : Array Value) = (.func (.yield (w.heap.size + 1)) #[] #[] :: us).toArray := by apply Array.ext'; simp
    rw [hargs]
    refine callsIn_wd (hH.mono ?_)
    rintro e w3 ⟨u', v, st', g3, rfl, hx3, hw3, _, s, j, stx, hpm, hs, hj⟩
    have hl3 := hx3.le.loc _ _ hlL
    have hw3' : RelW g3 (.raw g1.next (lrec fn a.tmps ps assign body w.heap.size s j) :: (stx ++ F)) w3 := hw3.perm (hpm.append_right F)
    have hw4 := (hw3'.putRaw (o' := lrec fn a.tmps ps assign body w.heap.size .exhausted j) hl3).tailOf
    have hxx := hx.trans hx3
    have hmk : Marks g3 (g.next :: ms) ([{ target := .collected w.heap.size, args := #[] }] ++ a.defers) := ⟨⟨_, _, _, hx3.le.loc _ _ hlD2, rfl⟩, hm.mono hxx.le⟩
    have hfr3 : RelF n g3 σ { a with defers := [] } := hfr.mono hxx.le
    refine ⟨j, _, run_endLoop (hw3'.rawAt hl3) hs, ?_⟩
    cases j with
    | none => exact ⟨g3, σ, stx, _, hxx, hfr3, hmk, hw4, hj⟩
    | some c => exact wpx_ext hxx (hj F g3 { a with defers := [{ target := .collected w.heap.size, args := #[] }] ++ a.defers } _ hfr3 hmk hw4)

/-! ### Loops; a function's body -/
theorem awx_loop2 {ro : Option Nat} {c : Code} {ms : List Nat} {Q : Exit → List Nat → Fr → List Item → Prop} {X : Type} (ts : List Nat) {σk : Fr} (hk : Keeps σ ts σk) {rest : List Item} (mod : Fr → X → Fr) (mit : List Item → X → List Item) (dom : X → Prop) (μ : X → Nat) (x0 : X) (hstart : Weak n σ st (mod σk x0) (mit rest x0)) (h0 : dom x0)
    (hround : ∀ x, dom x → AWX ro P n c ms (mod σk x) (mit rest x) (thenX (fun ms' σ' st' => ms' = ms ∧ ∃ x', dom x' ∧ μ x' < μ x ∧ Weak n σ' st' (mod σk x') (mit rest x')) Q)) : AWX ro P n (.loop c) ms σ st Q := by
  intro F g a w hf hm hw
  obtain ⟨g0, hx0, hf0, hw0⟩ := hstart F g _ w hf hw
  -- the marks stay; the states are carried by the invariant
  let I : Act → World → Nat → Prop := fun a w m => ∃ x g1, dom x ∧ μ x = m ∧ g.ext g1 ∧ RelF n g1 (mod σk x) { a with defers := [] } ∧ Marks g1 ms a.defers ∧ RelW g1 (mit rest x ++ F) w
  have key : ∀ m a w, I a w m → ∀ (b : Frame) (k : List Go.Item) (cs : List Frame), b.roundOf = (wd ro).round → (wd ro).fn b.fn → (wd ro).room (cs.length + 1 + 0) →
      ∃ e a' w', (∃ g' σ' st' ms', g.ext g' ∧ RelF n g' σ' { a' with defers := [] } ∧ Marks g' ms' a'.defers ∧ RelW g' (st' ++ F) w' ∧ Q e ms' σ' st') ∧ ArrivesIn (Machine.fenced P (wd ro)) P (lone (b.atR a (.code c :: .inLoop c :: k)) cs w) b k cs e a' w' := by
    intro m
    induction m using Nat.strongRecOn with
    | _ m ih =>
      rintro a w ⟨x, g1, hd, hmx, hx1, hf1, hm1, hw1⟩ b k cs hro hb hr
      obtain ⟨e, a₁, w₁, ⟨g', σ', st', ms', hx, hf', hm', hw', hq⟩, harr⟩ := hround x hd F g1 a w hf1 hm1 hw1 b (.inLoop c :: k) cs hro hb hr
      cases e with
      | normal =>
        obtain ⟨rfl, x', hd', hlt, hwk⟩ := hq
        obtain ⟨g2, hx2, hf2, hw2⟩ := hwk F g' _ w₁ hf' hw'
        obtain ⟨e₂, a₂, w₂, hq₂, harr₂⟩ := ih (μ x') (hmx ▸ hlt) a₁ w₁ ⟨x', g2, hd', rfl, (hx1.trans hx).trans hx2, hf2, hm'.mono hx2.le, hw2⟩ b k cs hro hb hr
        exact ⟨e₂, a₂, w₂, hq₂, .of_steps (StepsIn.trans harr (.one (fenced_calm hb hr rfl) stepR_inLoop)) harr₂⟩
      | exit id => exact ⟨_, a₁, w₁, ⟨g', σ', st', ms', hx1.trans hx, hf', hm', hw', hq⟩, .pass (x := .inLoop c) rfl (fun _ _ => .inl (by simp)) harr⟩
      | goto l => exact ⟨_, a₁, w₁, ⟨g', σ', st', ms', hx1.trans hx, hf', hm', hw', hq⟩, .pass (x := .inLoop c) rfl (fun _ _ => .inl (by simp)) harr⟩
      | ret => exact ⟨_, a₁, w₁, ⟨g', σ', st', ms', hx1.trans hx, hf', hm', hw', hq⟩, .pass (x := .inLoop c) rfl (fun _ _ => .inl (by simp)) harr⟩
      | panic ch => exact ⟨_, a₁, w₁, ⟨g', σ', st', ms', hx1.trans hx, hf', hm', hw', hq⟩, .pass (x := .inLoop c) rfl (fun _ _ => .inl (by simp)) harr⟩
      | outgrown => exact ⟨_, a₁, w₁, ⟨g', σ', st', ms', hx1.trans hx, hf', hm', hw', hq⟩, .pass (x := .inLoop c) rfl (fun _ _ => .inl (by simp)) harr⟩
  intro b k cs hro hb hr
  obtain ⟨e, a', w', hq, harr⟩ := key _ a w ⟨x0, g0, h0, rfl, hx0, hf0, hm.mono hx0.le, hw0⟩ b k cs hro hb hr
  exact ⟨e, a', w', hq, .of_steps (.one (fenced_calm hb hr rfl) stepR_loop) harr⟩

/-- The items of the marks. -/
def markIts (ms : List Nat) : List Item := ms.map fun m => .raw m (.deferred (some []))
def RetX (P : Program) (rs : List ResultVar) (Q : AV → List Item → Prop) (e : Exit) (ms : List Nat) (σ : Fr) (st : List Item) : Prop :=
  (e = .normal ∨ e = .ret) ∧ ∃ st1, st.Perm (markIts ms ++ st1) ∧ ∃ vs, ResAll P σ st1 rs vs ∧ ∃ v st', VShift (shutRes vs) st1 v st' ∧ Q v st'
theorem leaves_marks {fn : Func} {tmps : Array Value} {R : Ending → World → Prop} {g : Ghost} {rest : List Item} (hend : ∀ w, RelW g rest w → ∃ v, (results fn tmps).run P w = .ok v w ∧ R (.returned v) w) :
    ∀ (ms : List Nat) (ds : List Deferred) (w : World), Marks g ms ds → RelW g (markIts ms ++ rest) w → LeavesInM (wd none) 0 P fn tmps R ds .returning w
  | [], [], w, _, hw => hend w hw
  | m :: ms, d :: ds, w, ⟨⟨b, p, s, hl, hd⟩, hm⟩, hw => by
    have hw' : RelW g (.raw m (.deferred (some [])) :: (markIts ms ++ rest)) w := hw
    refine ⟨by simp, .inl ⟨b, _, by rw [hd], run_takeDeferred (hw'.rawAt hl), ?_⟩⟩
    exact leaves_marks hend ms ds _ hm (hw'.putRaw (o' := .deferred none) hl).tailOf
  | [], _ :: _, _, h, _ => h.elim
  | _ :: _, [], _, h, _ => h.elim
theorem acallsX_body {f : FuncId} {fn : Func} {c : Code} {args : List AV} {Q : AV → List Item → Prop}
    (hf : P.funcs[f]? = some fn) (hc : callable P f = true) (hb : fn.body = some c) (hn : fn.ntmps = n) (hl : args.length ≤ n)
    (h : AWX none P n c [] (initFr 0 args) st (RetX P fn.results.toList Q)) : ACalls P f args st Q := by
  refine ⟨hc, fun F g w vs hw hv => (callsIn_wide (n := 0)).1 (callsIn_of_wp_marks (F := Fence.wide) hf hb trivial (wpIn_mono (h F g _ w ?_ trivial hw) ?_))⟩
  · have hlen := hv.length
    refine ⟨by simp; omega, rfl, fun t v e => ?_⟩
    obtain ⟨_, h2⟩ := look_initFr args 0 t v e
    obtain ⟨u, p, q⟩ := hv.get _ _ h2
    refine ⟨u, ?_, q⟩
    simp only [Nat.sub_zero] at p
    have hlt : t < vs.length := by
      rcases Nat.lt_or_ge t vs.length with h | h
      · exact h
      · simp [List.getElem?_eq_none h] at p
    simp only [List.size_toArray, Array.getElem?_append, if_pos hlt]
    simpa using p
  · rintro e a' w' ⟨g', σ', st', ms', hx, hf', hm', hw', he, st1, hp, avs, hres, v, st'', hsh, hq⟩
    have key : LeavesInM (wd none) 0 P fn a'.tmps (fun e w' => ∃ u v st' g', e = Ending.returned u ∧ g.ext g' ∧ RelW g' (st' ++ F) w' ∧ v.holds g' u ∧ Q v st') a'.defers .returning w' := by
      refine leaves_marks (rest := st1 ++ F) (fun w2 hw2 => ?_) ms' a'.defers w' hm' (by rw [← List.append_assoc]; exact hw'.perm (hp.append_right F))
      obtain ⟨us, k1, k2⟩ := run_results hf' hw2 hres
      have hrun : (results fn a'.tmps).run P w2 = .ok (if h : us.toArray.size = 1 then us.toArray[0] else .tuple us.toArray) w2 := by
        unfold results
        rw [← Array.toArray_toList (xs := fn.results), List.mapM_toArray, Sem.run_bind]
        change Result.andThen (Sem.run P (List.mapM _ fn.results.toList >>= fun x => pure x.toArray) w2) _ = _
        rw [Sem.run_bind]
        exact congrArg (fun r => Result.andThen (Result.andThen r (fun a w' => Sem.run P (pure a.toArray) w')) (fun a w' => Sem.run P (pure (if h : a.size = 1 then a[0] else Value.tuple a)) w')) k2
      obtain ⟨g'', hx'', hw'', hv''⟩ := hsh F g' _ w2 hw2 (shutRes_holds k1)
      exact ⟨_, hrun, _, v, st'', g'', rfl, hx.trans hx'', hw'', hv'', hq⟩
    rcases he with rfl | rfl
    · exact key
    · exact key
end
end Go.Aw

/- An abstract walk: ranges over a function (3): small steps. -/
namespace Go.Aw
section
variable {P : Program} {n : Nat} {σ : Fr} {st : List Item} {Q : Exit → List Nat → Fr → List Item → Prop}
/-- Code without such a statement, ahead of the first one. -/
theorem awx_of_awp {c : Code} (h : AWP P n c σ st (fun e σ' st' => Q e [] σ' st')) : AWX none P n c [] σ st Q := fun F g a w hf hm hw => by
  have hd : a.defers = [] := by
    cases hds : a.defers with
    | nil => rfl
    | cons d ds => rw [hds] at hm; exact hm.elim
  have ha : ({ a with defers := [] } : Act) = a := by cases a; simp_all
  have h2 := h F g a w (by rw [← ha]; exact hf) hw
  refine (wpIn_wide (n := 0)).2 (Code.wp_mono ?_ h2)
  rintro e a' w' ⟨g', σ', st', x, y, z, q⟩
  refine ⟨g', σ', st', [], x, ?_, ?_, z, q⟩
  · have : ({ a' with defers := [] } : Act) = a' := by have := y.defers; cases a'; simp_all
    rw [this]; exact y
  · rw [y.defers]; trivial
end
theorem retX {P : Program} {rs : List ResultVar} {Q : AV → List Item → Prop} {e : Exit} {ms : List Nat} {σ : Fr} {st st1 : List Item} {vs : List AV} {v : AV} {st' : List Item} (he : e = .normal ∨ e = .ret) (hp : st.Perm (markIts ms ++ st1)) (h : ResAll P σ st1 rs vs) (hs : VShift (shutRes vs) st1 v st') (hq : Q v st') : RetX P rs Q e ms σ st :=
  ⟨he, st1, hp, vs, h, v, st', hs, hq⟩
end Go.Aw
namespace Go.Aw
section
variable {ro : Option Nat} {P : Program} {n : Nat} {σ : Fr} {st : List Item} {ms : List Nat} {Q : Exit → List Nat → Fr → List Item → Prop}
/-- A region whose operation k calls yield. -/
theorem awx_regionYk {id : Nat} {l : List Oper} (k : Nat) {d t : Nat} {args : Array Operand} {ts : Array TypeId} {ty : TypeId} {pos : String} {after : Array Edge}
    (hk : l[k]? = some ⟨some d, .call { callee := .value (.tmp t), args := args, argTypes := ts }, ty, pos, after, none⟩) (hp : l.all plainOp = true) (hd : Nat.blt d n = true)
    (h : AOps P n l.toArray (l.take k) σ st (fun σ1 st1 => ∃ yv vs, look σ1 t = some yv ∧ EvL σ1 args.toList vs ∧ AYields P yv vs st1 (fun v st2 => AOps P n l.toArray (l.drop (k + 1)) ((d, v) :: σ1) st2 (fun σ' st' => Q .normal ms σ' st')))) :
    AWX ro P n (.region id l.toArray false) ms σ st Q := by
  have hlt : k < l.length := by
    rcases Nat.lt_or_ge k l.length with h | h
    · exact h
    · rw [List.getElem?_eq_none h] at hk; cases hk
  have hg : l[k] = ⟨some d, .call { callee := .value (.tmp t), args := args, argTypes := ts }, ty, pos, after, none⟩ := by
    rw [List.getElem?_eq_getElem hlt] at hk; exact Option.some.inj hk
  have hp' := List.all_eq_true.1 hp
  refine awx_regionY (l1 := l.take k) (l2 := l.drop (k + 1)) (d := d) (t := t) (args := args) (ts := ts) (ty := ty) (pos := pos) (after := after) ?_ (List.all_eq_true.2 fun o ho => hp' o (List.mem_of_mem_take ho)) (List.all_eq_true.2 fun o ho => hp' o (List.mem_of_mem_drop ho)) hd h
  rw [← hg, ← List.drop_eq_getElem_cons hlt, List.take_append_drop]
end
end Go.Aw

/- An abstract walk: ranges over a function (4): regions whose order is open, in a round and behind such a statement. -/
namespace Go.Aw
section
variable {P : Program} {n : Nat} {ops : Array Oper} {A : List Item}
theorem anyUpon_defers {R : Act → World → Prop} (hR : ∀ a w, R a w → a.defers = []) : ∀ (fuel : Nat) (L : Array Bool) (a : Act) (w : World), a.defers ≠ [] → wpAny P .any ops (fun e a' w' => e = .normal ∧ R a' w') fuel L a w → False
  | 0, L, a, w, hd, h => hd (hR _ _ h.2.2)
  | fuel + 1, L, a, w, hd, h => by
    have ih := anyUpon_defers (R := R) hR fuel
    obtain ⟨h0, h1⟩ := h
    cases hr : Region.ready .any ops L with
    | nil => exact hd (hR _ _ (h0 hr).2)
    | cons i is =>
      have h := h1 i (by rw [hr]; simp)
      unfold wpOp at h
      split at h
      · exact ih _ _ _ hd h
      · rename_i o ho
        have hput : ∀ (a : Act) (d : Option Tmp) (v : Value), a.defers ≠ [] → (a.put d v).defers ≠ [] := fun a d v h => by cases d <;> exact h
        split at h
        · rcases h with h | ⟨_, a0, w0, e, _⟩
          · unfold Oper.wp at h
            generalize (execOp a.eval o).run P w = r at h
            cases r with
            | halt x w' => cases x <;> simp only [Oper.upon] at h <;> first | exact h | (obtain ⟨e, _⟩ := h; cases e)
            | ok x w' =>
              cases x <;> simp only [Oper.upon] at h <;> first
                | exact h
                | exact ih _ _ _ (hput _ _ _ hd) h
                | exact ih _ _ _ (hput _ _ _ (by simp)) h
                | (obtain ⟨e, w2, fr, hr, _⟩ := h []
                   cases e with
                   | returned v => exact ih _ _ _ (hput _ _ _ hd) hr
                   | panicked c => obtain ⟨e, _⟩ := hr; cases e
                   | outgrown => obtain ⟨_, _, e, _⟩ := hr; cases e)
                | (obtain ⟨v, w2, hr, _⟩ := h default []
                   exact ih _ _ _ (hput _ _ _ hd) hr)
          · cases e
        · exact ih _ _ _ (hput _ _ _ hd) h
theorem any_in {ro : Option Nat} {R : Act → World → Prop} {Qx : Exit → Act → World → Prop} {ds : List Deferred} (hR : ∀ a w, R a w → a.defers = []) (hp : ∀ o ∈ ops.toList, plainOp o = true)
    (hk : ∀ t' w', R ⟨t', []⟩ w' → Qx .normal ⟨t', ds⟩ w') : ∀ (fuel : Nat) (L : Array Bool) (t : Array Value) (w : World),
    wpAny P .any ops (fun e a' w' => e = .normal ∧ R a' w') fuel L ⟨t, []⟩ w → wpAnyIn (wd ro) 0 P .any ops Qx fuel L ⟨t, ds⟩ w
  | 0, L, t, w, h => ⟨h.1, hk _ _ h.2.2⟩
  | fuel + 1, L, t, w, h => by
    have ih := any_in (ro := ro) (R := R) (Qx := Qx) (ds := ds) hR hp hk fuel
    obtain ⟨h0, h1⟩ := h
    refine ⟨fun hr => hk _ _ (h0 hr).2, fun i hi => ?_⟩
    have h := h1 i hi
    unfold wpOp at h
    unfold wpOpIn
    cases hoi : ops[i]? with
    | none => rw [hoi] at h; exact ih _ _ _ h
    | some o =>
      rw [hoi] at h
      simp only at h ⊢
      have ho := hp o (by
        obtain ⟨hlt, e⟩ := Array.getElem?_eq_some_iff.1 hoi
        rw [← e]; simp)
      have hput : ∀ (v : Value), ∃ t', (⟨t, []⟩ : Act).put o.dst v = ⟨t', []⟩ ∧ (⟨t, ds⟩ : Act).put o.dst v = ⟨t', ds⟩ := fun v => by
        cases o.dst with
        | none => exact ⟨t, rfl, rfl⟩
        | some d => exact ⟨t.setIfInBounds d v, rfl, rfl⟩
      by_cases hwn : Region.wanted o (yielded ops t) = true
      · rw [if_pos hwn] at h
        rw [if_pos hwn]
        refine ⟨fun f _ => trivial, ?_⟩
        rcases h with h | ⟨_, a0, w0, e, _⟩
        · unfold Oper.wp at h
          rw [semAt_plain ho]
          have hev : (⟨t, ds⟩ : Act).eval = (⟨t, []⟩ : Act).eval := by funext x; cases x <;> rfl
          rw [hev]
          generalize (execOp (⟨t, []⟩ : Act).eval o).run P w = r at h
          cases r with
          | halt x w' => cases x <;> simp only [Oper.upon] at h <;> first | exact h.elim | (obtain ⟨e, _⟩ := h; cases e)
          | ok x w' =>
            cases x with
            | value v =>
              obtain ⟨t', e1, e2⟩ := hput v
              simp only [Oper.upon, e1] at h
              simp only [Oper.uponIn, e2]
              exact ih _ _ _ h
            | skip =>
              obtain ⟨t', e1, e2⟩ := hput undef
              simp only [Oper.upon, e1] at h
              simp only [Oper.uponIn, e2]
              exact ih _ _ _ h
            | defer d =>
              simp only [Oper.upon] at h
              exact (anyUpon_defers hR _ _ _ _ (by cases o.dst <;> simp [Act.put]) h).elim
            | enter f args =>
              simp only [Oper.upon] at h
              simp only [Oper.uponIn]
              refine ⟨fun e => by simp [wd, Fence.wide] at e, callsIn_wd (h.mono fun e w2 he => ?_)⟩
              cases e with
              | returned v =>
                obtain ⟨t', e1, e2⟩ := hput v
                have he' : wpAny P .any ops _ fuel (L.setIfInBounds i true) ((⟨t, []⟩ : Act).put o.dst v) w2 := he
                rw [e1] at he'
                show wpAnyIn (wd ro) 0 P .any ops Qx fuel (L.setIfInBounds i true) ((⟨t, ds⟩ : Act).put o.dst v) w2
                rw [e2]; exact ih _ _ _ he'
              | panicked c => obtain ⟨e, _⟩ := he; cases e
              | outgrown => obtain ⟨_, _, e, _⟩ := he; cases e
            | row r args =>
              simp only [Oper.upon] at h
              simp only [Oper.uponIn]
              refine ⟨fun e => by simp [wd, Fence.wide] at e, rowsIn_wd (h.mono fun v w2 he => ?_)⟩
              obtain ⟨t', e1, e2⟩ := hput v
              rw [e1] at he; rw [e2]; exact ih _ _ _ he
            | _ => simp only [Oper.upon] at h
        · cases e
      · rw [if_neg hwn] at h
        rw [if_neg hwn]
        obtain ⟨t', e1, e2⟩ := hput undef
        rw [e1] at h; rw [e2]
        exact ⟨fun f _ => trivial, ih _ _ _ h⟩
/-- A region whose order is open: what each order comes to. -/
theorem any_wp {l : List Oper} {ks : List Kd} {σ : Fr} {st : List Item} {Q : Fr → List Item → Prop}
    (B : List Item) (hp : st.Perm (B ++ A)) (hd : ∀ K, Drv P n l.toArray K A (fun σ' B' => Q σ' (B' ++ A)) 0 l ks σ B) (hok : orderOk l.toArray ks = true)
    (F : List Item) (g : Ghost) (a : Act) (w : World) (hf : RelF n g σ a) (hw0 : RelW g (st ++ F) w) :
    wpAny P .any l.toArray (fun e a' w' => e = .normal ∧ ∃ g' σ' st', g.ext g' ∧ RelF n g' σ' a' ∧ RelW g' (st' ++ F) w' ∧ Q σ' st') l.toArray.size (Array.replicate l.toArray.size false) a { w with drawn := w.drawn + 1 } := by
  have hw : RelW g (B ++ (A ++ F)) w := by rw [← List.append_assoc]; exact hw0.perm (hp.append_right F)
  obtain ⟨vals, sts, h0, hks, hs, hq⟩ := (Drv.steps (P := P) (n := n) (ops := l.toArray) (K := g.next) (A := A) (Q := fun σ' B' => Q σ' (B' ++ A)) l [] ks [] (fun _ => .val undef) (fun _ => B) σ l ks rfl rfl rfl (fun i hi => by simp at hi) (hd g.next))
  have hbump : g.ext { g with next := g.next + l.length } := ⟨⟨rfl, rfl, fun _ _ _ h => h, fun _ _ h => h, by simp⟩, fun _ _ => rfl⟩
  have hN : l.toArray.toList = l := by simp
  have hfr : ∀ m, frS l vals σ (fun i => (Array.replicate l.toArray.size false).getD i false) m = σ := by
    intro m
    induction m with
    | zero => rfl
    | succ m ih =>
      simp only [frS]
      rw [if_neg, ih]
      simp only [Array.getD_eq_getD_getElem?, Array.getElem?_replicate]
      split <;> simp
  have hst : ∀ m, stS ks sts (fun i => (Array.replicate l.toArray.size false).getD i false) m = sts 0 := by
    intro m
    induction m with
    | zero => rfl
    | succ m ih =>
      have hno : (Array.replicate l.toArray.size false).getD m false = false := by
        simp only [Array.getD_eq_getD_getElem?, Array.getElem?_replicate]
        split <;> simp
      simp only [stS]
      rw [if_neg (by rw [hno]; simp), if_neg (by rw [hno]; simp), ih]
  refine any_run (P := P) (n := n) (ops := l.toArray) (K := g.next) (A := A) (ks := ks) (vals := vals) (sts := sts) (σ0 := σ) (F := F) (g0 := g) (by rw [hN]; exact hks) hok (by rw [hN]; exact hs) ?_ l.toArray.size _ { g with next := g.next + l.length } a _ ?_ ?_
  · intro g' a' w' hx hf' hw'
    rw [hN] at hf' hw'
    exact ⟨rfl, g', _, _, hx, hf', by rw [List.append_assoc]; exact hw', hq⟩
  · refine ⟨by simp, ?_, ?_, ?_, hbump, ?_, by simp, Nat.le_refl _⟩
    · intro j o ho hS
      simp only [Array.getD_eq_getD_getElem?, Array.getElem?_replicate] at hS
      split at hS <;> simp at hS
    · rw [hN, hfr]; exact ⟨hf.size, hf.defers, (hf.mono hbump.le).slot⟩
    · rw [hst, h0]
      exact (hw.drew).evolve (row := none) hbump.le ⟨rfl, rfl, rfl, Nat.le_refl _, fun _ _ _ => rfl⟩ (fun b hb => by cases hb) (fun b o v hv => .inl ⟨hv, by simp⟩) (fun it _ b _ => ⟨by simp, fun _ => rfl⟩) (fun i hi => hw.fresh i (by simp at hi; omega))
    · intro i hi _
      exact hw.fresh _ (Nat.le_add_right _ _)
  · simp [List.countP_replicate]
/-- A region whose order is open, in a round or behind the statement. -/
theorem awx_anyT {ro : Option Nat} {ms : List Nat} {id : Nat} {l : List Oper} {ks : List Kd} {σ : Fr} {st : List Item} {Q : Exit → List Nat → Fr → List Item → Prop} (its : List Item) (ht : Takes st its A) (hm : P.follows .mixedOrders = true) (hp : l.all plainOp = true)
    (hd : ∀ K, Drv P n l.toArray K A (fun σ' B' => Q .normal ms σ' (B' ++ A)) 0 l ks σ its) (hok : orderOk l.toArray ks = true) : AWX ro P n (.region id l.toArray true) ms σ st Q := fun F g a w hf hmk hw => by
  refine wpIn_region_any hm ?_
  have h2 := any_wp (Q := fun σ' st' => Q .normal ms σ' st') its ht.perm hd hok F g { a with defers := [] } w hf hw
  exact any_in (ro := ro) (ds := a.defers) (fun a w ⟨_, _, _, _, hf', _⟩ => hf'.defers) (by simpa using hp) (fun t' w' ⟨g', σ', st', hx, hf', hw', hq⟩ => ⟨g', σ', st', ms, hx, hf', hmk.mono hx.le, hw', hq⟩) _ _ _ _ h2
end
end Go.Aw

/- An abstract walk: values of methods with their receivers. -/
namespace Go.Aw
/-- A function whose first arguments are given. -/
@[irreducible] def AV.bnd (f : Nat) (fs : List AV) : AV := ⟨fun g v => ∃ us : List Value, v = .func (.func f) us.toArray #[] ∧ holdsL g fs us, fun h ⟨us, a, b⟩ => ⟨us, a, b.mono h⟩⟩
theorem AV.bnd_holds {f : Nat} {fs : List AV} {g : Ghost} {v : Value} : (AV.bnd f fs).holds g v ↔ ∃ us : List Value, v = .func (.func f) us.toArray #[] ∧ holdsL g fs us := by unfold AV.bnd; rfl
instance {f : Nat} {fs : List AV} : One (.bnd f fs) := ⟨fun g u e => by obtain ⟨us, rfl, _⟩ := AV.bnd_holds.1 e; rfl⟩
section
variable {P : Program} {σ : Fr} {st : List Item} {i : Nat} {d : Option Tmp} {ty : TypeId} {pos : String} {after : Array Edge} {gd : Option (Nat × Bool)} {w : World}
theorem y_bound {f : Nat} {fs : Array Operand} {vs : List AV} (hx : EvL σ fs.toList vs) : Yields P ⟨d, .makeFunc (.func f) fs #[], ty, pos, after, gd⟩ σ st i (.bnd f vs) st := fun F g a w hw hi hs => by
  have h := hx.holds hs (by simp [Op.operands])
  exact goes_value (u := .func (.func f) (fs.map a.eval) #[]) (by simp [execOp, Instr.makeFunc]) ⟨g, Ghost.to.refl g i, hw, AV.bnd_holds.2 ⟨_, by congr 1; apply Array.ext'; simp, h⟩⟩
theorem run_callB {c : Operand} {args : Array Operand} {ts : Array TypeId} {a : Act} {f : FuncId} {us : List Value} (hc : callable P f = true) (e : a.eval c = .func (.func f) us.toArray #[]) :
    (execOp a.eval ⟨d, .call { callee := .value c, args := args, argTypes := ts }, ty, pos, after, gd⟩).run P w = .ok (.enter f (us ++ args.toList.map a.eval).toArray) w := by
  simp only [execOp, resolve, Deferred.ofValue, e, Sem.run_bind, Sem.run_pure, Result.andThen_ok, invoke]
  rw [run_callFunc hc]
  congr 2
  apply Array.ext'
  simp
theorem y_callB {c : Operand} {args : Array Operand} {ts : Array TypeId} {f : FuncId} {fs vs : List AV} {v : AV} {st' : List Item} (hc : Ev σ c (.bnd f fs)) (hargs : EvL σ args.toList vs)
    (h : ACalls P f (fs ++ vs) st (fun v' st'' => v' = v ∧ st'' = st')) : Yields P ⟨d, .call { callee := .value c, args := args, argTypes := ts }, ty, pos, after, gd⟩ σ st i v st' := fun F g a w hw hi hs => by
  obtain ⟨us, e, hus⟩ := AV.bnd_holds.1 (hc.holds hs (by simp [Op.operands, Call.operands]))
  have hv := hargs.holds hs (fun x hx => by simp [Op.operands, Call.operands]; right; simpa using hx)
  refine goes_call (run_callB h.1 e) ((h.2 F g w _ hw (hus.append hv)).mono fun e' w' ⟨u, v', st'', g', he, hx, hw', hv', hq, hst⟩ => ?_)
  subst hq hst
  exact ⟨u, he, g', hx.to i, hw', hv'⟩
end
end Go.Aw

/- An abstract walk: growing rows of the function's own, that are written in place. -/
namespace Go.Aw
open Go.RowKit (Below)
/-- A slice of n elements at the beginning of the row t, with the row's whole room. -/
@[irreducible] def AV.vec (sz : Nat) (t : Option Nat) (n : Nat) : AV := ⟨fun g v => match t with
  | none => (∃ x, v = .slice x 0 0) ∧ n = 0
  | some j => ∃ b p s cap, g.loc j = some (b, p, s) ∧ v = .slice (some ⟨b, 0, none⟩) n cap ∧ n ≤ cap ∧ cap * sz = s, fun h k => by
    cases t with
    | none => exact k
    | some j => obtain ⟨b, p, s, cap, e, r⟩ := k; exact ⟨b, p, s, cap, h.loc _ _ e, r⟩⟩
theorem AV.vec_none {sz n : Nat} {g : Ghost} {v : Value} : (AV.vec sz none n).holds g v ↔ (∃ x, v = .slice x 0 0) ∧ n = 0 := by unfold AV.vec; rfl
theorem AV.vec_some {sz j n : Nat} {g : Ghost} {v : Value} : (AV.vec sz (some j) n).holds g v ↔ ∃ b p s cap, g.loc j = some (b, p, s) ∧ v = .slice (some ⟨b, 0, none⟩) n cap ∧ n ≤ cap ∧ cap * sz = s := by unfold AV.vec; rfl
instance {sz n : Nat} {t : Option Nat} : One (.vec sz t n) := ⟨fun g u e => by
  cases t with
  | none => obtain ⟨⟨x, rfl⟩, _⟩ := AV.vec_none.1 e; rfl
  | some j => obtain ⟨b, p, s, cap, _, rfl, _⟩ := AV.vec_some.1 e; rfl⟩
/-- A part of a row: where it is empty, it may stand anywhere. -/
@[irreducible] def AV.prt (j off n : Nat) : AV := ⟨fun g v => ∃ b p s o cap, g.loc j = some (b, p, s) ∧ v = .slice (some ⟨b, o, none⟩) n cap ∧ n ≤ cap ∧ (0 < n → o = off), fun h ⟨b, p, s, o, cap, e, r⟩ => ⟨b, p, s, o, cap, h.loc _ _ e, r⟩⟩
theorem AV.prt_holds {j off n : Nat} {g : Ghost} {v : Value} : (AV.prt j off n).holds g v ↔ ∃ b p s o cap, g.loc j = some (b, p, s) ∧ v = .slice (some ⟨b, o, none⟩) n cap ∧ n ≤ cap ∧ (0 < n → o = off) := by unfold AV.prt; rfl
instance {j off n : Nat} : One (.prt j off n) := ⟨fun g u e => by obtain ⟨b, p, s, o, cap, _, rfl, _⟩ := AV.prt_holds.1 e; rfl⟩

theorem RelW.vec0 {g : Ghost} {st : List Item} {w : World} (h : RelW g st w) (xs : List AV) : RelW g (.vec none xs :: st) w := RelW.cons h trivial (fun b hb => by simp [Item.blk, Item.id?] at hb)
theorem RelW.allocVec {g : Ghost} {st : List Item} {w : World} (h : RelW g st w) {i : Nat} (hi : g.loc i = none) {xs : List AV} {vs : Array Value} (E : TypeId) (hx : xs.length ≤ vs.size) (hv : holdsL g xs (vs.toList.take xs.length)) (h1 : ∀ u ∈ vs.toList, u.oneCell' = true) :
    RelW (g.setLoc i (w.heap.size, 0, vs.size)) (.vec (some i) xs :: st) (w.alloc (.cells vs E)) := by
  have hle := Ghost.le_setLoc (g := g) (i := i) (x := (w.heap.size, 0, vs.size)) hi
  refine RelW.cons (h.evolve (row := none) hle (World.grownBy_alloc w _ none) (fun b hb => by cases hb) (fun b o v hv => .inl ⟨hv, by simp⟩) (fun it _ b _ => ⟨by simp, fun _ => rfl⟩) (h.fresh_setLoc i _)) ?_ ?_
  · exact ⟨w.heap.size, 0, vs.size, vs, E, Ghost.setLoc_same, heap_alloc_new w _, rfl, hx, hv.mono hle, h1, fun o => h.noCom (Nat.le_refl _), h.hB⟩
  · intro b hb x hx e
    simp [Item.blk, Item.id?, Ghost.setLoc_same] at hb
    subst hb
    rw [Item.blk_le (h.items x hx) hle] at e
    exact absurd (h.blk_ne hx e).1 (Nat.lt_irrefl _)
theorem RelW.storeVec {g : Ghost} {st : List Item} {w : World} {i : Nat} {xs xs' : List AV} (h : RelW g (.vec (some i) xs :: st) w) {b p s : Nat} (hl : g.loc i = some (b, p, s)) {vs' : Array Value}
    (hs : vs'.size = s) (hle : xs'.length ≤ s) (hv : holdsL g xs' (vs'.toList.take xs'.length)) (h1 : ∀ u ∈ vs'.toList, u.oneCell' = true) : RelW g (.vec (some i) xs' :: st) (w.setRow b vs') := by
  obtain ⟨b', p', s', vs, E, k1, k2, k3, k4, k5, k6, k7, k8⟩ := h.items _ (List.mem_cons_self ..)
  rw [hl] at k1; cases k1
  have hne := h.head_notin (b := b) (by simp [Item.blk, Item.id?, hl])
  have ht := h.tailOf
  refine RelW.cons (ht.evolve (row := some b) (Ghost.le.refl g) ⟨rfl, rfl, rfl, by simp, fun k _ hk => setRow_other w b k _ (fun e => hk (by rw [e]))⟩ (fun b' hb => by cases hb; exact k8) (fun b' o v hv => ?_) (fun it hit b' hb' => ⟨fun e => ?_, fun _ => rfl⟩) h.fresh) ?_ ?_
  · by_cases e : b' = b
    · subst e; rw [k7 o] at hv; cases hv
    · exact .inl ⟨hv, fun x => e (Option.some.inj x)⟩
  · cases e; exact hne it hit hb'
  · exact ⟨b, p, s, vs', E, hl, setRow_heap w b vs _ E _ k2, hs, hle, hv, h1, k7, k8⟩
  · intro b' hb' x hx
    simp [Item.blk, Item.id?, hl] at hb'; subst hb'
    exact hne x hx
theorem RelW.renameVec {g : Ghost} {st : List Item} {w : World} {i j : Nat} {xs : List AV} (h : RelW g (.vec (some j) xs :: st) w) (hi : g.loc i = none) {x : Nat × Nat × Nat} (hl : g.loc j = some x) : RelW (g.setLoc i x) (.vec (some i) xs :: st) w := by
  obtain ⟨b, p, s, vs, E, k1, k2, k3, k4, k5, k6, k7, k8⟩ := h.items _ (List.mem_cons_self ..)
  rw [hl] at k1; cases k1
  have hle := Ghost.le_setLoc (g := g) (i := i) (x := (b, p, s)) hi
  have h1 : RelW (g.setLoc i (b, p, s)) (.vec (some j) xs :: st) w := h.evolve (row := none) hle ⟨rfl, rfl, rfl, Nat.le_refl _, fun _ _ _ => rfl⟩ (fun b hb => by cases hb) (fun b o v hv => .inl ⟨hv, by simp⟩) (fun it _ b _ => ⟨by simp, fun _ => rfl⟩) (h.fresh_setLoc i _)
  refine RelW.cons h1.tailOf ⟨b, p, s, vs, E, Ghost.setLoc_same, k2, k3, k4, k5.mono hle, k6, k7, k8⟩ (fun b' hb' => ?_)
  have : b' = b := by simp [Item.blk, Item.id?, Ghost.setLoc_same] at hb'; exact hb'.symm
  subst this
  exact h1.head_notin (by simp [Item.blk, Item.id?, hle.loc _ _ hl])
theorem RelW.cutVec {g : Ghost} {st : List Item} {w : World} {t : Option Nat} {xs ys : List AV} (h : RelW g (.vec t (xs ++ ys) :: st) w) : RelW g (.vec t xs :: st) w := by
  cases t with
  | none => exact h.tailOf.vec0 xs
  | some j =>
    obtain ⟨b, p, s, vs, E, k1, k2, k3, k4, k5, k6, k7, k8⟩ := h.items _ (List.mem_cons_self ..)
    rw [List.length_append] at k4 k5
    have hx : holdsL g xs (vs.toList.take xs.length) := by
      have := k5.take xs.length
      rwa [List.take_left, List.take_take, Nat.min_eq_left (by omega)] at this
    refine RelW.cons h.tailOf ⟨b, p, s, vs, E, k1, k2, k3, by omega, hx, k6, k7, k8⟩ (fun b' hb' => ?_)
    exact h.head_notin (by simpa [Item.blk, Item.id?] using hb')
theorem VShift.cutVec {v : AV} {t : Option Nat} {xs ys : List AV} {st : List Item} : VShift v (.vec t (xs ++ ys) :: st) v (.vec t xs :: st) := fun F g u w hw hv => ⟨g, Ghost.ext.refl g, hw.cutVec, hv⟩
theorem Weak.cutVec {n : Nat} {σ : Fr} {t : Option Nat} {xs ys : List AV} {st : List Item} : Weak n σ (.vec t (xs ++ ys) :: st) σ (.vec t xs :: st) := fun F g a w hf hw => ⟨g, Ghost.ext.refl g, hf, hw.cutVec⟩
theorem Weak.vec0 {n : Nat} {σ : Fr} {st : List Item} (xs : List AV) : Weak n σ st σ (.vec none xs :: st) := fun F g a w hf hw => ⟨g, Ghost.ext.refl g, hf, RelW.vec0 hw xs⟩
theorem AV.Imp.nil_vec {sz : Nat} : (AV.val (.slice none 0 0)).Imp (.vec sz none 0) := fun g u h => by rw [AV.val_holds] at h; subst h; exact AV.vec_none.2 ⟨⟨_, rfl⟩, rfl⟩
theorem AV.Imp.full_vec {sz : Nat} : (AV.full sz []).Imp (.vec sz none 0) := fun g u h => by obtain ⟨b, e, _⟩ := AV.full_holds.1 h; exact AV.vec_none.2 ⟨⟨b, e⟩, rfl⟩

section
variable {P : Program} {σ : Fr} {st st1 : List Item} {i : Nat} {d : Option Tmp} {ty : TypeId} {pos : String} {after : Array Edge} {gd : Option (Nat × Bool)} {w : World}
theorem y_vlen {T E sz by_ n : Nat} {x : Operand} {t : Option Nat} [ht : SliceT P T E sz by_] (hx : Ev σ x (.vec sz t n)) : Yields P ⟨d, .call { callee := .builtin .len, args := #[x], argTypes := #[T] }, ty, pos, after, gd⟩ σ st i (.int (n : Int)) st := fun F g a w hw hi hs => by
  have hh := hx.holds hs (by simp [Op.operands, Call.operands])
  cases t with
  | none =>
    obtain ⟨⟨xa, e⟩, rfl⟩ := AV.vec_none.1 hh
    exact goes_value (u := .int .i64 ((0 : Nat) : Int)) (by simp [execOp, resolve, invoke, builtin, e, Builtin.len_, run_underlying ht.und, goInt]) ⟨g, Ghost.to.refl g i, hw, AV.val_self _⟩
  | some j =>
    obtain ⟨b, p, s, cap, _, e, _⟩ := AV.vec_some.1 hh
    exact goes_value (u := .int .i64 (n : Int)) (by simp [execOp, resolve, invoke, builtin, e, Builtin.len_, run_underlying ht.und, goInt]) ⟨g, Ghost.to.refl g i, hw, AV.val_self _⟩
theorem AV.Imp.vec_arr {sz j n : Nat} : (AV.vec sz (some j) n).Imp (.arr j 0 n) := fun g u h => by
  obtain ⟨b, p, s, cap, e, rfl, h1, _⟩ := AV.vec_some.1 h
  exact AV.arr_holds.2 ⟨b, p, s, cap, e, rfl, h1⟩
theorem y_vload {T j off : Nat} {x : Operand} {xs : List AV} {st' : List Item} {v : AV} [hT : ScalarT P T] (hx : Ev σ x (.ptr j off)) (ht : Take st (.vec (some j) xs) st') (hv : xs[off]? = some v) : Yields P ⟨d, .load T x, ty, pos, after, gd⟩ σ st i v st := fun F g a w hw hi hs => by
  obtain ⟨b, p, s, hl, e⟩ := AV.ptr_holds.1 (hx.holds hs (by simp [Op.operands]))
  have hw1 := hw.perm (ht.perm.append_right F)
  obtain ⟨b', p', s', vs, E, k1, k2, k3, k4, k5, k6, k7, k8⟩ := hw1.items _ (List.mem_cons_self ..)
  rw [hl] at k1; cases k1
  obtain ⟨u, hu, hh⟩ := k5.get _ _ hv
  have hlt : off < xs.length := by
    rcases Nat.lt_or_ge off xs.length with h | h
    · exact h
    · rw [List.getElem?_eq_none h] at hv; cases hv
  rw [List.getElem?_take, if_pos hlt] at hu
  have hcell : w.cell? ⟨b, off, none⟩ = some u := by rw [World.cell?, k2]; simpa using hu
  refine goes_value (u := u) ?_ ⟨g, Ghost.to.refl g i, hw, hh⟩
  simp only [execOp, e, Instr.loadAt, Instr.sureAddr]
  rw [Sem.run_bind, Sem.run_bind, Sem.run_pure]
  simp only [Result.andThen_ok]
  rw [run_loadVar_scalar hcell]; rfl
/-- append(s, x...), to a row of the function's own. -/
theorem y_vappend {T E sz by_ n : Nat} {x y : Operand} {t : Option Nat} {xs : List AV} {av : AV} {ys : List (List AV)} {zs : List Value} [ht : SliceT P T E sz by_] [hz : ZeroT P E zs] [hr : Rd av sz ys] (hzl : zs.length = sz) (hz1 : zs.all (·.oneCell') = true)
    (hx : Ev σ x (.vec sz t n)) (hxl : xs.length = n * sz) (hy : Ev σ y av) (hne : ys ≠ []) (hb : n + ys.length ≤ 1073741824) (hT : Take st (.vec t xs) st1) :
    Yields P ⟨d, .call { callee := .builtin .append, args := #[x, y], argTypes := #[T, T] }, ty, pos, after, gd⟩ σ st i (.vec sz (some i) (n + ys.length)) (.vec (some i) (xs ++ ys.flatten) :: st1) := fun F g a w hw0 hi hs => by
  have hw : RelW g (.vec t xs :: (st1 ++ F)) w := hw0.perm (hT.perm.append_right F)
  have ex := hx.holds hs (by simp [Op.operands, Call.operands])
  obtain ⟨ad, cap, ey, hcapy, hlen, hrow⟩ := AV.sl_holds.1 (hr.imp _ _ (hy.holds hs (by simp [Op.operands, Call.operands])))
  obtain ⟨inf, z, hinf, hsz, hby, hzero, hzc⟩ := info_of (P := P) ht.hsize ht.hbytes (hz := hz)
  have hexec : ∀ {r : Result Value}, (Builtin.append_ #[T, T] ty #[a.eval x, a.eval y]).run P w = r → (execOp a.eval ⟨d, .call { callee := .builtin .append, args := #[x, y], argTypes := #[T, T] }, ty, pos, after, gd⟩).run P w = r.andThen (fun v w' => .ok (.value v) w') := by
    intro r h
    simp only [execOp, resolve, Sem.run_bind, Sem.run_pure, Result.andThen_ok, invoke, builtin]
    simp only [List.map_toArray, List.map_cons, List.map_nil, h]
  obtain ⟨b', o', rfl, hrow'⟩ := hrow hne
  obtain ⟨news, n1, n2, n3⟩ := hrow'.values
  have hln : news.length = ys.length * sz := by rw [← n1.length, flatten_len hlen]
  have hypos : 0 < ys.length := by cases ys with | nil => exact absurd rfl hne | cons => simp
  have hnews : ∀ (w1 : World), (∀ ad, w1.cell? ad = w.cell? ad) → ∀ j u, news[j]? = some u → w1.cell? ((⟨b', o', none⟩ : Addr).add j) = some u := fun w1 h1 j u hj => by
    rw [Addr.add_mk, h1]; exact hw.com _ _ _ (n3 j u hj)
  have hbytes : (n + ys.length) * inf.bytes ≤ 140737488355328 := by
    rw [hby]
    calc (n + ys.length) * by_ ≤ 1073741824 * 65536 := Nat.mul_le_mul hb ht.small
      _ ≤ _ := by decide
  have hzsz : z.cells.size = sz := by rw [hzc]; simpa using hzl
  have hfl : (xs ++ ys.flatten).length = (n + ys.length) * sz := by rw [List.length_append, hxl, flatten_len hlen, Nat.add_mul]
  have hpad : ∀ m, ∀ u ∈ (Builtin.zeroCells z.cells m).toList, u.oneCell' = true := by
    intro m u hu
    unfold Builtin.zeroCells at hu
    simp only [Array.toList_map, List.mem_map, Array.toList_range, List.mem_range] at hu
    obtain ⟨k, hk, rfl⟩ := hu
    have hpos : 0 < z.cells.size := by rw [hzsz]; exact ht.pos
    have hlt := Nat.mod_lt k hpos
    rw [getElem!_pos z.cells (k % z.cells.size) hlt]
    rw [List.all_eq_true] at hz1
    refine hz1 _ ?_
    have hm : z.cells[k % z.cells.size] ∈ z.cells.toList := Array.mem_toList_iff.2 (Array.getElem_mem hlt)
    have ez : z.cells.toList = zs := by rw [hzc]
    generalize z.cells[k % z.cells.size] = q at hm ⊢
    rw [ez] at hm
    exact hm
  -- a new array
  have grown : ∀ (olds : List Value) (old : Nat), holdsL g xs olds → (∀ u ∈ olds, u.oneCell' = true) → old < n + ys.length →
      ∀ w', w' = w.drew.alloc (.cells (olds.toArray ++ news.toArray ++ Builtin.zeroCells z.cells (grownCap w (n + ys.length) old E - (n + ys.length))) E) →
      ∃ g', g.to i g' ∧ RelW g' (.vec (some i) (xs ++ ys.flatten) :: (st1 ++ F)) w' ∧ (AV.vec sz (some i) (n + ys.length)).holds g' (.slice (some ⟨w.heap.size, 0, none⟩) (n + ys.length) (grownCap w (n + ys.length) old E)) := by
    intro olds old ho ho1 hold w' hw'
    have hge := grownCap_ge w (n + ys.length) old E
    have hp := hpad (grownCap w (n + ys.length) old E - (n + ys.length))
    generalize hpz : Builtin.zeroCells z.cells (grownCap w (n + ys.length) old E - (n + ys.length)) = pz at hw' hp
    have hlo : olds.length = n * sz := by rw [← ho.length, hxl]
    have hpl : pz.size = (grownCap w (n + ys.length) old E - (n + ys.length)) * sz := by rw [← hpz, size_zeroCells, hzsz]
    have hvl : (olds.toArray ++ news.toArray ++ pz).size = grownCap w (n + ys.length) old E * sz := by
      simp only [Array.size_append, List.size_toArray, hpl, hlo, hln, ← Nat.add_mul]
      congr 1; omega
    have h1 := ((hw.tailOf).drew).allocVec (i := i) hi (xs := xs ++ ys.flatten) (vs := olds.toArray ++ news.toArray ++ pz) E (by rw [hvl, hfl]; exact Nat.mul_le_mul_right _ hge)
      (by
        simp only [Array.toList_append, List.append_assoc]
        rw [← List.append_assoc olds, List.take_left' (by rw [hfl, List.length_append, hlo, hln, Nat.add_mul])]
        exact ho.append n1)
      (by
        intro u hu
        simp only [Array.toList_append, List.mem_append] at hu
        rcases hu with (hu | hu) | hu
        · exact ho1 u hu
        · exact n2 u hu
        · exact hp u hu)
    refine ⟨_, Ghost.to_setLoc hi, by rw [hw']; exact h1, ?_⟩
    exact AV.vec_some.2 ⟨_, _, _, _, Ghost.setLoc_same, rfl, hge, hvl.symm⟩
  cases t with
  | none =>
    obtain ⟨⟨xa, e⟩, rfl⟩ := AV.vec_none.1 ex
    have hx0 : xs = [] := List.eq_nil_of_length_eq_zero (by omega)
    subst hx0
    obtain ⟨g', h1, h2, h3⟩ := grown [] 0 trivial (by simp) (by omega) _ rfl
    simp only [Nat.zero_add, Array.empty_append] at h2 h3 ⊢
    refine goes_value ?_ ⟨g', h1, h2, h3⟩
    cases xa with
    | none =>
      have hr := run_append_nil (P := P) w T ty E inf z ht.und hinf hzero ⟨b', o', none⟩ ys.length cap news (by rw [hln, hsz]) (hnews w (fun _ => rfl)) hypos (by omega) (by rw [Nat.zero_add] at hbytes; omega)
      rw [hexec rfl, e, ey, hr]; rfl
    | some ba =>
      have hr := run_append_grow (P := P) w T ty E inf z ht.und hinf hzero ba 0 0 [] (by simp) (by simp) ⟨b', o', none⟩ ys.length cap news (by rw [hln, hsz]) (hnews w (fun _ => rfl)) (by omega) (by omega) (growslice_fits (by omega) (by rw [Nat.zero_add] at hbytes ⊢; simpa using hbytes))
      simp only [Nat.zero_add, Array.empty_append] at hr
      rw [hexec rfl, e, ey, hr]; rfl
  | some j =>
    obtain ⟨b, ps, S, cap0, hloc, e, hcap0, hS⟩ := AV.vec_some.1 ex
    obtain ⟨b2, pos2, S2, vs, E', m1, m2, m3, m4, m5, m6, m7, m8⟩ := hw.items _ (List.mem_cons_self ..)
    rw [hloc] at m1; cases m1
    have hol : (vs.toList.take xs.length).length = n * sz := by rw [← m5.length, hxl]
    by_cases hroom : n + ys.length ≤ cap0
    · have hfit : 0 + n * sz + news.length ≤ vs.size := by
        have := Nat.mul_le_mul_right sz hroom
        rw [Nat.add_mul] at this
        rw [hln, m3]; omega
      have hr := run_append_inplace (P := P) (T := T) ty b 0 n cap0 vs E' m2 ⟨b', o', none⟩ ys.length cap news hln (hnews w (fun _ => rfl)) n2 hroom hfit
      have hle : (xs ++ ys.flatten).length ≤ S := by rw [hfl, ← hS]; exact Nat.mul_le_mul_right _ hroom
      have hst := hw.storeVec (xs' := xs ++ ys.flatten) hloc (vs' := (setMany vs.toList (0 + n * sz) news).toArray) (by rw [List.size_toArray, setMany_len (by simpa using hfit)]; simpa using m3) hle (by
          unfold setMany
          rw [Nat.zero_add, ← hxl]
          have e1 : (vs.toList.take xs.length ++ news).length = (xs ++ ys.flatten).length := by
            rw [List.length_append, hol, hfl, hln, Nat.add_mul]
          show holdsL g _ (List.take _ (List.take xs.length vs.toList ++ news ++ _))
          rw [← e1, List.take_left]
          exact m5.append n1) (by
          intro u hu
          simp only [setMany, List.mem_append] at hu
          rcases hu with (hu | hu) | hu
          · exact m6 u (List.mem_of_mem_take hu)
          · exact n2 u hu
          · exact m6 u (List.mem_of_mem_drop hu))
      have hrn := hst.renameVec (i := i) hi hloc
      refine goes_value (u := .slice (some ⟨b, 0, none⟩) (n + ys.length) cap0) ?_ ⟨_, Ghost.to_setLoc hi, hrn, ?_⟩
      · rw [hexec rfl, e, ey, hr]; rfl
      · exact AV.vec_some.2 ⟨_, _, _, _, Ghost.setLoc_same, rfl, hroom, hS⟩
    · have hr := run_append_grow (P := P) w T ty E inf z ht.und hinf hzero ⟨b, 0, none⟩ n cap0 (vs.toList.take xs.length) (by rw [hol, hsz]) (fun k v hk => by
          rw [Addr.add_mk, World.cell?, m2]
          have hk' : (vs.toList)[k]? = some v := by
            rw [List.getElem?_take] at hk
            split at hk
            · exact hk
            · cases hk
          simpa using hk') ⟨b', o', none⟩ ys.length cap news (by rw [hln, hsz]) (hnews w (fun _ => rfl)) (by omega) (by omega) (growslice_fits (by omega) hbytes)
      obtain ⟨g', h1, h2, h3⟩ := grown (vs.toList.take xs.length) cap0 m5 (fun u hu => m6 u (List.mem_of_mem_take hu)) (by omega) _ rfl
      refine goes_value ?_ ⟨g', h1, h2, h3⟩
      rw [hexec rfl, e, ey, hr]; rfl
/-- Parts. -/
theorem y_vsliceHi {T E sz by_ j n : Nat} {x hi' : Operand} {k : IntKind} {q : Int} [ht : SliceT P T E sz by_] (hx : Ev σ x (.vec sz (some j) n)) (hhi : Ev σ hi' (.val (.int k q))) {h : Nat} (e : q = (h : Int)) (hh : h ≤ n) :
    Yields P ⟨d, .slice T x none (some hi') none, ty, pos, after, gd⟩ σ st i (.vec sz (some j) h) st := fun F g a w hw hi hs => by
  subst e
  obtain ⟨b, p, s, cap, hl, e, hc, hcs⟩ := AV.vec_some.1 (hx.holds hs (by simp [Op.operands]))
  have e2 := AV.val_holds.1 (hhi.holds hs (by simp [Op.operands]))
  have hr := run_slice_hi (P := P) (T := T) (w := w) (some ⟨b, 0, none⟩) n cap h k (by omega)
  have hif : (if cap = 0 then some (⟨b, 0, none⟩ : Addr) else (some (⟨b, 0, none⟩ : Addr)).map (·.add (0 * sz))) = some ⟨b, 0, none⟩ := by split <;> simp [Addr.add_mk]
  rw [hif] at hr
  refine goes_value (u := .slice (some ⟨b, 0, none⟩) h cap) ?_ ⟨g, Ghost.to.refl g i, hw, AV.vec_some.2 ⟨b, p, s, cap, hl, rfl, by omega, hcs⟩⟩
  simp only [execOp, e, e2, Option.map_some, Option.map_none]
  rw [Sem.run_bind, hr]; rfl
theorem y_vsliceLo {T E sz by_ j n : Nat} {x lo : Operand} {k : IntKind} {q : Int} [ht : SliceT P T E sz by_] (hx : Ev σ x (.vec sz (some j) n)) (hlo : Ev σ lo (.val (.int k q))) {l : Nat} (e : q = (l : Int)) (h : l ≤ n) :
    Yields P ⟨d, .slice T x (some lo) none none, ty, pos, after, gd⟩ σ st i (.prt j (l * sz) (n - l)) st := fun F g a w hw hi hs => by
  subst e
  obtain ⟨b, p, s, cap, hl, e, hc, hcs⟩ := AV.vec_some.1 (hx.holds hs (by simp [Op.operands]))
  have e2 := AV.val_holds.1 (hlo.holds hs (by simp [Op.operands]))
  have hr := run_slice_lo (P := P) (T := T) (w := w) (some ⟨b, 0, none⟩) n cap l k h hc
  have hif : ∃ o, (if cap = l then some (⟨b, 0, none⟩ : Addr) else (some (⟨b, 0, none⟩ : Addr)).map (·.add (l * sz))) = some ⟨b, o, none⟩ ∧ (0 < n - l → o = l * sz) := by
    split
    · exact ⟨0, rfl, fun h => by omega⟩
    · exact ⟨l * sz, by simp [Addr.add_mk], fun _ => rfl⟩
  obtain ⟨o, ho, ho2⟩ := hif
  rw [ho] at hr
  refine goes_value (u := .slice (some ⟨b, o, none⟩) (n - l) (cap - l)) ?_ ⟨g, Ghost.to.refl g i, hw, AV.prt_holds.2 ⟨b, p, s, o, cap - l, hl, rfl, by omega, ho2⟩⟩
  simp only [execOp, e, e2, Option.map_some, Option.map_none]
  rw [Sem.run_bind, hr]; rfl
theorem y_vslice3 {T E sz by_ j n : Nat} {x lo hi' mx : Operand} {k k' k'' : IntKind} {q q' q'' : Int} [ht : SliceT P T E sz by_] (hx : Ev σ x (.vec sz (some j) n)) (hlo : Ev σ lo (.val (.int k q))) (hhi : Ev σ hi' (.val (.int k' q'))) (hmx : Ev σ mx (.val (.int k'' q''))) {l h m : Nat} (e : q = (l : Int)) (e' : q' = (h : Int)) (e'' : q'' = (m : Int)) (h0 : l ≤ h) (h1 : h ≤ m) (h2 : m ≤ n) :
    Yields P ⟨d, .slice T x (some lo) (some hi') (some mx), ty, pos, after, gd⟩ σ st i (.prt j (l * sz) (h - l)) st := fun F g a w hw hi hs => by
  subst e e' e''
  obtain ⟨b, p, s, cap, hl, e, hc, hcs⟩ := AV.vec_some.1 (hx.holds hs (by simp [Op.operands]))
  have e2 := AV.val_holds.1 (hlo.holds hs (by simp [Op.operands]))
  have e3 := AV.val_holds.1 (hhi.holds hs (by simp [Op.operands]))
  have e4 := AV.val_holds.1 (hmx.holds hs (by simp [Op.operands]))
  have hr := run_slice_lhm (P := P) (T := T) (w := w) (some ⟨b, 0, none⟩) n cap l h m k' k'' k h0 h1 (by omega)
  have hif : ∃ o, (if m = l then some (⟨b, 0, none⟩ : Addr) else (some (⟨b, 0, none⟩ : Addr)).map (·.add (l * sz))) = some ⟨b, o, none⟩ ∧ (0 < h - l → o = l * sz) := by
    split
    · exact ⟨0, rfl, fun h => by omega⟩
    · exact ⟨l * sz, by simp [Addr.add_mk], fun _ => rfl⟩
  obtain ⟨o, ho, ho2⟩ := hif
  rw [ho] at hr
  refine goes_value (u := .slice (some ⟨b, o, none⟩) (h - l) (m - l)) ?_ ⟨g, Ghost.to.refl g i, hw, AV.prt_holds.2 ⟨b, p, s, o, m - l, hl, rfl, by omega, ho2⟩⟩
  simp only [execOp, e, e2, e3, e4, Option.map_some, Option.map_none]
  rw [Sem.run_bind, hr]; rfl
theorem y_vsliceLH {T E sz by_ j n : Nat} {x lo hi' : Operand} {k k' : IntKind} {q q' : Int} {xs : List AV} [ht : SliceT P T E sz by_] (hx : Ev σ x (.vec sz (some j) n)) (hlo : Ev σ lo (.val (.int k q))) (hhi : Ev σ hi' (.val (.int k' q'))) (hT : Take st (.vec (some j) xs) st1) {l h : Nat} (e : q = (l : Int)) (e' : q' = (h : Int)) (h0 : l ≤ h) (h1 : h * sz ≤ xs.length) :
    Yields P ⟨d, .slice T x (some lo) (some hi') none, ty, pos, after, gd⟩ σ st i (.prt j (l * sz) (h - l)) st := fun F g a w hw hi hs => by
  subst e e'
  obtain ⟨b, p, s, cap, hl, e, hc, hcs⟩ := AV.vec_some.1 (hx.holds hs (by simp [Op.operands]))
  have e2 := AV.val_holds.1 (hlo.holds hs (by simp [Op.operands]))
  have e3 := AV.val_holds.1 (hhi.holds hs (by simp [Op.operands]))
  have hw1 := hw.perm (hT.perm.append_right F)
  obtain ⟨b2, pos2, S2, vs, E', m1, m2, m3, m4, m5, m6, m7, m8⟩ := hw1.items _ (List.mem_cons_self ..)
  rw [hl] at m1; cases m1
  have hh : h ≤ cap := by
    refine Nat.le_of_mul_le_mul_right (c := sz) ?_ ht.pos
    rw [hcs]; omega
  have hr := run_slice_lh (P := P) (T := T) (w := w) (some ⟨b, 0, none⟩) n cap l h k k' h0 hh
  have hif : ∃ o, (if cap = l then some (⟨b, 0, none⟩ : Addr) else (some (⟨b, 0, none⟩ : Addr)).map (·.add (l * sz))) = some ⟨b, o, none⟩ ∧ (0 < h - l → o = l * sz) := by
    split
    · exact ⟨0, rfl, fun h => by omega⟩
    · exact ⟨l * sz, by simp [Addr.add_mk], fun _ => rfl⟩
  obtain ⟨o, ho, ho2⟩ := hif
  rw [ho] at hr
  refine goes_value (u := .slice (some ⟨b, o, none⟩) (h - l) (cap - l)) ?_ ⟨g, Ghost.to.refl g i, hw, AV.prt_holds.2 ⟨b, p, s, o, cap - l, hl, rfl, by omega, ho2⟩⟩
  simp only [execOp, e, e2, e3, Option.map_some, Option.map_none]
  rw [Sem.run_bind, hr]; rfl
/-- append of a part of the same row, in place. -/
theorem y_vappendIn {T E sz by_ j h off len : Nat} {x y : Operand} {xs : List AV} [ht : SliceT P T E sz by_] (hx : Ev σ x (.vec sz (some j) h)) (hy : Ev σ y (.prt j off len)) (hT : Upd st (.vec (some j) xs) (.vec (some j) (setMany xs (h * sz) ((xs.drop off).take (len * sz)))) st1)
    (hfit : (h + len) * sz ≤ xs.length) (hfit2 : off + len * sz ≤ xs.length) :
    Yields P ⟨d, .call { callee := .builtin .append, args := #[x, y], argTypes := #[T, T] }, ty, pos, after, gd⟩ σ st i (.vec sz (some j) (h + len)) st1 := fun F g a w hw0 hi hs => by
  obtain ⟨r, p1, p2⟩ := hT.perm
  have hw : RelW g (.vec (some j) xs :: (r ++ F)) w := hw0.perm (p1.append_right F)
  obtain ⟨b, ps, S, cap0, hloc, e, hcap0, hS⟩ := AV.vec_some.1 (hx.holds hs (by simp [Op.operands, Call.operands]))
  obtain ⟨b1, ps1, S1, o, cap1, hl1, e1, hc1, ho⟩ := AV.prt_holds.1 (hy.holds hs (by simp [Op.operands, Call.operands]))
  rw [hloc] at hl1; cases hl1
  obtain ⟨b2, pos2, S2, vs, E', m1, m2, m3, m4, m5, m6, m7, m8⟩ := hw.items _ (List.mem_cons_self ..)
  rw [hloc] at m1; cases m1
  have hexec : ∀ {r : Result Value}, (Builtin.append_ #[T, T] ty #[a.eval x, a.eval y]).run P w = r → (execOp a.eval ⟨d, .call { callee := .builtin .append, args := #[x, y], argTypes := #[T, T] }, ty, pos, after, gd⟩).run P w = r.andThen (fun v w' => .ok (.value v) w') := by
    intro r h
    simp only [execOp, resolve, Sem.run_bind, Sem.run_pure, Result.andThen_ok, invoke, builtin]
    simp only [List.map_toArray, List.map_cons, List.map_nil, h]
  have hroom : h + len ≤ cap0 := by
    refine Nat.le_of_mul_le_mul_right (c := sz) ?_ ht.pos
    rw [hS]; omega
  rcases Nat.eq_zero_or_pos len with hz | hp
  · subst hz
    have hr := run_append_nothing (P := P) (w := w) (T := T) ty (some ⟨b, 0, none⟩) h cap0 hcap0 (some ⟨b, o, none⟩) cap1
    refine goes_value (u := .slice (some ⟨b, 0, none⟩) h cap0) (w' := w) ?_ ⟨g, Ghost.to.refl g i, ?_, AV.vec_some.2 ⟨b, ps, S, cap0, hloc, rfl, hcap0, hS⟩⟩
    · rw [hexec rfl, e, e1, hr]; rfl
    · have hsm : setMany xs (h * sz) ((xs.drop off).take (0 * sz)) = xs := by
        rw [Nat.zero_mul, List.take_zero]; simp [setMany]
      rw [hsm] at p2
      exact hw.perm (p2.append_right F).symm
  · obtain rfl := ho hp
    have hvl : xs.length ≤ vs.size := by omega
    generalize hnw : (vs.toList.drop o).take (len * sz) = news
    have hln : news.length = len * sz := by rw [← hnw, List.length_take, List.length_drop]; simp; omega
    have hn1 : holdsL g ((xs.drop o).take (len * sz)) news := by
      have h1 := (m5.drop o).take (len * sz)
      rw [List.drop_take, List.take_take, Nat.min_eq_left (by omega), hnw] at h1
      exact h1
    have hn2 : ∀ u ∈ news, u.oneCell' = true := fun u hu => m6 u (by rw [← hnw] at hu; exact List.mem_of_mem_drop (List.mem_of_mem_take hu))
    have hr := run_append_inplace (P := P) (T := T) ty b 0 h cap0 vs E' m2 ⟨b, o, none⟩ len cap1 news hln (fun k u hk => by
        rw [Addr.add_mk, World.cell?, m2]
        rw [← hnw, List.getElem?_take] at hk
        split at hk
        · rw [List.getElem?_drop] at hk; simpa using hk
        · cases hk) hn2 hroom (by rw [hln, Nat.zero_add, ← Nat.add_mul]; omega)
    have hlx : (setMany xs (h * sz) ((xs.drop o).take (len * sz))).length = xs.length := setMany_len (by rw [hn1.length, hln, ← Nat.add_mul]; exact hfit)
    have hst := hw.storeVec (xs' := setMany xs (h * sz) ((xs.drop o).take (len * sz))) hloc (vs' := (setMany vs.toList (0 + h * sz) news).toArray) (by rw [List.size_toArray, setMany_len (by rw [hln, Nat.zero_add, ← Nat.add_mul]; simp; omega)]; simpa using m3) (by rw [hlx]; exact m4) (by
        rw [hlx, Nat.zero_add]
        have h2 := holdsL.setMany (h * sz) m5 hn1
        have e3 : (setMany vs.toList (h * sz) news).take xs.length = setMany (vs.toList.take xs.length) (h * sz) news := by
          unfold setMany
          have hlt : h * sz + news.length ≤ xs.length := by rw [hln, ← Nat.add_mul]; exact hfit
          have hl1 : (List.take (h * sz) vs.toList ++ news).length = h * sz + news.length := by rw [List.length_append, List.length_take]; simp; omega
          rw [List.take_append, hl1, List.take_take, Nat.min_eq_left (by omega), List.take_of_length_le (by rw [hl1]; exact hlt), List.drop_take]
        rw [e3]; exact h2) (by
        intro u hu
        simp only [setMany, List.mem_append] at hu
        rcases hu with (hu | hu) | hu
        · exact m6 u (List.mem_of_mem_take hu)
        · exact hn2 u hu
        · exact m6 u (List.mem_of_mem_drop hu))
    refine goes_value (u := .slice (some ⟨b, 0, none⟩) (h + len) cap0) ?_ ⟨g, Ghost.to.refl g i, hst.perm (p2.append_right F).symm, AV.vec_some.2 ⟨b, ps, S, cap0, hloc, rfl, hroom, hS⟩⟩
    rw [hexec rfl, e, e1, hr]; rfl
/-- clear. -/
theorem y_vclear {T E sz by_ j off len : Nat} {x : Operand} {xs : List AV} {zs : List Value} [ht : SliceT P T E sz by_] [hz : ZeroT P E zs] (hzl : zs.length = sz) (hz1 : zs.all (·.oneCell') = true) (hx : Ev σ x (.prt j off len))
    (hT : Upd st (.vec (some j) xs) (.vec (some j) (xs.take off)) st1) (hfit : off + len * sz ≤ xs.length) :
    Yields P ⟨d, .call { callee := .builtin .clear, args := #[x], argTypes := #[T] }, ty, pos, after, gd⟩ σ st i (.val (.tuple #[])) st1 := fun F g a w hw0 hi hs => by
  obtain ⟨r, p1, p2⟩ := hT.perm
  have hw : RelW g (.vec (some j) xs :: (r ++ F)) w := hw0.perm (p1.append_right F)
  obtain ⟨b, ps, S, o, cap1, hloc, e1, hc1, ho⟩ := AV.prt_holds.1 (hx.holds hs (by simp [Op.operands, Call.operands]))
  obtain ⟨b2, pos2, S2, vs, E', m1, m2, m3, m4, m5, m6, m7, m8⟩ := hw.items _ (List.mem_cons_self ..)
  rw [hloc] at m1; cases m1
  obtain ⟨inf, z, hinf, hsz, hby, hzero, hzc⟩ := info_of (P := P) ht.hsize ht.hbytes (hz := hz)
  have hcut : RelW g (.vec (some j) (xs.take off ++ xs.drop off) :: (r ++ F)) w := by rw [List.take_append_drop]; exact hw
  rcases Nat.eq_zero_or_pos len with hz0 | hp
  · subst hz0
    refine goes_value (u := .tuple #[]) (w' := w) ?_ ⟨g, Ghost.to.refl g i, hcut.cutVec.perm (p2.append_right F).symm, AV.val_self _⟩
    simp [execOp, resolve, invoke, builtin, e1, Builtin.clear_, run_underlying ht.und]
  · obtain rfl := ho hp
    have hzsz : z.cells.size = sz := by rw [hzc]; simpa using hzl
    have hzl2 : (Builtin.zeroCells z.cells len).toList.length = len * sz := by rw [Array.length_toList, size_zeroCells, hzsz]
    have hz2 : ∀ u ∈ (Builtin.zeroCells z.cells len).toList, u.oneCell' = true := by
      intro u hu
      unfold Builtin.zeroCells at hu
      simp only [Array.toList_map, List.mem_map, Array.toList_range, List.mem_range] at hu
      obtain ⟨k, hk, rfl⟩ := hu
      have hpos : 0 < z.cells.size := by rw [hzsz]; exact ht.pos
      have hlt := Nat.mod_lt k hpos
      rw [getElem!_pos z.cells (k % z.cells.size) hlt]
      rw [List.all_eq_true] at hz1
      refine hz1 _ ?_
      have hm : z.cells[k % z.cells.size] ∈ z.cells.toList := Array.mem_toList_iff.2 (Array.getElem_mem hlt)
      have ez : z.cells.toList = zs := by rw [hzc]
      generalize z.cells[k % z.cells.size] = q at hm ⊢
      rw [ez] at hm
      exact hm
    have hst := run_storeCells_at P b o E' (Builtin.zeroCells z.cells len).toList 0 vs w m2 (by rw [hzl2]; omega) hz2
    rw [Nat.add_zero] at hst
    have hlx : (xs.take o).length = o := by rw [List.length_take]; omega
    have hrun : (Builtin.clear_ #[T] ty #[.slice (some ⟨b, o, none⟩) len cap1]).run P w = .ok (.tuple #[]) (w.setRow b (vs.toList.take o ++ (Builtin.zeroCells z.cells len).toList ++ vs.toList.drop (o + (Builtin.zeroCells z.cells len).toList.length)).toArray) := by
      obtain ⟨m, rfl⟩ : ∃ m, len = m + 1 := ⟨len - 1, by omega⟩
      have hz0 : (zeroValue E).run P w = .ok z w := by simp [zeroValue, typeInfo, hinf, hzero]
      simp only [Builtin.clear_]
      simp [run_underlying ht.und, hz0, hst]
    generalize (Builtin.zeroCells z.cells len).toList = zz at hst hz2 hzl2 hrun
    have hnew := hw.storeVec (xs' := xs.take o) hloc (vs' := (vs.toList.take o ++ zz ++ vs.toList.drop (o + zz.length)).toArray) (by
        simp only [List.size_toArray, List.length_append, List.length_take, List.length_drop, hzl2]; simp; omega) (by omega) (by
        rw [hlx]
        have h2 := m5.take o
        rw [List.take_take, Nat.min_eq_left (by omega)] at h2
        show holdsL g _ (List.take o (List.take o vs.toList ++ zz ++ _))
        rw [List.append_assoc, List.take_left' (by rw [List.length_take]; simp; omega)]
        exact h2) (by
        intro u hu
        simp only [List.mem_append] at hu
        rcases hu with (hu | hu) | hu
        · exact m6 u (List.mem_of_mem_take hu)
        · exact hz2 u hu
        · exact m6 u (List.mem_of_mem_drop hu))
    refine goes_value (u := .tuple #[]) ?_ ⟨g, Ghost.to.refl g i, hnew.perm (p2.append_right F).symm, AV.val_self _⟩
    simp only [execOp, resolve, Sem.run_bind, Sem.run_pure, Result.andThen_ok, invoke, builtin]
    simp only [List.map_toArray, List.map_cons, List.map_nil, e1, hrun, Result.andThen_ok]
end
end Go.Aw
namespace Go.Aw
/-- No row, and yet elements. -/
theorem awp_vecNone {P : Program} {n : Nat} {c : Code} {σ : Fr} {st : List Item} {Q : Exit → Fr → List Item → Prop} {t sz m : Nat} (h : look σ t = some (.vec sz none m)) (hm : 0 < m) : AWP P n c σ st Q := fun F g a w hf hw => by
  obtain ⟨u, hu, hh⟩ := hf.slot _ _ h
  have := (AV.vec_none.1 hh).2
  omega
end Go.Aw
namespace Go.Aw
/-- What deleting one element leaves. -/
theorem del_eq {α : Type} (l : List α) (k : Nat) (hk : k < l.length) : (setMany l (k * 1) ((l.drop ((k + 1) * 1)).take ((l.length - (k + 1)) * 1))).take ((k + (l.length - (k + 1))) * 1) = l.eraseIdx k := by
  simp only [Nat.mul_one]
  rw [List.take_of_length_le (by simp : (l.drop (k + 1)).length ≤ l.length - (k + 1))]
  unfold setMany
  rw [List.eraseIdx_eq_take_drop_succ]
  have h1 : (l.take k ++ l.drop (k + 1)).length = k + (l.length - (k + 1)) := by simp; omega
  rw [← h1, List.take_left]
end Go.Aw

/- An abstract walk: rows that are never written again, held in other own memory. -/
namespace Go.Aw
/-- An own array, held in a cell of other own memory, is never written again. -/
theorem Weak.freezeC {n : Nat} {σ : Fr} {st r : List Item} {a i j sz : Nat} {cs : List AV} {xs : List (List AV)} {pad : List AV} (hl : ∀ x ∈ xs, x.length = sz) (hi : cs[i]? = some (.arr j 0 xs.length)) (ht : Takes st [.cells j (xs.flatten ++ pad), .cells a cs] r) : Weak n σ st σ (.cells a (cs.set i (.sl sz xs)) :: r) := fun F g ac w hf hw => by
  have hw1 : RelW g (.cells j (xs.flatten ++ pad) :: .cells a cs :: (r ++ F)) w := hw.perm (ht.perm.append_right F)
  obtain ⟨b, p, s, vs, E, k1, k2, k3, k4, k5, k6⟩ := hw1.tailOf.items _ (List.mem_cons_self ..)
  obtain ⟨u, hu, hh⟩ := k3.get _ _ hi
  obtain ⟨b2, p2, s2, cap, hloc, e, hcap⟩ := AV.arr_holds.1 hh
  obtain ⟨g', h1, h2, h3⟩ := RelW.freeze hw1 hloc
  have hx : g.ext g' := ⟨h1.le, fun q hq => by
    rcases Classical.em (q = j) with e | e
    · subst e
      have := h1.le.loc _ _ hloc
      rw [this, hloc]
    · exact h1.keep q hq e⟩
  refine ⟨g', hx, hf.mono h1.le, ?_⟩
  have hsl : (AV.sl sz xs).holds g' u := by
    rw [AV.sl_holds]
    refine ⟨_, cap, e, hcap, hl, fun hne => ⟨b2, 0, rfl, ?_⟩⟩
    have := h3.take xs.flatten.length
    rwa [List.take_left] at this
  obtain ⟨b', p', s', vs', E', q1, q2, q3, q4, q5, q6⟩ := h2.items _ (List.mem_cons_self ..)
  have q1' := h1.le.loc _ _ k1
  rw [q1'] at q1; cases q1
  rw [k2] at q2; cases q2
  have hset := q3.set i _ u hsl
  have hvs : vs.toList.set i u = vs.toList := by
    refine List.ext_getElem? fun q => ?_
    rw [List.getElem?_set]
    split
    · rename_i e2; subst e2
      split
      · exact hu.symm
      · rename_i hlt
        rw [List.getElem?_eq_none (by simpa using hlt)]
    · rfl
  rw [hvs] at hset
  refine RelW.cons h2.tailOf ⟨b, p, s, vs, E, q1', k2, hset, k4, q5, q6⟩ (fun b3 hb3 => h2.head_notin (by simpa [Item.blk, Item.id?] using hb3))
/-- Values of own memory, seen another way. -/
theorem VShift.freezeR {st r : List Item} {j sz : Nat} {xs : List (List AV)} {pad : List AV} {n : Nat} (hn : n = xs.length) (hl : ∀ x ∈ xs, x.length = sz) (ht : Takes st [.cells j (xs.flatten ++ pad)] r) : VShift (.arr j 0 n) st (.sl sz xs) r := fun F g u w hw hv => by
  subst hn
  obtain ⟨b, p, s, cap, hloc, e, hcap⟩ := AV.arr_holds.1 hv
  obtain ⟨g', k1, k2, k3⟩ := RelW.freeze (hw.perm (ht.perm.append_right F)) hloc
  have hx : g.ext g' := ⟨k1.le, fun q hq => by
    rcases Classical.em (q = j) with e | e
    · subst e
      have := k1.le.loc _ _ hloc
      rw [this, hloc]
    · exact k1.keep q hq e⟩
  refine ⟨g', hx, k2, ?_⟩
  rw [AV.sl_holds]
  refine ⟨_, cap, e, hcap, hl, fun hne => ⟨b, 0, rfl, ?_⟩⟩
  have := k3.take xs.flatten.length
  rwa [List.take_left] at this
end Go.Aw

/- An abstract walk: loops whose rounds range over functions. -/
namespace Go.Aw
section
variable {P : Program} {n : Nat} {σ : Fr} {st : List Item}
theorem awx_loop3 {ro : Option Nat} {c : Code} {ms : List Nat} {Q : Exit → List Nat → Fr → List Item → Prop} {X : Type} (ts : List Nat) {σk : Fr} (hk : Keeps σ ts σk) (mod : Fr → X → Fr) (mit : List Item → X → List Item) (dom : X → Prop) (μ : X → Nat) (x0 : X) (hstart : Weak n σ st (mod σk x0) (mit (markIts ms) x0)) (h0 : dom x0)
    (hround : ∀ ms1 x, dom x → AWX ro P n c ms1 (mod σk x) (mit (markIts ms1) x) (thenX (fun ms' σ' st' => ∃ x', dom x' ∧ μ x' < μ x ∧ Weak n σ' st' (mod σk x') (mit (markIts ms') x')) Q)) : AWX ro P n (.loop c) ms σ st Q := by
  intro F g a w hf hm hw
  obtain ⟨g0, hx0, hf0, hw0⟩ := hstart F g _ w hf hw
  let I : Act → World → Nat → Prop := fun a w m => ∃ x g1 ms1, dom x ∧ μ x = m ∧ g.ext g1 ∧ RelF n g1 (mod σk x) { a with defers := [] } ∧ Marks g1 ms1 a.defers ∧ RelW g1 (mit (markIts ms1) x ++ F) w
  have key : ∀ m a w, I a w m → ∀ (b : Frame) (k : List Go.Item) (cs : List Frame), b.roundOf = (wd ro).round → (wd ro).fn b.fn → (wd ro).room (cs.length + 1 + 0) →
      ∃ e a' w', (∃ g' σ' st' ms', g.ext g' ∧ RelF n g' σ' { a' with defers := [] } ∧ Marks g' ms' a'.defers ∧ RelW g' (st' ++ F) w' ∧ Q e ms' σ' st') ∧ ArrivesIn (Machine.fenced P (wd ro)) P (lone (b.atR a (.code c :: .inLoop c :: k)) cs w) b k cs e a' w' := by
    intro m
    induction m using Nat.strongRecOn with
    | _ m ih =>
      rintro a w ⟨x, g1, ms1, hd, hmx, hx1, hf1, hm1, hw1⟩ b k cs hro hb hr
      obtain ⟨e, a₁, w₁, ⟨g', σ', st', ms', hx, hf', hm', hw', hq⟩, harr⟩ := hround ms1 x hd F g1 a w hf1 hm1 hw1 b (.inLoop c :: k) cs hro hb hr
      cases e with
      | normal =>
        obtain ⟨x', hd', hlt, hwk⟩ := hq
        obtain ⟨g2, hx2, hf2, hw2⟩ := hwk F g' _ w₁ hf' hw'
        obtain ⟨e₂, a₂, w₂, hq₂, harr₂⟩ := ih (μ x') (hmx ▸ hlt) a₁ w₁ ⟨x', g2, ms', hd', rfl, (hx1.trans hx).trans hx2, hf2, hm'.mono hx2.le, hw2⟩ b k cs hro hb hr
        exact ⟨e₂, a₂, w₂, hq₂, .of_steps (StepsIn.trans harr (.one (fenced_calm hb hr rfl) stepR_inLoop)) harr₂⟩
      | exit id => exact ⟨_, a₁, w₁, ⟨g', σ', st', ms', hx1.trans hx, hf', hm', hw', hq⟩, .pass (x := .inLoop c) rfl (fun _ _ => .inl (by simp)) harr⟩
      | goto l => exact ⟨_, a₁, w₁, ⟨g', σ', st', ms', hx1.trans hx, hf', hm', hw', hq⟩, .pass (x := .inLoop c) rfl (fun _ _ => .inl (by simp)) harr⟩
      | ret => exact ⟨_, a₁, w₁, ⟨g', σ', st', ms', hx1.trans hx, hf', hm', hw', hq⟩, .pass (x := .inLoop c) rfl (fun _ _ => .inl (by simp)) harr⟩
      | panic ch => exact ⟨_, a₁, w₁, ⟨g', σ', st', ms', hx1.trans hx, hf', hm', hw', hq⟩, .pass (x := .inLoop c) rfl (fun _ _ => .inl (by simp)) harr⟩
      | outgrown => exact ⟨_, a₁, w₁, ⟨g', σ', st', ms', hx1.trans hx, hf', hm', hw', hq⟩, .pass (x := .inLoop c) rfl (fun _ _ => .inl (by simp)) harr⟩
  intro b k cs hro hb hr
  obtain ⟨e, a', w', hq, harr⟩ := key _ a w ⟨x0, g0, ms, h0, rfl, hx0, hf0, hm.mono hx0.le, hw0⟩ b k cs hro hb hr
  exact ⟨e, a', w', hq, .of_steps (.one (fenced_calm hb hr rfl) stepR_loop) harr⟩
end
end Go.Aw
namespace Go.Aw
/-- A range whose rounds may leave the block around it. -/
theorem afterX_exit {P : Program} {n : Nat} {ms : List Nat} {σ : Fr} {st : List Item} {id : Nat} {Q : Exit → List Nat → Fr → List Item → Prop} {j : Option Code} (hj : j = none ∨ j = some (.exit id)) (h : Q .normal ms σ st) : afterX P n ms σ st (inBlockX id Q) j := by
  rcases hj with rfl | rfl
  · exact h
  · refine awx_exit ?_
    show inBlockX id Q (.exit id) ms σ st
    unfold inBlockX
    simp only [Nat.beq_refl]
    exact h
end Go.Aw

/- An abstract walk: strings. -/
namespace Go.Aw
section
variable {P : Program} {σ : Fr} {st : List Item} {i : Nat} {d : Option Tmp} {ty : TypeId} {pos : String} {after : Array Edge} {gd : Option (Nat × Bool)}
theorem y_strLen {T : TypeId} {x : Operand} {b : ByteArray} (hT : P.underlying T = some .string) (hx : Ev σ x (.val (.string b))) : Yields P ⟨d, .call { callee := .builtin .len, args := #[x], argTypes := #[T] }, ty, pos, after, gd⟩ σ st i (.int (b.size : Int)) st := fun F g a w hw hi hs => by
  have e := AV.val_holds.1 (hx.holds hs (by simp [Op.operands, Call.operands]))
  exact goes_value (u := .int .i64 (b.size : Int)) (by simp [execOp, resolve, invoke, builtin, e, Builtin.len_, run_underlying hT, goInt]) ⟨g, Ghost.to.refl g i, hw, AV.val_self _⟩
theorem y_strEq {T T' : TypeId} {x y : Operand} {b c : ByteArray} (hx : Ev σ x (.val (.string b))) (hy : Ev σ y (.val (.string c))) : Yields P ⟨d, .binOp .eql T x y T', ty, pos, after, gd⟩ σ st i (.bool (b.toList == c.toList)) st := fun F g a w hw hi hs => by
  have e1 := AV.val_holds.1 (hx.holds hs (by simp [Op.operands]))
  have e2 := AV.val_holds.1 (hy.holds hs (by simp [Op.operands]))
  exact goes_value (u := .bool (b.toList == c.toList)) (by simp [execOp, e1, e2, eqGuard, binOp, Op.stringOp]) ⟨g, Ghost.to.refl g i, hw, AV.val_self _⟩
theorem y_strNe {T T' : TypeId} {x y : Operand} {b c : ByteArray} (hx : Ev σ x (.val (.string b))) (hy : Ev σ y (.val (.string c))) : Yields P ⟨d, .binOp .neq T x y T', ty, pos, after, gd⟩ σ st i (.bool (!(b.toList == c.toList))) st := fun F g a w hw hi hs => by
  have e1 := AV.val_holds.1 (hx.holds hs (by simp [Op.operands]))
  have e2 := AV.val_holds.1 (hy.holds hs (by simp [Op.operands]))
  exact goes_value (u := .bool (!(b.toList == c.toList))) (by simp [execOp, e1, e2, eqGuard, binOp, Op.stringOp]) ⟨g, Ghost.to.refl g i, hw, AV.val_self _⟩
/-- The bytes of a string. -/
def bys (b : ByteArray) : List Int := b.data.toList.map (fun x => (x.toNat : Int))
theorem bys_len (b : ByteArray) : (bys b).length = b.size := by
  unfold bys; rw [List.length_map, Array.length_toList]; rfl
theorem y_strIndex {T : TypeId} {x ix : Operand} {b : ByteArray} {kd : IntKind} {q : Int} {k : Nat} (hT : P.underlying T = some .string) (hx : Ev σ x (.val (.string b))) (hix : Ev σ ix (.val (.int kd q))) (hq : q = (k : Int)) (hk : k < (bys b).length) :
    Yields P ⟨d, .index T x ix, ty, pos, after, gd⟩ σ st i (.val (.int .u8 (bys b)[k])) st := fun F g a w hw hi hs => by
  have e1 := AV.val_holds.1 (hx.holds hs (by simp [Op.operands]))
  have e2 := AV.val_holds.1 (hix.holds hs (by simp [Op.operands]))
  subst hq
  have hk2 : k < b.size := by rw [bys_len] at hk; exact hk
  have hk3 : k < (b.data.toList.map (fun x => (x.toNat : Int))).length := hk
  have e3 : (bys b)[k] = ((b[k].toNat : Nat) : Int) := by
    show (b.data.toList.map (fun x => (x.toNat : Int)))[k]'hk3 = _
    rw [List.getElem_map, Array.getElem_toList]; rfl
  refine goes_value (u := .int .u8 (bys b)[k]) ?_ ⟨g, Ghost.to.refl g i, hw, AV.val_self _⟩
  have e4 : Value.int .u8 (bys b)[k] = .int .u8 (b[k].toNat : Int) := congrArg _ e3
  rw [e4]
  simp [execOp, e1, e2, Instr.index, asIntOf, run_underlying hT, hk2]
end
end Go.Aw
namespace Go.Aw
theorem cell_freeze {w : World} {a : Addr} {b o : Nat} : (w.freeze a 1).cell? ⟨b, o, none⟩ = w.cell? ⟨b, o, none⟩ := by
  unfold World.freeze World.cell?
  rw [if_neg (by decide)]
  simp only [Array.getElem?_modify]
  by_cases h : a.block = b
  · subst h
    simp only [if_true]
    cases e : w.heap[a.block]? with
    | none => rfl
    | some x => cases x <;> rfl
  · simp [h]
theorem grownBy_freeze {w : World} {a : Addr} : w.grownBy (w.freeze a 1) (some a.block) := by
  refine ⟨rfl, rfl, rfl, ?_, fun k hk hne => ?_⟩
  · unfold World.freeze; rw [if_neg (by decide)]; simp
  · unfold World.freeze; rw [if_neg (by decide)]
    simp only [Array.getElem?_modify]
    rw [if_neg (fun e => hne (by rw [e]))]
theorem RelW.freezeBlk {g : Ghost} {st : List Item} {w : World} {a : Addr} (h : RelW g st w) (hB : g.B ≤ a.block) (hn : ∀ it ∈ st, it.blk g ≠ some a.block) : RelW g st (w.freeze a 1) :=
  h.evolve (row := some a.block) (Ghost.le.refl g) grownBy_freeze (fun b hb => by cases hb; exact hB)
    (fun b o v hv => .inr (by rw [cell_freeze]; exact h.com _ _ _ hv))
    (fun it hi b hb => ⟨fun e => by cases e; exact hn it hi hb, fun _ => rfl⟩) h.fresh
end Go.Aw
namespace Go.Aw
section
variable {P : Program} {σ : Fr} {st : List Item} {i : Nat} {d : Option Tmp} {ty : TypeId} {pos : String} {after : Array Edge} {gd : Option (Nat × Bool)}
theorem holdsL_bys {g : Ghost} (l : List UInt8) : holdsL g ((l.map (fun x => (x.toNat : Int))).map encU).flatten (l.map (fun x => Value.int .u8 (x.toNat : Int))) := by
  induction l with
  | nil => trivial
  | cons a l ih => exact ⟨AV.val_self _, ih⟩
theorem y_bytes {T T' E by_ : Nat} {x : Operand} {b : ByteArray} (hT : P.underlying T = some .string) [ht : SliceT P T' E 1 by_] (hE : P.underlying E = some (.int .u8)) (hx : Ev σ x (.val (.string b))) :
    Yields P ⟨d, .convert T T' x, ty, pos, after, gd⟩ σ st i (.sl 1 ((bys b).map encU)) st := fun F g a w hw hi hs => by
  have e := AV.val_holds.1 (hx.holds hs (by simp [Op.operands]))
  have hge : b.size ≤ grownCap w b.size 0 E := grownCap_ge w b.size 0 E
  generalize hvs : (b.data.map fun x => Value.int .u8 x.toNat) ++ Array.replicate (grownCap w b.size 0 E - b.size) (Value.int .u8 0) = vs
  have hsz : vs.size = grownCap w b.size 0 E := by
    rw [← hvs, Array.size_append, Array.size_map, Array.size_replicate]
    have : b.data.size = b.size := rfl
    omega
  have hw0 : RelW g (st ++ F) w.drew := hw.drew
  have h1 := hw0.allocCom (vs := vs) E b.size (by omega)
  have hle : g.le (g.commit w.heap.size 0 b.size (fun o => vs[o]?)) := Ghost.le_commit (fun o _ _ => hw.noCom (Nat.le_refl _))
  have h2 := h1.freezeBlk (a := ⟨w.heap.size, vs.size, none⟩) hw.hB (fun it hit eb => by
    have e1 := Item.blk_le (hw.items it hit) hle
    rw [show (g.commit w.drew.heap.size 0 b.size fun o => vs[o]?) = g.commit w.heap.size 0 b.size (fun o => vs[o]?) from rfl, e1] at eb
    exact absurd (hw.blk_ne hit eb).1 (Nat.lt_irrefl _))
  have htk : vs.toList.take b.size = b.data.toList.map (fun x => Value.int .u8 (x.toNat : Int)) := by
    rw [← hvs, Array.toList_append, Array.toList_map]
    exact List.take_left' (by rw [List.length_map, Array.length_toList]; rfl)
  have hfl : ((bys b).map encU).flatten.length = b.size := by
    have := (holdsL_bys (g := g) b.data.toList).length
    rw [List.length_map, Array.length_toList] at this
    exact this
  refine goes_value (u := .slice (some ⟨w.heap.size, 0, none⟩) b.size (grownCap w b.size 0 E)) (w' := (w.drew.alloc (.cells vs E)).freeze ⟨w.heap.size, vs.size, none⟩ 1) ?_ ⟨_, Ghost.to_commit (fun o _ _ => hw.noCom (Nat.le_refl _)), h2, AV.sl_holds.2 ⟨some ⟨w.heap.size, 0, none⟩, grownCap w b.size 0 E, by rw [List.length_map, bys_len], by rw [List.length_map, bys_len]; exact hge, ⟨fun y hy => by obtain ⟨n, _, rfl⟩ := List.mem_map.1 hy; rfl, fun hne => ⟨_, _, rfl, ?_⟩⟩⟩⟩
  · simp only [execOp, e, convert, Sem.run_bind, run_underlying hT, run_underlying ht.und, run_underlying hE, Result.andThen_ok, Conv.stringToBytes]
    have hq : (Question.appendCap b.size 0 E).cut (w.tape w.drawn (Question.appendCap b.size 0 E)) = grownCap w b.size 0 E := rfl
    have hshape : (w.drew.alloc (.cells vs E)).shape? w.heap.size = some (E, vs.size) := by
      have h3 : (w.drew.alloc (.cells vs E)).heap[w.heap.size]? = some (.cells vs E) := heap_alloc_new w.drew _
      unfold World.shape?; rw [h3]
    simp [Question.forced, newRow, markStringish, hq, hvs, hshape, freeze]
    rfl
  · refine comRow_commit hle (by rw [hfl]; exact Nat.le_refl _) ?_ ?_
    · rw [hfl, htk]; exact holdsL_bys _
    · rw [hfl, htk]
      intro u hu
      obtain ⟨n, _, rfl⟩ := List.mem_map.1 hu
      rfl
end
end Go.Aw
namespace Go.Aw
section
variable {P : Program} {σ : Fr} {st : List Item} {i : Nat} {d : Option Tmp} {ty : TypeId} {pos : String} {after : Array Edge} {gd : Option (Nat × Bool)}
theorem y_strIndexM {T : TypeId} {x ix : Operand} {b : ByteArray} {kd : IntKind} {q : Int} {k : Nat} {e : Int} (hT : P.underlying T = some .string) (hx : Ev σ x (.val (.string b))) (hix : Ev σ ix (.val (.int kd q))) (hq : q = (k : Int)) (he : ∃ h : k < (bys b).length, (bys b)[k] = e) :
    Yields P ⟨d, .index T x ix, ty, pos, after, gd⟩ σ st i (.val (.int .u8 e)) st := by
  obtain ⟨h, rfl⟩ := he
  exact y_strIndex hT hx hix hq h
end
end Go.Aw

/- An abstract walk: a growing row of the function's own is written in place, and given up. -/
namespace Go.Aw
section
variable {P : Program} {σ : Fr} {st st1 : List Item} {i : Nat} {d : Option Tmp} {ty : TypeId} {pos : String} {after : Array Edge} {gd : Option (Nat × Bool)} {w : World}
/-- A cell of an own row is written. -/
theorem y_vstore {T j off : Nat} {x y : Operand} {xs ds : List AV} {v : AV} {st' : List Item} {n : Nat} [hc : Cells v ds] (hT : sizeB P T = some n) (hn : ds.length = n) (hx : Ev σ x (.ptr j off)) (hy : Ev σ y v) (hu : Upd st (.vec (some j) xs) (.vec (some j) (setMany xs off ds)) st') (hfit : off + n ≤ xs.length) :
    Yields P ⟨d, .store T x y, ty, pos, after, gd⟩ σ st i (.val undef) st' := fun F g a w hw hi hs => by
  obtain ⟨b, p, s, hl, e⟩ := AV.ptr_holds.1 (hx.holds hs (by simp [Op.operands]))
  obtain ⟨us, e2, k1, k2⟩ := hc.cells g _ (hy.holds hs (by simp [Op.operands]))
  obtain ⟨r, p1, p2⟩ := hu.perm
  have hw1 : RelW g (.vec (some j) xs :: (r ++ F)) w := hw.perm (p1.append_right F)
  obtain ⟨b', p', s', vs, E, h1, h2, h3, h4, h5, h6, h7, h8⟩ := hw1.items _ (List.mem_cons_self ..)
  rw [hl] at h1; cases h1
  have hl2 := k1.length
  have hvl : vs.toList.length = s := by simpa using h3
  have hrun := run_storeVar_at (P := P) (w := w) (T := T) (o := off) (v := a.eval y) (by rw [hT, ← hn, hl2]) e2 k2 h2 (by omega)
  have hsl : (setMany xs off ds).length = xs.length := setMany_len (by omega)
  refine goes_skip (w' := w.setRow b (setMany vs.toList off us).toArray) ?_ ⟨g, Ghost.to.refl g i, ?_, AV.val_self _⟩
  · simp only [execOp, e, Instr.storeAt, Instr.sureAddr]
    rw [Sem.run_bind, Sem.run_bind, Sem.run_pure]
    simp only [Result.andThen_ok]
    rw [hrun]; rfl
  · have := hw1.storeVec (xs' := setMany xs off ds) hl (vs' := (setMany vs.toList off us).toArray) (by rw [List.size_toArray, setMany_len (by omega), hvl]) (by rw [hsl]; exact h4) (by
        rw [hsl]
        have hm := h5.setMany off k1
        have he : setMany (vs.toList.take xs.length) off us = (setMany vs.toList off us).take xs.length := by
          unfold setMany
          have q1 : (vs.toList.take xs.length).take off = vs.toList.take off := by rw [List.take_take, Nat.min_eq_left (by omega)]
          have q2 : (vs.toList.take xs.length).drop (off + us.length) = (vs.toList.drop (off + us.length)).take (xs.length - (off + us.length)) := by rw [List.drop_take]
          rw [q1, q2]
          have q3 : (vs.toList.take off ++ us).length = off + us.length := by rw [List.length_append, List.length_take]; omega
          conv => rhs; rw [show xs.length = (vs.toList.take off ++ us).length + (xs.length - (off + us.length)) by rw [q3]; omega]
          rw [List.take_length_add_append]
        rw [he] at hm
        exact hm) (fun u hu => by
      simp only [setMany, List.mem_append] at hu
      rcases hu with (hu | hu) | hu
      · exact h6 u (List.mem_of_mem_take hu)
      · exact k2 u hu
      · exact h6 u (List.mem_of_mem_drop hu))
    exact this.perm (p2.append_right F).symm
end
/-- A row is given up: its cells are never written again. -/
theorem RelW.freezeVec {g : Ghost} {st : List Item} {w : World} {i : Nat} {xs : List AV} (h : RelW g (.vec (some i) xs :: st) w) {b p s : Nat} (hl : g.loc i = some (b, p, s)) :
    ∃ g', g.to i g' ∧ (∀ q, g'.loc q = g.loc q) ∧ RelW g' st w ∧ comRow g' b 0 xs := by
  obtain ⟨b', p', s', vs, E, k1, k2, k3, k4, k5, k6, k7, k8⟩ := h.items _ (List.mem_cons_self ..)
  rw [hl] at k1; cases k1
  have hne := h.head_notin (b := b) (by simp [Item.blk, Item.id?, hl])
  have ht := h.tailOf
  have hc : ∀ o, 0 ≤ o → o < xs.length → g.com b o = none := fun o _ _ => k7 o
  have hle := Ghost.le_commit (f := fun o => vs[o]?) hc
  have hvl : vs.toList.length = s := by simpa using k3
  refine ⟨g.commit b 0 xs.length (fun o => vs[o]?), Ghost.to_commit hc, fun _ => rfl, ?_, ?_⟩
  · refine ht.evolve (row := none) hle ⟨rfl, rfl, rfl, Nat.le_refl _, fun _ _ _ => rfl⟩ (fun b hb => by cases hb) (fun b' o v hv => ?_) (fun it hit b' hb' => ⟨by simp, fun o => ?_⟩) h.fresh
    · replace hv : (if b' = b ∧ 0 ≤ o ∧ o < xs.length then vs[o]? else g.com b' o) = some v := hv
      split at hv
      · rename_i e; obtain ⟨rfl, _⟩ := e
        right; simp [World.cell?, k2, hv]
      · exact .inl ⟨hv, by simp⟩
    · show (if b' = b ∧ _ then _ else _) = _
      rw [if_neg]
      rintro ⟨rfl, _⟩
      exact hne it hit hb'
  · refine comRow.of (k5.mono hle) (fun u hu => k6 u (List.mem_of_mem_take hu)) (fun q v hv => ?_)
    rw [List.getElem?_take] at hv
    split at hv
    · rename_i hq
      show (if b = b ∧ 0 ≤ 0 + q ∧ 0 + q < xs.length then vs[0 + q]? else _) = some v
      rw [if_pos ⟨rfl, by omega, by omega⟩, Nat.zero_add]
      simpa using hv
    · cases hv
/-- An own row, held in a cell of other own memory, is never written again. -/
theorem Weak.freezeV {n : Nat} {σ : Fr} {st r : List Item} {a i sz m : Nat} {t : Option Nat} {cs : List AV} {xs : List (List AV)} (hm : m = xs.length) (hl : ∀ x ∈ xs, x.length = sz) (hi : cs[i]? = some (.vec sz t m)) (ht : Takes st [.vec t xs.flatten, .cells a cs] r) : Weak n σ st σ (.cells a (cs.set i (.sl sz xs)) :: r) := fun F g ac w hf hw => by
  subst hm
  have hw1 : RelW g (.vec t xs.flatten :: .cells a cs :: (r ++ F)) w := hw.perm (ht.perm.append_right F)
  obtain ⟨b, p, s, vs, E, k1, k2, k3, k4, k5, k6⟩ := hw1.tailOf.items _ (List.mem_cons_self ..)
  obtain ⟨u, hu, hh⟩ := k3.get _ _ hi
  have hvs : vs.toList.set i u = vs.toList := by
    refine List.ext_getElem? fun q => ?_
    rw [List.getElem?_set]
    split
    · rename_i e2; subst e2
      split
      · exact hu.symm
      · rename_i hlt
        rw [List.getElem?_eq_none (by simpa using hlt)]
    · rfl
  cases t with
  | none =>
    obtain ⟨⟨xa, e⟩, hn⟩ := AV.vec_none.1 hh
    have hx0 : xs = [] := List.eq_nil_of_length_eq_zero hn
    subst hx0
    have hsl : (AV.sl sz []).holds g u := by
      rw [AV.sl_holds]
      exact ⟨xa, 0, e, Nat.le_refl _, by simp, fun h => absurd rfl h⟩
    have hset := k3.set i _ u hsl
    rw [hvs] at hset
    refine ⟨g, Ghost.ext.refl g, hf, RelW.cons hw1.tailOf.tailOf ⟨b, p, s, vs, E, k1, k2, hset, k4, k5, k6⟩ (fun b3 hb3 => hw1.tailOf.head_notin (by simpa [Item.blk, Item.id?] using hb3))⟩
  | some j =>
    obtain ⟨b2, p2, s2, cap, hloc, e, hcap, hS⟩ := AV.vec_some.1 hh
    obtain ⟨g', h1, h1', h2, h3⟩ := RelW.freezeVec hw1 hloc
    have hx : g.ext g' := ⟨h1.le, fun q hq => h1' q⟩
    refine ⟨g', hx, hf.mono h1.le, ?_⟩
    have hsl : (AV.sl sz xs).holds g' u := by
      rw [AV.sl_holds]
      exact ⟨_, cap, e, hcap, hl, fun hne => ⟨b2, 0, rfl, h3⟩⟩
    obtain ⟨b', p', s', vs', E', q1, q2, q3, q4, q5, q6⟩ := h2.items _ (List.mem_cons_self ..)
    have q1' := h1.le.loc _ _ k1
    rw [q1'] at q1; cases q1
    rw [k2] at q2; cases q2
    have hset := q3.set i _ u hsl
    rw [hvs] at hset
    exact RelW.cons h2.tailOf ⟨b, p, s, vs, E, q1', k2, hset, k4, q5, q6⟩ (fun b3 hb3 => h2.head_notin (by simpa [Item.blk, Item.id?] using hb3))
end Go.Aw
namespace Go.Aw
section
variable {P : Program} {σ : Fr} {st : List Item} {i : Nat} {d : Option Tmp} {ty : TypeId} {pos : String} {after : Array Edge} {gd : Option (Nat × Bool)} {w : World}
/-- A call that yields a row of the function's own. -/
theorem y_callVec {c : Operand} {args : Array Operand} {ts : Array TypeId} {fv : AV} {f : FuncId} {caps vs : List AV} {sz n : Nat} {xs : List AV} [hf : Fun fv f caps] (hc : Ev σ c fv) (hargs : EvL σ args.toList vs)
    (h : ACalls P f (vs ++ caps) [] (fun v' st'' => ∃ j, v' = .vec sz (some j) n ∧ st'' = [.vec (some j) xs])) : Yields P ⟨d, .call { callee := .value c, args := args, argTypes := ts }, ty, pos, after, gd⟩ σ st i (.vec sz (some i) n) (.vec (some i) xs :: st) := fun F g a w hw hi hs => by
  obtain ⟨us, e, hus⟩ := AV.clo_holds.1 (hf.imp _ _ (hc.holds hs (by simp [Op.operands, Call.operands])))
  have hv := hargs.holds hs (fun x hx => by simp [Op.operands, Call.operands]; right; simpa using hx)
  have hb := hw.bump i
  have hle : g.le (g.bump i) := ⟨rfl, rfl, fun _ _ _ h => h, fun _ _ h => h, Nat.le_max_left _ _⟩
  refine goes_call (run_call h.1 e) ((h.2 (st ++ F) (g.bump i) w _ hb ((hv.append hus).mono hle)).mono fun e' w' ⟨u, v', st'', g', he, hx, hw', hv', j, hq, hst⟩ => ?_)
  subst hq hst
  have hi' : g'.loc i = none := (hx.keep i (Nat.lt_of_lt_of_le (Nat.lt_succ_self i) (Nat.le_max_right _ _))).trans hi
  obtain ⟨b, p, s, cap, hloc, hval, hcap, hS⟩ := AV.vec_some.1 hv'
  have k2 := RelW.renameVec (st := st ++ F) hw' hi' hloc
  refine ⟨u, he, g'.setLoc i (b, p, s), ?_, k2, ?_⟩
  · have h1 : g.to i g' := ⟨hle.trans hx.le, fun q hq hne => hx.keep q (Nat.lt_of_lt_of_le hq (Nat.le_max_left _ _))⟩
    exact h1.trans (Ghost.to_setLoc hi')
  · exact AV.vec_some.2 ⟨b, p, s, cap, Ghost.setLoc_same, hval, hcap, hS⟩
end
end Go.Aw
namespace Go.Aw
section
variable {P : Program} {σ : Fr} {st : List Item} {ty : TypeId} {pos : String} {after : Array Edge}
/-- A call of a method with its receiver. -/
theorem aops_callB {n : Nat} {ops : Array Oper} {rest : List Oper} {K : Fr → List Item → Prop} {dd : Nat} {c : Operand} {args : Array Operand} {ts : Array TypeId} {f : FuncId} {fs vs : List AV} (hd : dd < n)
    (hc : Ev σ c (.bnd f fs)) (hargs : EvL σ args.toList vs) (h : ACalls P f (fs ++ vs) st (fun v st' => AOps P n ops rest ((dd, v) :: σ) st' K)) : AOps P n ops (⟨some dd, .call { callee := .value c, args := args, argTypes := ts }, ty, pos, after, none⟩ :: rest) σ st K := by
  intro F g a w hfr hw
  have hs : Slots g σ a (opTmps ⟨some dd, .call { callee := .value c, args := args, argTypes := ts }, ty, pos, after, none⟩) := hfr.slots _
  obtain ⟨us, e, hus⟩ := AV.bnd_holds.1 (hc.holds hs (by simp [Op.operands, Call.operands]))
  have hv := hargs.holds hs (fun x hx => by simp [Op.operands, Call.operands]; right; simpa using hx)
  unfold wpList
  rw [if_pos (by simp [Region.wanted])]
  left
  have hg : Goes P ⟨some dd, .call { callee := .value c, args := args, argTypes := ts }, ty, pos, after, none⟩ a w (fun u w' => ∃ (v : AV) (st' : List Item) (g' : Ghost), g.ext g' ∧ RelW g' (st' ++ F) w' ∧ v.holds g' u ∧ AOps P n ops rest ((dd, v) :: σ) st' K) :=
    goes_call (run_callB h.1 e) ((h.2 F g w _ hw (hus.append hv)).mono fun e' w' ⟨u, v', st'', g', he, r⟩ => ⟨u, he, v', st'', g', r⟩)
  exact hg.wp fun u w' ⟨v, st', g', hx, hw', hv', hk⟩ => wpList_ext hx (hk F g' _ w' ((hfr.mono hx.le).put hd hv') hw')
end
end Go.Aw
