/- An abstract walk over the model: ghosts, abstract values, items, frames; the rules of code and of most steps. For every program. No condition. -/
import Derived.WalkKit
set_option linter.unusedVariables false
set_option linter.unusedSimpArgs false
/- An abstract walk: ghosts, abstract values, items, the relation to a world. -/
namespace Go.Aw
open Go.RowKit (Below)

structure Ghost where
  B : Nat
  w0 : World
  com : Nat → Nat → Option Value
  loc : Nat → Option (Nat × Nat × Nat)
  next : Nat

structure Ghost.le (g g' : Ghost) : Prop where
  B : g'.B = g.B
  w0 : g'.w0 = g.w0
  com : ∀ b o v, g.com b o = some v → g'.com b o = some v
  loc : ∀ i x, g.loc i = some x → g'.loc i = some x
  next : g.next ≤ g'.next

theorem Ghost.le.refl (g : Ghost) : g.le g := ⟨rfl, rfl, fun _ _ _ h => h, fun _ _ h => h, Nat.le_refl _⟩
theorem Ghost.le.trans {a b c : Ghost} (h : a.le b) (k : b.le c) : a.le c :=
  ⟨k.B.trans h.B, k.w0.trans h.w0, fun _ _ _ e => k.com _ _ _ (h.com _ _ _ e), fun _ _ e => k.loc _ _ (h.loc _ _ e), Nat.le_trans h.next k.next⟩

structure AV where
  holds : Ghost → Value → Prop
  mono : ∀ {g g' : Ghost} {v : Value}, g.le g' → holds g v → holds g' v

def holdsL (g : Ghost) : List AV → List Value → Prop
  | [], [] => True
  | c :: cs, v :: vs => c.holds g v ∧ holdsL g cs vs
  | _, _ => False

theorem holdsL.mono {g g' : Ghost} (h : g.le g') : ∀ {cs : List AV} {vs : List Value}, holdsL g cs vs → holdsL g' cs vs
  | [], [], _ => trivial
  | c :: cs, v :: vs, ⟨a, b⟩ => ⟨c.mono h a, holdsL.mono h b⟩

theorem holdsL.length {g : Ghost} : ∀ {cs : List AV} {vs : List Value}, holdsL g cs vs → cs.length = vs.length
  | [], [], _ => rfl
  | _ :: _, _ :: _, ⟨_, b⟩ => by simp [holdsL.length b]

theorem holdsL.get {g : Ghost} : ∀ {cs : List AV} {vs : List Value} (_ : holdsL g cs vs) (i : Nat) (c : AV), cs[i]? = some c → ∃ v, vs[i]? = some v ∧ c.holds g v
  | [], [], _, i, c, h => by simp at h
  | c :: cs, v :: vs, ⟨a, b⟩, 0, c', h => by simp at h; subst h; exact ⟨v, rfl, a⟩
  | c :: cs, v :: vs, ⟨a, b⟩, i + 1, c', h => by simpa using holdsL.get b i c' (by simpa using h)

theorem holdsL.get' {g : Ghost} : ∀ {cs : List AV} {vs : List Value} (_ : holdsL g cs vs) (i : Nat) (v : Value), vs[i]? = some v → ∃ c, cs[i]? = some c ∧ c.holds g v
  | [], [], _, i, c, h => by simp at h
  | c :: cs, v :: vs, ⟨a, b⟩, 0, c', h => by simp at h; subst h; exact ⟨c, rfl, a⟩
  | c :: cs, v :: vs, ⟨a, b⟩, i + 1, c', h => by simpa using holdsL.get' b i c' (by simpa using h)

theorem holdsL.append {g : Ghost} : ∀ {cs ds : List AV} {vs us : List Value}, holdsL g cs vs → holdsL g ds us → holdsL g (cs ++ ds) (vs ++ us)
  | [], _, [], _, _, h => h
  | _ :: _, _, _ :: _, _, ⟨a, b⟩, h => ⟨a, holdsL.append b h⟩

theorem holdsL.take {g : Ghost} : ∀ {cs : List AV} {vs : List Value} (n : Nat), holdsL g cs vs → holdsL g (cs.take n) (vs.take n)
  | [], [], n, _ => by simp [holdsL]
  | c :: cs, v :: vs, 0, _ => by simp [holdsL]
  | c :: cs, v :: vs, n + 1, ⟨a, b⟩ => ⟨a, holdsL.take n b⟩

theorem holdsL.drop {g : Ghost} : ∀ {cs : List AV} {vs : List Value} (n : Nat), holdsL g cs vs → holdsL g (cs.drop n) (vs.drop n)
  | [], [], n, _ => by simp [holdsL]
  | c :: cs, v :: vs, 0, h => h
  | c :: cs, v :: vs, n + 1, ⟨a, b⟩ => holdsL.drop n b

theorem holdsL.set {g : Ghost} : ∀ {cs : List AV} {vs : List Value} (i : Nat) (c : AV) (v : Value), holdsL g cs vs → c.holds g v → holdsL g (cs.set i c) (vs.set i v)
  | [], [], n, _, _, _, _ => by simp [holdsL]
  | _ :: _, _ :: _, 0, _, _, ⟨_, b⟩, k => ⟨k, b⟩
  | _ :: _, _ :: _, n + 1, c, v, ⟨a, b⟩, k => ⟨a, holdsL.set n c v b k⟩

/-- A committed row of cells. -/
def comRow (g : Ghost) (b : Nat) : Nat → List AV → Prop
  | _, [] => True
  | o, c :: cs => (∃ v, g.com b o = some v ∧ c.holds g v ∧ v.oneCell' = true) ∧ comRow g b (o + 1) cs

theorem comRow.mono {g g' : Ghost} (h : g.le g') {b : Nat} : ∀ {o : Nat} {cs : List AV}, comRow g b o cs → comRow g' b o cs
  | _, [], _ => trivial
  | _, c :: _, ⟨⟨v, a, b, d⟩, r⟩ => ⟨⟨v, h.com _ _ _ a, c.mono h b, d⟩, comRow.mono h r⟩

theorem comRow.get {g : Ghost} {b : Nat} : ∀ {o : Nat} {cs : List AV} (_ : comRow g b o cs) (i : Nat) (c : AV), cs[i]? = some c → ∃ v, g.com b (o + i) = some v ∧ c.holds g v ∧ v.oneCell' = true
  | o, c :: cs, ⟨a, r⟩, 0, c', h => by simp at h; subst h; exact a
  | o, c :: cs, ⟨a, r⟩, i + 1, c', h => by
    have := comRow.get r i c' (by simpa using h)
    rwa [show o + 1 + i = o + (i + 1) by omega] at this

theorem comRow.append {g : Ghost} {b : Nat} : ∀ {o : Nat} {cs ds : List AV}, comRow g b o cs → comRow g b (o + cs.length) ds → comRow g b o (cs ++ ds)
  | o, [], ds, _, h => by simpa using h
  | o, c :: cs, ds, ⟨a, r⟩, h => ⟨a, comRow.append r (by rwa [show o + 1 + cs.length = o + (c :: cs).length by simp; omega])⟩

theorem comRow.drop {g : Ghost} {b : Nat} : ∀ {o : Nat} {cs : List AV} (n : Nat), comRow g b o cs → n ≤ cs.length → comRow g b (o + n) (cs.drop n)
  | o, cs, 0, h, _ => h
  | o, [], n + 1, _, hn => by simp at hn
  | o, c :: cs, n + 1, ⟨_, r⟩, hn => by
    have := comRow.drop n r (by simpa using hn)
    rwa [show o + 1 + n = o + (n + 1) by omega] at this

theorem comRow.take {g : Ghost} {b : Nat} : ∀ {o : Nat} {cs : List AV} (n : Nat), comRow g b o cs → comRow g b o (cs.take n)
  | o, cs, 0, _ => trivial
  | o, [], n + 1, _ => trivial
  | o, c :: cs, n + 1, ⟨a, r⟩ => ⟨a, comRow.take n r⟩

/-- The values of a committed row. -/
theorem comRow.values {g : Ghost} {b : Nat} : ∀ {o : Nat} {cs : List AV}, comRow g b o cs → ∃ vs : List Value, holdsL g cs vs ∧ (∀ u ∈ vs, u.oneCell' = true) ∧ ∀ i v, vs[i]? = some v → g.com b (o + i) = some v
  | o, [], _ => ⟨[], trivial, by simp, by simp⟩
  | o, c :: cs, ⟨⟨v, a, h, d⟩, r⟩ => by
    obtain ⟨vs, k1, k2, k3⟩ := comRow.values r
    refine ⟨v :: vs, ⟨h, k1⟩, by simpa using ⟨d, k2⟩, fun i u hu => ?_⟩
    cases i with
    | zero => simp at hu; subst hu; exact a
    | succ i => have := k3 i u (by simpa using hu); rwa [show o + 1 + i = o + (i + 1) by omega] at this

theorem comRow.of {g : Ghost} {b : Nat} : ∀ {o : Nat} {cs : List AV} {vs : List Value}, holdsL g cs vs → (∀ u ∈ vs, u.oneCell' = true) → (∀ i v, vs[i]? = some v → g.com b (o + i) = some v) → comRow g b o cs
  | o, [], [], _, _, _ => trivial
  | o, c :: cs, v :: vs, ⟨a, r⟩, h1, h2 => ⟨⟨v, by simpa using h2 0 v rfl, a, h1 v (by simp)⟩, comRow.of r (fun u hu => h1 u (by simp [hu])) (fun i u hu => by
      have := h2 (i + 1) u (by simpa using hu); rwa [show o + (i + 1) = o + 1 + i by omega] at this)⟩

namespace AV
@[irreducible] def val (v : Value) : AV := ⟨fun _ u => u = v, fun _ h => h⟩
@[irreducible] def agg (cs : List AV) : AV := ⟨fun g v => ∃ vs : List Value, v = .agg vs.toArray ∧ holdsL g cs vs ∧ ∀ u ∈ vs, u.oneCell' = true, fun h ⟨vs, a, b, c⟩ => ⟨vs, a, b.mono h, c⟩⟩
@[irreducible] def tup (cs : List AV) : AV := ⟨fun g v => ∃ vs : List Value, v = .tuple vs.toArray ∧ holdsL g cs vs, fun h ⟨vs, a, b⟩ => ⟨vs, a, b.mono h⟩⟩
@[irreducible] def clo (f : Nat) (cs : List AV) : AV := ⟨fun g v => ∃ vs : List Value, v = .func (.func f) #[] vs.toArray ∧ holdsL g cs vs, fun h ⟨vs, a, b⟩ => ⟨vs, a, b.mono h⟩⟩
@[irreducible] def ptr (i off : Nat) : AV := ⟨fun g v => ∃ b p s, g.loc i = some (b, p, s) ∧ v = .pointer (some ⟨b, off, none⟩), fun h ⟨b, p, s, a, c⟩ => ⟨b, p, s, h.loc _ _ a, c⟩⟩
@[irreducible] def arr (i off len : Nat) : AV := ⟨fun g v => ∃ b p s cap, g.loc i = some (b, p, s) ∧ v = .slice (some ⟨b, off, none⟩) len cap ∧ len ≤ cap, fun h ⟨b, p, s, cap, a, c⟩ => ⟨b, p, s, cap, h.loc _ _ a, c⟩⟩
@[irreducible] def eptr (cs : List AV) : AV := ⟨fun g v => ∃ b o, v = .pointer (some ⟨b, o, none⟩) ∧ comRow g b o cs, fun h ⟨b, o, a, c⟩ => ⟨b, o, a, c.mono h⟩⟩

def rows (g : Ghost) (a : Option Addr) (sz : Nat) (xs : List (List AV)) : Prop :=
  (∀ x ∈ xs, x.length = sz) ∧ (xs ≠ [] → ∃ b o, a = some ⟨b, o, none⟩ ∧ comRow g b o xs.flatten)
theorem rows.mono {g g' : Ghost} (h : g.le g') {a : Option Addr} {sz : Nat} {xs : List (List AV)} (k : rows g a sz xs) : rows g' a sz xs :=
  ⟨k.1, fun hx => let ⟨b, o, e, r⟩ := k.2 hx; ⟨b, o, e, r.mono h⟩⟩

@[irreducible] def sl (sz : Nat) (xs : List (List AV)) : AV := ⟨fun g v => ∃ a cap, v = .slice a xs.length cap ∧ xs.length ≤ cap ∧ rows g a sz xs, fun h ⟨a, cap, b, c, d⟩ => ⟨a, cap, b, c, d.mono h⟩⟩
@[irreducible] def full (sz : Nat) (xs : List (List AV)) : AV := ⟨fun g v => ∃ a, v = .slice a xs.length xs.length ∧ (a = none → xs = []) ∧ rows g a sz xs, fun h ⟨a, b, c, d⟩ => ⟨a, b, c, d.mono h⟩⟩
@[irreducible] def own (sz i : Nat) (xs : List (List AV)) : AV :=
  ⟨fun g v => ∃ b pos S off cap, g.loc i = some (b, pos, S) ∧ v = .slice (some ⟨b, off, none⟩) xs.length cap ∧ xs.length ≤ cap ∧ (∀ x ∈ xs, x.length = sz) ∧ comRow g b off xs.flatten ∧ off + xs.length * sz = pos ∧ off + cap * sz ≤ S,
   fun h ⟨b, pos, S, off, cap, a, c, d, e, f, r⟩ => ⟨b, pos, S, off, cap, h.loc _ _ a, c, d, e, f.mono h, r⟩⟩
@[irreducible] def opt (c : Prop) (v : AV) : AV := ⟨fun g u => (c → v.holds g u) ∧ (¬ c → u = undef), fun h ⟨a, b⟩ => ⟨fun k => v.mono h (a k), b⟩⟩
/-- Either a slice without spare room, or one whose spare room is the function's own (token i). -/
def grow (sz : Nat) (t : Option Nat) (xs : List (List AV)) : AV := match t with | none => full sz xs | some i => own sz i xs

abbrev int (n : Int) : AV := val (.int .i64 n)
abbrev bool (b : Bool) : AV := val (.bool b)
end AV

inductive Item where
  | cells (i : Nat) (cs : List AV)
  | tail (t : Option Nat)
  | map (i : Nat) (es : List (Int × AV))
  | raw (i : Nat) (o : Obj)
  | vec (t : Option Nat) (xs : List AV)

/-- The entries of a map from numbers. -/
def mapOk (g : Ghost) : List (Int × AV) → List MapEntry → Prop
  | [], [] => True
  | (k, v) :: es, e :: r => e.key = .int .i64 k ∧ v.holds g e.val ∧ mapOk g es r
  | _, _ => False
theorem mapOk.mono {g g' : Ghost} (h : g.le g') : ∀ {es : List (Int × AV)} {r : List MapEntry}, mapOk g es r → mapOk g' es r
  | [], [], _ => trivial
  | (_, v) :: _, _ :: _, ⟨a, b, c⟩ => ⟨a, v.mono h b, mapOk.mono h c⟩

def Item.ok (g : Ghost) (w : World) : Item → Prop
  | .cells i cs => ∃ b p s vs E, g.loc i = some (b, p, s) ∧ w.heap[b]? = some (.cells vs E (0, 0)) ∧ holdsL g cs vs.toList ∧ (∀ u ∈ vs.toList, u.oneCell' = true) ∧ (∀ o, g.com b o = none) ∧ g.B ≤ b
  | .map i es => ∃ b p s vs c, g.loc i = some (b, p, s) ∧ w.heap[b]? = some (.map vs c) ∧ mapOk g es vs.toList ∧ (∀ o, g.com b o = none) ∧ g.B ≤ b
  | .raw i o => ∃ b p s, g.loc i = some (b, p, s) ∧ w.heap[b]? = some o ∧ (∀ k, g.com b k = none) ∧ g.B ≤ b
  | .vec none _ => True
  | .vec (some i) xs => ∃ b p s vs E, g.loc i = some (b, p, s) ∧ w.heap[b]? = some (.cells vs E (0, 0)) ∧ vs.size = s ∧ xs.length ≤ s ∧ holdsL g xs (vs.toList.take xs.length) ∧ (∀ u ∈ vs.toList, u.oneCell' = true) ∧ (∀ o, g.com b o = none) ∧ g.B ≤ b
  | .tail none => True
  | .tail (some i) => ∃ b pos S vs E, g.loc i = some (b, pos, S) ∧ w.heap[b]? = some (.cells vs E (0, 0)) ∧ vs.size = S ∧ pos ≤ S ∧ (∀ o, pos ≤ o → g.com b o = none) ∧ g.B ≤ b

def Item.id? : Item → Option Nat
  | .cells i _ => some i
  | .tail t => t
  | .map i _ => some i
  | .raw i _ => some i
  | .vec t _ => t
def Item.blk (g : Ghost) (it : Item) : Option Nat := it.id?.bind fun i => (g.loc i).map (·.1)

structure RelW (g : Ghost) (st : List Item) (w : World) : Prop where
  com : ∀ b o v, g.com b o = some v → w.cell? ⟨b, o, none⟩ = some v
  fresh : ∀ i, g.next ≤ i → g.loc i = none
  hB : g.B ≤ w.heap.size
  below : Below g.B g.w0 w
  items : ∀ it ∈ st, it.ok g w
  nodup : (st.filterMap (Item.blk g)).Nodup

theorem Item.ok.loc {g : Ghost} {w : World} {it : Item} (h : it.ok g w) {i : Nat} (hi : it.id? = some i) : ∃ x, g.loc i = some x := by
  cases it with
  | cells j cs => obtain ⟨b, p, s, vs, E, h, _⟩ := h; simp [id?] at hi; subst hi; exact ⟨_, h⟩
  | map j es => obtain ⟨b, p, s, vs, E, h, _⟩ := h; simp [id?] at hi; subst hi; exact ⟨_, h⟩
  | raw j o => obtain ⟨b, p, s, h, _⟩ := h; simp [id?] at hi; subst hi; exact ⟨_, h⟩
  | vec t xs => cases t with
    | none => simp [id?] at hi
    | some j => obtain ⟨b, p, s, vs, E, h, _⟩ := h; simp [id?] at hi; subst hi; exact ⟨_, h⟩
  | tail t => cases t with
    | none => simp [id?] at hi
    | some j => obtain ⟨b, p, s, vs, E, h, _⟩ := h; simp [id?] at hi; subst hi; exact ⟨_, h⟩

theorem Item.blk_le {g g' : Ghost} {w : World} {it : Item} (h : it.ok g w) (hg : g.le g') : it.blk g' = it.blk g := by
  unfold blk
  cases hi : it.id? with
  | none => rfl
  | some i => obtain ⟨x, hx⟩ := h.loc hi; simp [hx, hg.loc _ _ hx]

theorem filterMap_blk_le {g g' : Ghost} {w : World} {st : List Item} (h : ∀ it ∈ st, it.ok g w) (hg : g.le g') : st.filterMap (Item.blk g') = st.filterMap (Item.blk g) := by
  induction st with
  | nil => rfl
  | cons it st ih =>
    simp only [List.filterMap_cons, Item.blk_le (h it (by simp)) hg]
    rw [ih (fun x hx => h x (by simp [hx]))]

theorem RelW.perm {g : Ghost} {st st' : List Item} {w : World} (h : RelW g st w) (hp : st.Perm st') : RelW g st' w :=
  ⟨h.com, h.fresh, h.hB, h.below, fun it hi => h.items it (hp.mem_iff.2 hi), (hp.filterMap _).nodup_iff.1 h.nodup⟩

theorem RelW.sub {g : Ghost} {st st' : List Item} {w : World} (h : RelW g st w) (hp : st'.Sublist st) : RelW g st' w :=
  ⟨h.com, h.fresh, h.hB, h.below, fun it hi => h.items it (hp.subset hi), h.nodup.sublist (hp.filterMap _)⟩

theorem RelW.tailOf {g : Ghost} {it : Item} {st : List Item} {w : World} (h : RelW g (it :: st) w) : RelW g st w := h.sub (List.sublist_cons_self _ _)

theorem RelW.head_notin {g : Ghost} {it : Item} {st : List Item} {w : World} (h : RelW g (it :: st) w) {b : Nat} (hb : it.blk g = some b) : ∀ x ∈ st, x.blk g ≠ some b := by
  intro x hx e
  have := h.nodup
  simp only [List.filterMap_cons, hb, List.nodup_cons] at this
  exact this.1 (List.mem_filterMap.2 ⟨x, hx, e⟩)

theorem RelW.cons {g : Ghost} {it : Item} {st : List Item} {w : World} (h : RelW g st w) (ho : it.ok g w) (hn : ∀ b, it.blk g = some b → ∀ x ∈ st, x.blk g ≠ some b) : RelW g (it :: st) w := by
  refine ⟨h.com, h.fresh, h.hB, h.below, by simpa using ⟨ho, h.items⟩, ?_⟩
  simp only [List.filterMap_cons]
  split
  · exact h.nodup
  · rename_i b hb
    refine List.nodup_cons.2 ⟨fun hm => ?_, h.nodup⟩
    obtain ⟨x, hx, e⟩ := List.mem_filterMap.1 hm
    exact hn b hb x hx e

theorem Item.blk_lt {g : Ghost} {w : World} {it : Item} (h : it.ok g w) {b : Nat} (hb : it.blk g = some b) : b < w.heap.size ∧ g.B ≤ b := by
  cases it with
  | cells i cs =>
    obtain ⟨b', p, s, vs, E, h1, h2, _, _, _, h3⟩ := h
    simp [blk, id?, h1] at hb; subst hb
    exact ⟨(Array.getElem?_eq_some_iff.1 h2).1, h3⟩
  | map i es =>
    obtain ⟨b', p, s, vs, E, h1, h2, _, _, h3⟩ := h
    simp [blk, id?, h1] at hb; subst hb
    exact ⟨(Array.getElem?_eq_some_iff.1 h2).1, h3⟩
  | raw i o =>
    obtain ⟨b', p, s, h1, h2, _, h3⟩ := h
    simp [blk, id?, h1] at hb; subst hb
    exact ⟨(Array.getElem?_eq_some_iff.1 h2).1, h3⟩
  | vec t xs => cases t with
    | none => simp [blk, id?] at hb
    | some i =>
      obtain ⟨b', p, s, vs, E, h1, h2, _, _, _, _, _, h3⟩ := h
      simp [blk, id?, h1] at hb; subst hb
      exact ⟨(Array.getElem?_eq_some_iff.1 h2).1, h3⟩
  | tail t => cases t with
    | none => simp [blk, id?] at hb
    | some i =>
      obtain ⟨b', p, s, vs, E, h1, h2, _, _, _, h3⟩ := h
      simp [blk, id?, h1] at hb; subst hb
      exact ⟨(Array.getElem?_eq_some_iff.1 h2).1, h3⟩

/-- An item is kept where its block is. -/
theorem Item.ok.keep {g g' : Ghost} {w w' : World} {it : Item} (h : it.ok g w) (hg : g.le g') (hk : ∀ b, it.blk g = some b → w'.heap[b]? = w.heap[b]? ∧ ∀ o, g'.com b o = g.com b o) : it.ok g' w' := by
  cases it with
  | cells i cs =>
    obtain ⟨b, p, s, vs, E, h1, h2, h3, h4, h5, h6⟩ := h
    obtain ⟨k1, k2⟩ := hk b (by simp [blk, id?, h1])
    exact ⟨b, p, s, vs, E, hg.loc _ _ h1, k1.trans h2, h3.mono hg, h4, fun o => (k2 o).trans (h5 o), by rw [hg.B]; exact h6⟩
  | map i es =>
    obtain ⟨b, p, s, vs, E, h1, h2, h3, h5, h6⟩ := h
    obtain ⟨k1, k2⟩ := hk b (by simp [blk, id?, h1])
    exact ⟨b, p, s, vs, E, hg.loc _ _ h1, k1.trans h2, h3.mono hg, fun o => (k2 o).trans (h5 o), by rw [hg.B]; exact h6⟩
  | raw i o =>
    obtain ⟨b, p, s, h1, h2, h5, h6⟩ := h
    obtain ⟨k1, k2⟩ := hk b (by simp [blk, id?, h1])
    exact ⟨b, p, s, hg.loc _ _ h1, k1.trans h2, fun o => (k2 o).trans (h5 o), by rw [hg.B]; exact h6⟩
  | vec t xs => cases t with
    | none => trivial
    | some i =>
      obtain ⟨b, p, s, vs, E, h1, h2, h3, h4, h5, h6, h7, h8⟩ := h
      obtain ⟨k1, k2⟩ := hk b (by simp [blk, id?, h1])
      exact ⟨b, p, s, vs, E, hg.loc _ _ h1, k1.trans h2, h3, h4, h5.mono hg, h6, fun o => (k2 o).trans (h7 o), by rw [hg.B]; exact h8⟩
  | tail t => cases t with
    | none => trivial
    | some i =>
      obtain ⟨b, p, s, vs, E, h1, h2, h3, h4, h5, h6⟩ := h
      obtain ⟨k1, k2⟩ := hk b (by simp [blk, id?, h1])
      exact ⟨b, p, s, vs, E, hg.loc _ _ h1, k1.trans h2, h3, h4, fun o ho => (k2 o).trans (h5 o ho), by rw [hg.B]; exact h6⟩

/-- The world has evolved: at most the block 'row' was written, new blocks came. -/
theorem RelW.evolve {g g' : Ghost} {st : List Item} {w w' : World} {row : Option Nat} (h : RelW g st w) (hg : g.le g') (hgrow : w.grownBy w' row)
    (hrow : ∀ b, row = some b → g.B ≤ b)
    (hcom : ∀ b o v, g'.com b o = some v → (g.com b o = some v ∧ some b ≠ row) ∨ w'.cell? ⟨b, o, none⟩ = some v)
    (hkeep : ∀ it ∈ st, ∀ b, it.blk g = some b → some b ≠ row ∧ ∀ o, g'.com b o = g.com b o)
    (hfresh : ∀ i, g'.next ≤ i → g'.loc i = none) : RelW g' st w' := by
  refine ⟨fun b o v hv => ?_, hfresh, ?_, ?_, fun it hi => ?_, ?_⟩
  · rcases hcom b o v hv with ⟨h1, h2⟩ | h1
    · exact hgrow.cell (h.com _ _ _ h1) h2
    · exact h1
  · rw [hg.B]; exact Nat.le_trans h.hB hgrow.size
  · rw [hg.B, hg.w0]; exact h.below.grown hgrow h.hB hrow
  · refine (h.items it hi).keep hg fun b hb => ⟨hgrow.block b (Item.blk_lt (h.items it hi) hb).1 (hkeep it hi b hb).1, (hkeep it hi b hb).2⟩
  · rw [filterMap_blk_le h.items hg]; exact h.nodup

theorem RelW.drew {g : Ghost} {st : List Item} {w : World} (h : RelW g st w) : RelW g st w.drew :=
  h.evolve (row := none) (Ghost.le.refl g) ⟨rfl, rfl, rfl, Nat.le_refl _, fun _ _ _ => rfl⟩ (fun b hb => by cases hb) (fun b o v hv => .inl ⟨hv, by simp⟩) (fun it hi b hb => ⟨by simp, fun o => rfl⟩) h.fresh

end Go.Aw

/- An abstract walk: how items and ghosts evolve. -/
namespace Go.Aw
open Go.RowKit (Below)

def Ghost.setLoc (g : Ghost) (i : Nat) (x : Nat × Nat × Nat) : Ghost := { g with loc := fun j => if j = i then some x else g.loc j, next := max g.next (i + 1) }
def Ghost.commit (g : Ghost) (b lo hi : Nat) (f : Nat → Option Value) : Ghost := { g with com := fun b' o => if b' = b ∧ lo ≤ o ∧ o < hi then f o else g.com b' o }

theorem Ghost.le_setLoc {g : Ghost} {i : Nat} {x : Nat × Nat × Nat} (h : g.loc i = none) : g.le (g.setLoc i x) :=
  ⟨rfl, rfl, fun _ _ _ h => h, fun j y hj => by
    unfold setLoc; simp only
    split
    · rename_i e; subst e; rw [h] at hj; cases hj
    · exact hj, Nat.le_max_left _ _⟩

theorem Ghost.le_commit {g : Ghost} {b lo hi : Nat} {f : Nat → Option Value} (h : ∀ o, lo ≤ o → o < hi → g.com b o = none) : g.le (g.commit b lo hi f) :=
  ⟨rfl, rfl, fun b' o v hv => by
    unfold commit; simp only
    split
    · rename_i e; obtain ⟨rfl, e1, e2⟩ := e; rw [h o e1 e2] at hv; cases hv
    · exact hv, fun _ _ h => h, Nat.le_refl _⟩

theorem Ghost.setLoc_same {g : Ghost} {i : Nat} {x : Nat × Nat × Nat} : (g.setLoc i x).loc i = some x := by simp [setLoc]
theorem Ghost.setLoc_other {g : Ghost} {i j : Nat} {x : Nat × Nat × Nat} (h : j ≠ i) : (g.setLoc i x).loc j = g.loc j := by simp [setLoc, h]

/-- What an operation may do to the ghost: it grows; of the names that were there (or reserved) only i is laid. -/
structure Ghost.to (g : Ghost) (i : Nat) (g' : Ghost) : Prop where
  le : g.le g'
  keep : ∀ j, j < g.next → j ≠ i → g'.loc j = g.loc j

theorem Ghost.to.refl (g : Ghost) (i : Nat) : g.to i g := ⟨Ghost.le.refl g, fun _ _ _ => rfl⟩
theorem Ghost.to_setLoc {g : Ghost} {i : Nat} {x : Nat × Nat × Nat} (h : g.loc i = none) : g.to i (g.setLoc i x) := ⟨Ghost.le_setLoc h, fun j _ hj => Ghost.setLoc_other hj⟩
theorem Ghost.to_commit {g : Ghost} {b lo hi i : Nat} {f : Nat → Option Value} (h : ∀ o, lo ≤ o → o < hi → g.com b o = none) : g.to i (g.commit b lo hi f) := ⟨Ghost.le_commit h, fun _ _ _ => rfl⟩
theorem Ghost.to.trans {a b c : Ghost} {i : Nat} (h : a.to i b) (k : b.to i c) : a.to i c :=
  ⟨h.le.trans k.le, fun j hj hne => (k.keep j (Nat.lt_of_lt_of_le hj h.le.next) hne).trans (h.keep j hj hne)⟩

theorem RelW.fresh_setLoc {g : Ghost} {st : List Item} {w : World} (h : RelW g st w) (i : Nat) (x : Nat × Nat × Nat) : ∀ j, (g.setLoc i x).next ≤ j → (g.setLoc i x).loc j = none := by
  intro j hj
  have h1 : g.next ≤ j := Nat.le_trans (Nat.le_max_left _ _) hj
  have h2 : i + 1 ≤ j := Nat.le_trans (Nat.le_max_right _ _) hj
  rw [Ghost.setLoc_other (by omega)]
  exact h.fresh j h1

theorem RelW.noCom {g : Ghost} {st : List Item} {w : World} (h : RelW g st w) {b o : Nat} (hb : w.heap.size ≤ b) : g.com b o = none := by
  cases hc : g.com b o with
  | none => rfl
  | some v =>
    have := World.block_lt_of_cell? w _ (h.com _ _ _ hc)
    simp at this; omega

theorem RelW.blk_ne {g : Ghost} {st : List Item} {w : World} (h : RelW g st w) {it : Item} (hi : it ∈ st) {b : Nat} (hb : it.blk g = some b) : b < w.heap.size ∧ g.B ≤ b := Item.blk_lt (h.items it hi) hb

/-- A new variable of the function's own. -/
theorem RelW.allocCells {g : Ghost} {st : List Item} {w : World} (h : RelW g st w) {i : Nat} (hi : g.loc i = none) {cs : List AV} {vs : Array Value} (E : TypeId) (hv : holdsL g cs vs.toList) (h1 : ∀ u ∈ vs.toList, u.oneCell' = true) :
    RelW (g.setLoc i (w.heap.size, 0, 0)) (.cells i cs :: st) (w.alloc (.cells vs E)) := by
  have hle := Ghost.le_setLoc (g := g) (i := i) (x := (w.heap.size, 0, 0)) hi
  refine RelW.cons (h.evolve (row := none) hle (World.grownBy_alloc w _ none) (fun b hb => by cases hb) (fun b o v hv => .inl ⟨hv, by simp⟩) (fun it _ b _ => ⟨by simp, fun _ => rfl⟩) (h.fresh_setLoc i _)) ?_ ?_
  · exact ⟨w.heap.size, 0, 0, vs, E, Ghost.setLoc_same, heap_alloc_new w _, hv.mono hle, h1, fun o => h.noCom (Nat.le_refl _), h.hB⟩
  · intro b hb x hx e
    simp [Item.blk, Item.id?, Ghost.setLoc_same] at hb
    subst hb
    rw [Item.blk_le (h.items x hx) hle] at e
    exact absurd (h.blk_ne hx e).1 (Nat.lt_irrefl _)

/-- A new row that is never written again. -/
theorem RelW.allocCom {g : Ghost} {st : List Item} {w : World} (h : RelW g st w) {vs : Array Value} (E : TypeId) (n : Nat) (hn : n ≤ vs.size) :
    RelW (g.commit w.heap.size 0 n (fun o => vs[o]?)) st (w.alloc (.cells vs E)) := by
  have hno : ∀ o, 0 ≤ o → o < n → g.com w.heap.size o = none := fun o _ _ => h.noCom (Nat.le_refl _)
  refine h.evolve (row := none) (Ghost.le_commit hno) (World.grownBy_alloc w _ none) (fun b hb => by cases hb) ?_ ?_ h.fresh
  · intro b o v hv
    unfold Ghost.commit at hv; simp only at hv
    split at hv
    · rename_i e
      obtain ⟨rfl, _, e2⟩ := e
      right
      rw [World.cell?_alloc_new]; exact hv
    · exact .inl ⟨hv, by simp⟩
  · intro it hit b hb
    refine ⟨by simp, fun o => ?_⟩
    unfold Ghost.commit; simp only
    rw [if_neg]
    rintro ⟨rfl, _⟩
    exact absurd (h.blk_ne hit hb).1 (Nat.lt_irrefl _)

theorem comRow_commit {g : Ghost} {b n : Nat} {vs : Array Value} {cs : List AV} (hle : g.le (g.commit b 0 n (fun o => vs[o]?))) (hl : cs.length ≤ n) (hv : holdsL g cs (vs.toList.take cs.length)) (h1 : ∀ u ∈ vs.toList.take cs.length, u.oneCell' = true) :
    comRow (g.commit b 0 n (fun o => vs[o]?)) b 0 cs := by
  refine comRow.of (hv.mono hle) h1 (fun i v hi => ?_)
  have hlt : i < cs.length := by
    rcases Nat.lt_or_ge i cs.length with h | h
    · exact h
    · rw [List.getElem?_take, if_neg (by omega)] at hi; cases hi
  rw [List.getElem?_take, if_pos hlt] at hi
  show (if b = b ∧ 0 ≤ 0 + i ∧ 0 + i < n then _ else _) = _
  rw [if_pos ⟨rfl, by omega, by omega⟩]
  simpa using hi

/-- A new row whose first n cells are never written again, the rest being the spare room of token i. -/
theorem RelW.allocTail {g : Ghost} {st : List Item} {w : World} (h : RelW g st w) {i : Nat} (hi : g.loc i = none) {vs : Array Value} (E : TypeId) (n : Nat) (hn : n ≤ vs.size) :
    RelW ((g.commit w.heap.size 0 n (fun o => vs[o]?)).setLoc i (w.heap.size, n, vs.size)) (.tail (some i) :: st) (w.alloc (.cells vs E)) := by
  have h1 := h.allocCom E n hn (vs := vs)
  have hle := Ghost.le_setLoc (g := g.commit w.heap.size 0 n (fun o => vs[o]?)) (i := i) (x := (w.heap.size, n, vs.size)) hi
  have h2 := h1.evolve (row := none) hle ⟨rfl, rfl, rfl, Nat.le_refl _, fun _ _ _ => rfl⟩ (fun b hb => by cases hb) (fun b o v hv => .inl ⟨hv, by simp⟩) (fun it _ b _ => ⟨by simp, fun _ => rfl⟩) (h1.fresh_setLoc i _)
  refine RelW.cons h2 ?_ ?_
  · refine ⟨w.heap.size, n, vs.size, vs, E, Ghost.setLoc_same, heap_alloc_new w _, rfl, hn, fun o ho => ?_, h.hB⟩
    show (if _ then _ else _) = none
    rw [if_neg (by omega)]
    exact h.noCom (Nat.le_refl _)
  · intro b hb x hx e
    simp [Item.blk, Item.id?, Ghost.setLoc_same] at hb
    subst hb
    rw [Item.blk_le (h1.items x hx) hle] at e
    have e' : x.blk g = some w.heap.size := e
    exact absurd (h.blk_ne hx e').1 (Nat.lt_irrefl _)

/-- A variable of the function's own is written. -/
theorem RelW.storeCells {g : Ghost} {st : List Item} {w : World} {i : Nat} {cs cs' : List AV} (h : RelW g (.cells i cs :: st) w) {b p s : Nat} (hl : g.loc i = some (b, p, s)) {vs' : Array Value}
    (hv : holdsL g cs' vs'.toList) (h1 : ∀ u ∈ vs'.toList, u.oneCell' = true) : RelW g (.cells i cs' :: st) (w.setRow b vs') := by
  obtain ⟨b', p', s', vs, E, k1, k2, k3, k4, k5, k6⟩ := h.items _ (by simp : Item.cells i cs ∈ Item.cells i cs :: st)
  rw [hl] at k1; cases k1
  have hne := h.head_notin (b := b) (by simp [Item.blk, Item.id?, hl])
  have ht := h.tailOf
  refine RelW.cons (ht.evolve (row := some b) (Ghost.le.refl g) ⟨rfl, rfl, rfl, by simp, fun k _ hk => setRow_other w b k _ (fun e => hk (by rw [e]))⟩ (fun b' hb => by cases hb; exact k6) (fun b' o v hv => ?_) (fun it hit b' hb' => ⟨fun e => ?_, fun _ => rfl⟩) h.fresh) ?_ ?_
  · by_cases e : b' = b
    · subst e; rw [k5 o] at hv; cases hv
    · exact .inl ⟨hv, fun x => e (Option.some.inj x)⟩
  · cases e; exact hne it hit hb'
  · exact ⟨b, p, s, vs', E, hl, setRow_heap w b vs _ E _ k2, hv, h1, k5, k6⟩
  · intro b' hb' x hx
    simp [Item.blk, Item.id?, hl] at hb'; subst hb'
    exact hne x hx

/-- The spare room of token i is written from its beginning on: token j has what is left. -/
theorem RelW.growTail {g : Ghost} {st : List Item} {w : World} {i j : Nat} (h : RelW g (.tail (some i) :: st) w) (hj : g.loc j = none) {b pos S : Nat} (hl : g.loc i = some (b, pos, S)) {vs vs' : Array Value} {E : TypeId}
    (hb : w.heap[b]? = some (.cells vs E (0, 0))) (n : Nat) (hS : vs'.size = S) (hn : pos + n ≤ S) (hsame : ∀ o, o < pos → vs'[o]? = vs[o]?) :
    RelW ((g.commit b pos (pos + n) (fun o => vs'[o]?)).setLoc j (b, pos + n, S)) (.tail (some j) :: st) (w.setRow b vs') := by
  obtain ⟨b', pos', S', vs0, E', k1, k2, k3, k4, k5, k6⟩ := h.items _ (by simp : Item.tail (some i) ∈ Item.tail (some i) :: st)
  rw [hl] at k1; cases k1
  rw [hb] at k2; cases k2
  have hne := h.head_notin (b := b) (by simp [Item.blk, Item.id?, hl])
  have ht := h.tailOf
  have hc : ∀ o, pos ≤ o → o < pos + n → g.com b o = none := fun o h1 _ => k5 o h1
  have hle1 := Ghost.le_commit (f := fun o => vs'[o]?) hc
  have hle := hle1.trans (Ghost.le_setLoc (g := g.commit b pos (pos + n) (fun o => vs'[o]?)) (i := j) (x := (b, pos + n, S)) hj)
  refine RelW.cons (ht.evolve (row := some b) hle ⟨rfl, rfl, rfl, by simp, fun k _ hk => setRow_other w b k _ (fun e => hk (by rw [e]))⟩ (fun b' hb => by cases hb; exact k6) (fun b' o v hv => ?_) (fun it hit b' hb' => ⟨fun e => ?_, fun o => ?_⟩) ?_) ?_ ?_
  · by_cases e : b' = b
    · subst e
      right
      rw [cell_setRow_same w b' o vs vs' E (0, 0) hb]
      replace hv : (if b' = b' ∧ pos ≤ o ∧ o < pos + n then vs'[o]? else g.com b' o) = some v := hv
      split at hv
      · exact hv
      · have hlt : o < pos := by
          rcases Nat.lt_or_ge o pos with hh | hh
          · exact hh
          · rw [k5 o hh] at hv; cases hv
        have := h.com _ _ _ hv
        rw [World.cell?, hb] at this
        rw [hsame o hlt]; simpa using this
    · left
      replace hv : (if b' = b ∧ pos ≤ o ∧ o < pos + n then vs'[o]? else g.com b' o) = some v := hv
      rw [if_neg (fun x => e x.1)] at hv
      exact ⟨hv, fun x => e (Option.some.inj x)⟩
  · cases e; exact hne it hit hb'
  · show (if b' = b ∧ _ then _ else _) = _
    rw [if_neg]
    rintro ⟨rfl, _⟩
    exact hne it hit hb'
  · intro k hk
    have h1 : g.next ≤ k := Nat.le_trans (Nat.le_max_left _ _) hk
    have h2 : j + 1 ≤ k := Nat.le_trans (Nat.le_max_right _ _) hk
    rw [Ghost.setLoc_other (by omega)]
    exact h.fresh k h1
  · refine ⟨b, pos + n, S, vs', E, Ghost.setLoc_same, setRow_heap w b vs _ E _ hb, hS, hn, fun o ho => ?_, k6⟩
    show (if _ then _ else _) = none
    rw [if_neg (by omega)]
    exact k5 o (by omega)
  · intro b' hb' x hx e
    simp [Item.blk, Item.id?, Ghost.setLoc_same] at hb'; subst hb'
    rw [Item.blk_le (ht.items x hx) hle] at e
    exact hne x hx e

/-- A variable is given up: its cells are never written again. -/
theorem RelW.freeze {g : Ghost} {st : List Item} {w : World} {i : Nat} {cs : List AV} (h : RelW g (.cells i cs :: st) w) {b p s : Nat} (hl : g.loc i = some (b, p, s)) :
    ∃ g', g.to i g' ∧ RelW g' st w ∧ comRow g' b 0 cs := by
  obtain ⟨b', p', s', vs, E, k1, k2, k3, k4, k5, k6⟩ := h.items _ (by simp : Item.cells i cs ∈ Item.cells i cs :: st)
  rw [hl] at k1; cases k1
  have hne := h.head_notin (b := b) (by simp [Item.blk, Item.id?, hl])
  have ht := h.tailOf
  have hc : ∀ o, 0 ≤ o → o < vs.size → g.com b o = none := fun o _ _ => k5 o
  have hle := Ghost.le_commit (f := fun o => vs[o]?) hc
  have hlen := k3.length
  refine ⟨g.commit b 0 vs.size (fun o => vs[o]?), Ghost.to_commit hc, ?_, comRow_commit hle (by simp at hlen; omega) (by rw [hlen, List.take_length]; exact k3) (by rw [hlen, List.take_length]; exact k4)⟩
  refine ht.evolve (row := none) hle ⟨rfl, rfl, rfl, Nat.le_refl _, fun _ _ _ => rfl⟩ (fun b hb => by cases hb) (fun b' o v hv => ?_) (fun it hit b' hb' => ⟨by simp, fun o => ?_⟩) h.fresh
  · replace hv : (if b' = b ∧ 0 ≤ o ∧ o < vs.size then vs[o]? else g.com b' o) = some v := hv
    split at hv
    · rename_i e; obtain ⟨rfl, _⟩ := e
      right; simp [World.cell?, k2, hv]
    · exact .inl ⟨hv, by simp⟩
  · show (if b' = b ∧ _ then _ else _) = _
    rw [if_neg]
    rintro ⟨rfl, _⟩
    exact hne it hit hb'

end Go.Aw

/- An abstract walk: frames, what an operation yields, the rules of code. -/
namespace Go.Aw
open Go.RowKit (Below)

abbrev Fr := List (Nat × AV)
def look : Fr → Nat → Option AV
  | [], _ => none
  | (k, v) :: r, t => match Nat.beq k t with | true => some v | false => look r t

theorem look_cons (k : Nat) (v : AV) (r : Fr) (t : Nat) : look ((k, v) :: r) t = if k = t then some v else look r t := by
  show (match Nat.beq k t with | true => some v | false => look r t) = _
  cases h : Nat.beq k t with
  | true => rw [if_pos (Nat.eq_of_beq_eq_true h)]
  | false => rw [if_neg (Nat.ne_of_beq_eq_false h)]

def evA (σ : Fr) : Operand → Option AV
  | .tmp t => look σ t
  | .const v => some (.val v)
  | .func f => some (.val (.func (.func f) #[] #[]))
  | .global _ => none

def evL (σ : Fr) : List Operand → Option (List AV)
  | [] => some []
  | x :: r => match evA σ x, evL σ r with | some v, some vs => some (v :: vs) | _, _ => none

def opTmps (o : Oper) : List Tmp := o.op.operands.toList.filterMap fun | .tmp t => some t | _ => none

def Slots (g : Ghost) (σ : Fr) (a : Act) (ts : List Tmp) : Prop := ∀ t ∈ ts, ∀ v, look σ t = some v → ∃ u, a.tmps[t]? = some u ∧ v.holds g u

structure RelF (n : Nat) (g : Ghost) (σ : Fr) (a : Act) : Prop where
  size : a.tmps.size = n
  defers : a.defers = []
  slot : ∀ t v, look σ t = some v → ∃ u, a.tmps[t]? = some u ∧ v.holds g u

theorem RelF.mono {n : Nat} {g g' : Ghost} {σ : Fr} {a : Act} (h : RelF n g σ a) (hg : g.le g') : RelF n g' σ a :=
  ⟨h.size, h.defers, fun t v e => let ⟨u, p, q⟩ := h.slot t v e; ⟨u, p, v.mono hg q⟩⟩
theorem RelF.slots {n : Nat} {g : Ghost} {σ : Fr} {a : Act} (h : RelF n g σ a) (ts : List Tmp) : Slots g σ a ts := fun t _ v e => h.slot t v e

theorem RelF.put {n : Nat} {g : Ghost} {σ : Fr} {a : Act} (h : RelF n g σ a) {d : Nat} (hd : d < n) {v : AV} {u : Value} (hv : v.holds g u) : RelF n g ((d, v) :: σ) (a.put (some d) u) := by
  refine ⟨by simp [Act.put, h.size], h.defers, fun t v' e => ?_⟩
  rw [look_cons] at e
  by_cases hdt : d = t
  · rw [if_pos hdt] at e; cases e; subst hdt
    exact ⟨u, by simp [Act.put, h.size, hd], hv⟩
  · rw [if_neg hdt] at e
    obtain ⟨u', p, q⟩ := h.slot t v' e
    exact ⟨u', by simp [Act.put, Array.getElem?_setIfInBounds_ne hdt, p], q⟩

theorem RelF.putNone {n : Nat} {g : Ghost} {σ : Fr} {a : Act} (h : RelF n g σ a) (u : Value) : RelF n g σ (a.put none u) := h

theorem AV.val_holds {g : Ghost} {v u : Value} : (AV.val v).holds g u ↔ u = v := by unfold AV.val; rfl
theorem AV.val_self {g : Ghost} (v : Value) : (AV.val v).holds g v := AV.val_holds.2 rfl

theorem evA_slot {g : Ghost} {σ : Fr} {a : Act} {x : Operand} {ts : List Tmp} {v : AV} (hs : Slots g σ a ts) (hx : ∀ t, x = .tmp t → t ∈ ts) (he : evA σ x = some v) : v.holds g (a.eval x) := by
  cases x with
  | tmp t =>
    obtain ⟨u, p, q⟩ := hs t (hx t rfl) v he
    simpa [Act.eval, Array.getD_eq_getD_getElem?, p] using q
  | const c => simp [evA] at he; subst he; exact AV.val_self _
  | func f => simp [evA] at he; subst he; exact AV.val_self _
  | global _ => simp [evA] at he

theorem evL_slot {g : Ghost} {σ : Fr} {a : Act} {ts : List Tmp} (hs : Slots g σ a ts) : ∀ {xs : List Operand} {vs : List AV} (hx : ∀ t, Operand.tmp t ∈ xs → t ∈ ts) (he : evL σ xs = some vs), holdsL g vs (xs.map a.eval)
  | [], vs, _, he => by simp [evL] at he; subst he; trivial
  | x :: xs, vs, hx, he => by
    simp only [evL] at he
    split at he
    · rename_i v vs' h1 h2
      cases he
      exact ⟨evA_slot hs (fun t e => hx t (by simp [e])) h1, evL_slot hs (fun t e => hx t (by simp [e])) h2⟩
    · cases he

/-- What an operation comes to. -/
def Goes (P : Program) (o : Oper) (a : Act) (w : World) (R : Value → World → Prop) : Prop :=
  match (execOp a.eval o).run P w with
  | .ok (.value u) w' => R u w'
  | .ok .skip w' => R undef w'
  | .ok (.enter f args) w' => Calls P f args w' fun e w'' => ∃ u, e = .returned u ∧ R u w''
  | _ => False

theorem Goes.wp {P : Program} {o : Oper} {a : Act} {w : World} {R : Value → World → Prop} {K : Act → World → Prop} {Q : Exit → Act → World → Prop} (h : Goes P o a w R) (hk : ∀ u w', R u w' → K (a.put o.dst u) w') : o.wp P a w K Q := by
  unfold Goes at h
  unfold Oper.wp
  generalize (execOp a.eval o).run P w = r at *
  cases r with
  | halt x w' => exact h.elim
  | ok x w' =>
    cases x <;> simp only [Oper.upon] at h ⊢ <;> first
      | exact hk _ _ h
      | exact h.elim
      | exact h.mono fun e w'' ⟨u, he, hr⟩ => by subst he; exact hk _ _ hr

theorem Goes.mono {P : Program} {o : Oper} {a : Act} {w : World} {R R' : Value → World → Prop} (h : Goes P o a w R) (hk : ∀ u w', R u w' → R' u w') : Goes P o a w R' := by
  unfold Goes at *
  split at h
  · exact hk _ _ h
  · exact hk _ _ h
  · exact h.mono fun e w'' ⟨u, he, hr⟩ => ⟨u, he, hk _ _ hr⟩
  · exact h.elim

structure Ghost.ext (g g' : Ghost) : Prop where
  le : g.le g'
  keep : ∀ j, j < g.next → g'.loc j = g.loc j
theorem Ghost.ext.refl (g : Ghost) : g.ext g := ⟨Ghost.le.refl g, fun _ _ => rfl⟩
theorem Ghost.ext.trans {a b c : Ghost} (h : a.ext b) (k : b.ext c) : a.ext c := ⟨h.le.trans k.le, fun j hj => (k.keep j (Nat.lt_of_lt_of_le hj h.le.next)).trans (h.keep j hj)⟩
theorem Ghost.to.ext {g g' : Ghost} {i : Nat} (h : g.to i g') (hi : g.next ≤ i) : g.ext g' := ⟨h.le, fun j hj => h.keep j hj (by omega)⟩
theorem Ghost.ext.to {g g' : Ghost} (h : g.ext g') (i : Nat) : g.to i g' := ⟨h.le, fun j hj _ => h.keep j hj⟩

/-- Operation o, its guard being met, yields v. -/
def Yields (P : Program) (o : Oper) (σ : Fr) (st : List Item) (i : Nat) (v : AV) (st' : List Item) : Prop :=
  ∀ F g a w, RelW g (st ++ F) w → g.loc i = none → Slots g σ a (opTmps o) → Goes P o a w fun u w' => ∃ g', g.to i g' ∧ RelW g' (st' ++ F) w' ∧ v.holds g' u

/-- The same, whatever its guard. -/
def YieldsG (P : Program) (ops : Array Oper) (o : Oper) (σ : Fr) (st : List Item) (i : Nat) (v : AV) (st' : List Item) : Prop :=
  ∀ F g a w, RelW g (st ++ F) w → g.loc i = none → Slots g σ a (o.looksAt ops) →
    if Region.wanted o (yielded ops a.tmps) then Goes P o a w fun u w' => ∃ g', g.to i g' ∧ RelW g' (st' ++ F) w' ∧ v.holds g' u
    else st' = st ∧ v.holds g undef

theorem opTmps_sub {ops : Array Oper} {o : Oper} : ∀ t ∈ opTmps o, t ∈ o.looksAt ops := fun t h => by
  unfold Oper.looksAt; exact List.mem_append_left _ h

theorem Slots.sub {g : Ghost} {σ : Fr} {a : Act} {ts ts' : List Tmp} (h : Slots g σ a ts) (hs : ∀ t ∈ ts', t ∈ ts) : Slots g σ a ts' := fun t ht => h t (hs t ht)

theorem Yields.plain {P : Program} {ops : Array Oper} {o : Oper} {σ : Fr} {st st' : List Item} {i : Nat} {v : AV} (hg : o.guard = none) (h : Yields P o σ st i v st') : YieldsG P ops o σ st i v st' := by
  intro F g a w hw hi hs
  rw [if_pos (by simp [Region.wanted, hg])]
  exact h F g a w hw hi (hs.sub opTmps_sub)

/-- What a guard's slot says. -/
def Says (gv : AV) (pol : Bool) (c : Prop) : Prop := ∀ g u, gv.holds g u → ((c → u = .bool pol) ∧ (¬ c → u ≠ .bool pol))

theorem Says.bool (b pol : Bool) : Says (.bool b) pol (b = pol) := fun g u h => by
  rw [AV.val_holds] at h; subst h
  exact ⟨fun h => by rw [h], fun h e => h (by simpa using e)⟩
theorem Says.opt (c : Prop) (b pol : Bool) : Says (.opt c (.bool b)) pol (c ∧ b = pol) := fun g u h => by
  unfold AV.opt at h
  obtain ⟨h1, h2⟩ := h
  by_cases hc : c
  · have := AV.val_holds.1 (h1 hc); subst this
    exact ⟨fun h => by rw [h.2], fun h e => h ⟨hc, by simpa using e⟩⟩
  · have := h2 hc; subst this
    exact ⟨fun h => absurd h.1 hc, fun _ e => by simp [undef] at e⟩

theorem Yields.guarded {P : Program} {ops : Array Oper} {o : Oper} {σ : Fr} {st : List Item} {i : Nat} {v : AV} {j : Nat} {pol : Bool} {oj : Oper} {t : Tmp} {gv : AV} {c : Prop}
    (hg : o.guard = some (j, pol)) (hj : ops[j]? = some oj) (hd : oj.dst = some t) (hl : look σ t = some gv) (hc : Says gv pol c) (h : c → Yields P o σ st i v st) : YieldsG P ops o σ st i (.opt c v) st := by
  intro F g a w hw hi hs
  have ht : t ∈ o.looksAt ops := by unfold Oper.looksAt; simp [hg, hj, hd]
  obtain ⟨u, hu, hv⟩ := hs t ht gv hl
  have hy : yielded ops a.tmps j = some pol ↔ u = .bool pol := by
    simp only [yielded, hj, Option.bind_some, hd, hu]
    cases u <;> simp
  obtain ⟨s1, s2⟩ := hc g u hv
  by_cases hcc : c
  · have hw' : Region.wanted o (yielded ops a.tmps) = true := by simp [Region.wanted, hg, hy.2 (s1 hcc)]
    rw [if_pos hw']
    refine (h hcc F g a w hw hi (hs.sub opTmps_sub)).mono fun u' w' ⟨g', h1, h2, h3⟩ => ⟨g', h1, h2, ?_⟩
    unfold AV.opt; exact ⟨fun _ => h3, fun k => absurd hcc k⟩
  · have hw' : ¬ (Region.wanted o (yielded ops a.tmps) = true) := by
      simp only [Region.wanted, hg, beq_iff_eq]
      exact fun e => s2 hcc (hy.1 e)
    rw [if_neg hw']
    refine ⟨rfl, ?_⟩
    unfold AV.opt; exact ⟨fun k => absurd k hcc, fun _ => rfl⟩

/-- A region's operations in the text's order. -/
def AOps (P : Program) (n : Nat) (ops : Array Oper) (rest : List Oper) (σ : Fr) (st : List Item) (K : Fr → List Item → Prop) : Prop :=
  ∀ F g a w, RelF n g σ a → RelW g (st ++ F) w → wpList P ops (fun e a' w' => e = .normal ∧ ∃ g' σ' st', g.ext g' ∧ RelF n g' σ' a' ∧ RelW g' (st' ++ F) w' ∧ K σ' st') rest a w

def AWP (P : Program) (n : Nat) (c : Code) (σ : Fr) (st : List Item) (Q : Exit → Fr → List Item → Prop) : Prop :=
  ∀ F g a w, RelF n g σ a → RelW g (st ++ F) w → c.wp P (fun e a' w' => ∃ g' σ' st', g.ext g' ∧ RelF n g' σ' a' ∧ RelW g' (st' ++ F) w' ∧ Q e σ' st') a w

def callable (P : Program) (f : FuncId) : Bool := match P.funcs[f]? with | some fn => fn.body.isSome && !(fn.name == "runtime.NumGoroutine") | none => false

def ACalls (P : Program) (f : FuncId) (args : List AV) (st : List Item) (Q : AV → List Item → Prop) : Prop :=
  callable P f = true ∧ ∀ F g w vs, RelW g (st ++ F) w → holdsL g args vs → Calls P f vs.toArray w fun e w' => ∃ u v st' g', e = .returned u ∧ g.ext g' ∧ RelW g' (st' ++ F) w' ∧ v.holds g' u ∧ Q v st'

theorem ACalls.mono {P : Program} {f : FuncId} {args : List AV} {st : List Item} {Q Q' : AV → List Item → Prop} (h : ACalls P f args st Q) (hq : ∀ v st', Q v st' → Q' v st') : ACalls P f args st Q' :=
  ⟨h.1, fun F g w vs hw hv => (h.2 F g w vs hw hv).mono fun e w' ⟨u, v, st', g', a, b, c, d, q⟩ => ⟨u, v, st', g', a, b, c, d, hq _ _ q⟩⟩

section ops
variable {P : Program} {n : Nat} {ops : Array Oper} {rest : List Oper} {σ : Fr} {st : List Item} {K : Fr → List Item → Prop}

theorem aops_nil (h : K σ st) : AOps P n ops [] σ st K := fun F g a w hf hw => ⟨rfl, g, σ, st, Ghost.ext.refl g, hf, hw, h⟩

theorem wpList_ext {F : List Item} {g g1 : Ghost} {a : Act} {w : World} (hx : g.ext g1)
    (h : wpList P ops (fun e a' w' => e = .normal ∧ ∃ g' σ' st', g1.ext g' ∧ RelF n g' σ' a' ∧ RelW g' (st' ++ F) w' ∧ K σ' st') rest a w) :
    wpList P ops (fun e a' w' => e = .normal ∧ ∃ g' σ' st', g.ext g' ∧ RelF n g' σ' a' ∧ RelW g' (st' ++ F) w' ∧ K σ' st') rest a w := by
  induction rest generalizing a w with
  | nil => obtain ⟨e, g', σ', st', x, y⟩ := h; exact ⟨e, g', σ', st', hx.trans x, y⟩
  | cons o rest ih =>
    unfold wpList at h ⊢
    split at h
    · rename_i hw
      rw [if_pos hw]
      rcases h with h | ⟨_, a0, w0, e, _⟩
      · left
        unfold Oper.wp at h ⊢
        generalize (execOp a.eval o).run P w = r at *
        cases r with
        | halt x w' => cases x <;> simp only [Oper.upon] at h ⊢ <;> first | exact h.elim | (obtain ⟨e, _⟩ := h; cases e)
        | ok x w' =>
          cases x <;> simp only [Oper.upon] at h ⊢ <;> first
            | exact ih h
            | exact h.elim
            | (refine h.mono fun e w'' he => ?_
               cases e with
               | returned v => exact ih he
               | panicked c => obtain ⟨e, _⟩ := he; cases e
               | outgrown => obtain ⟨_, _, e, _⟩ := he; cases e)
            | exact Rows.mono h fun v w'' he => ih he
      · cases e
    · rename_i hw
      rw [if_neg hw]
      exact ih h

/-- One operation. -/
theorem aops_step {o : Oper} {v : Nat → AV} {st' : Nat → List Item} {σ' : Nat → Fr} (hy : ∀ i, YieldsG P ops o σ st i (v i) (st' i))
    (hput : ∀ i g a u, RelF n g σ a → (v i).holds g u → RelF n g (σ' i) (a.put o.dst u)) (h : ∀ i, AOps P n ops rest (σ' i) (st' i) K) : AOps P n ops (o :: rest) σ st K := by
  intro F g a w hf hw
  have hy' := hy g.next F g a w hw (hw.fresh _ (Nat.le_refl _)) (hf.slots _)
  unfold wpList
  split
  · rename_i hwn
    rw [if_pos hwn] at hy'
    refine .inl (hy'.wp fun u w' ⟨g', hto, hw', hv⟩ => ?_)
    exact wpList_ext (hto.ext (Nat.le_refl _)) (h g.next F g' _ w' (hput _ _ _ _ (hf.mono hto.le) hv) hw')
  · rename_i hwn
    rw [if_neg hwn] at hy'
    obtain ⟨e, hv⟩ := hy'
    have := h g.next F g _ w (hput _ _ _ _ hf hv) (by rw [e]; exact hw)
    exact this

/-- One operation that leaves the items alone, writing slot d. -/
theorem aops_put {d : Nat} {op : Op} {ty : TypeId} {pos : String} {after : Array Edge} {gd : Option (Nat × Bool)} {v : AV} (hd : d < n)
    (hy : ∀ i, YieldsG P ops ⟨some d, op, ty, pos, after, gd⟩ σ st i v st) (h : AOps P n ops rest ((d, v) :: σ) st K) : AOps P n ops (⟨some d, op, ty, pos, after, gd⟩ :: rest) σ st K :=
  aops_step (v := fun _ => v) (st' := fun _ => st) (σ' := fun _ => (d, v) :: σ) hy (fun i g a u hf hv => hf.put hd hv) fun _ => h

/-- One operation that writes no slot. -/
theorem aops_none {op : Op} {ty : TypeId} {pos : String} {after : Array Edge} {gd : Option (Nat × Bool)} {v : AV} {st' : List Item}
    (hy : ∀ i, YieldsG P ops ⟨none, op, ty, pos, after, gd⟩ σ st i v st') (h : AOps P n ops rest σ st' K) : AOps P n ops (⟨none, op, ty, pos, after, gd⟩ :: rest) σ st K :=
  aops_step (v := fun _ => v) (st' := fun _ => st') (σ' := fun _ => σ) hy (fun i g a u hf hv => hf) fun _ => h

/-- One operation that makes something new, under a new name. -/
theorem aops_new {d : Nat} {op : Op} {ty : TypeId} {pos : String} {after : Array Edge} {gd : Option (Nat × Bool)} {v : Nat → AV} {st' : Nat → List Item} (hd : d < n)
    (hy : ∀ i, YieldsG P ops ⟨some d, op, ty, pos, after, gd⟩ σ st i (v i) (st' i)) (h : ∀ i, AOps P n ops rest ((d, v i) :: σ) (st' i) K) : AOps P n ops (⟨some d, op, ty, pos, after, gd⟩ :: rest) σ st K :=
  aops_step (σ' := fun i => (d, v i) :: σ) hy (fun i g a u hf hv => hf.put hd hv) h

end ops

/-- What is known may be put otherwise, or partly forgotten. -/
def Weak (n : Nat) (σ : Fr) (st : List Item) (σ' : Fr) (st' : List Item) : Prop :=
  ∀ F g a w, RelF n g σ a → RelW g (st ++ F) w → ∃ g', g.ext g' ∧ RelF n g' σ' a ∧ RelW g' (st' ++ F) w

theorem Weak.refl (n : Nat) (σ : Fr) (st : List Item) : Weak n σ st σ st := fun F g a w hf hw => ⟨g, Ghost.ext.refl g, hf, hw⟩
theorem Weak.trans {n : Nat} {σ σ' σ'' : Fr} {st st' st'' : List Item} (h : Weak n σ st σ' st') (k : Weak n σ' st' σ'' st'') : Weak n σ st σ'' st'' := fun F g a w hf hw => by
  obtain ⟨g', x, y, z⟩ := h F g a w hf hw
  obtain ⟨g'', x', y', z'⟩ := k F g' a w y z
  exact ⟨g'', x.trans x', y', z'⟩

/-- v' says less than v. -/
def AV.Imp (v v' : AV) : Prop := ∀ g u, v.holds g u → v'.holds g u
theorem AV.Imp.refl (v : AV) : v.Imp v := fun _ _ h => h
theorem AV.Imp.of_eq {v v' : AV} (h : v = v') : v.Imp v' := h ▸ AV.Imp.refl v
theorem AV.Imp.trans {a b c : AV} (h : a.Imp b) (k : b.Imp c) : a.Imp c := fun g u x => k g u (h g u x)

inductive FrLe : Fr → Fr → Prop
  | nil (σ : Fr) : FrLe σ []
  | cons {σ σ' : Fr} {k : Nat} {v v' : AV} (h : look σ k = some v) (hi : v.Imp v') (r : FrLe σ σ') : FrLe σ ((k, v') :: σ')

theorem FrLe.look {σ σ' : Fr} (h : FrLe σ σ') : ∀ t v', look σ' t = some v' → ∃ v, look σ t = some v ∧ v.Imp v' := by
  induction h with
  | nil => intro t v' e; simp [Aw.look] at e
  | cons h hi _ ih =>
    intro t v' e
    rw [look_cons] at e
    split at e
    · rename_i ht; subst ht; cases e; exact ⟨_, h, hi⟩
    · exact ih t v' e

inductive Take : List Item → Item → List Item → Prop
  | here {it st} : Take (it :: st) it st
  | there {x st it st'} (h : Take st it st') : Take (x :: st) it (x :: st')

theorem Take.perm {st st' : List Item} {it : Item} (h : Take st it st') : st.Perm (it :: st') := by
  induction h with
  | here => exact List.Perm.refl _
  | there _ ih => exact (List.Perm.cons _ ih).trans (List.Perm.swap _ _ _)

/-- The items st' are among those of st. -/
inductive ItLe : List Item → List Item → Prop
  | nil (st) : ItLe st []
  | cons {st it st' st''} (h : Take st it st'') (r : ItLe st'' st') : ItLe st (it :: st')

theorem ItLe.relW {st st' : List Item} (h : ItLe st st') : ∀ {F g w}, RelW g (st ++ F) w → RelW g (st' ++ F) w := by
  have key : ∃ r, st.Perm (st' ++ r) := by
    induction h with
    | nil st => exact ⟨st, List.Perm.refl _⟩
    | cons h _ ih =>
      obtain ⟨r, hr⟩ := ih
      exact ⟨r, h.perm.trans (List.Perm.cons _ hr)⟩
  intro F g w hw
  obtain ⟨r, hr⟩ := key
  have hp : (st ++ F).Perm (r ++ (st' ++ F)) := by
    refine (hr.append_right F).trans ?_
    rw [← List.append_assoc]
    exact List.Perm.append_right F List.perm_append_comm
  exact (hw.perm hp).sub (List.sublist_append_right _ _)

theorem ItLe.refl : (st : List Item) → ItLe st st
  | [] => .nil _
  | _ :: st => .cons .here (ItLe.refl st)

theorem Weak.of {n : Nat} {σ σ' : Fr} {st st' : List Item} (h : FrLe σ σ') (k : ItLe st st') : Weak n σ st σ' st' := fun F g a w hf hw =>
  ⟨g, Ghost.ext.refl g, ⟨hf.size, hf.defers, fun t v' e => let ⟨v, h1, h2⟩ := h.look t v' e; let ⟨u, p, q⟩ := hf.slot t v h1; ⟨u, p, h2 _ _ q⟩⟩, k.relW hw⟩

theorem FrLe.refl (σ : Fr) : ∀ t v', Aw.look σ t = some v' → ∃ v, Aw.look σ t = some v ∧ v.Imp v' := fun t v h => ⟨v, h, AV.Imp.refl v⟩

/-- Fewer items, the frame as it is. -/
theorem Weak.items {n : Nat} {σ : Fr} {st st' : List Item} (k : ItLe st st') : Weak n σ st σ st' := fun F g a w hf hw => ⟨g, Ghost.ext.refl g, hf, k.relW hw⟩

def Exit.thenA (next : Fr → List Item → Prop) (Q : Exit → Fr → List Item → Prop) : Exit → Fr → List Item → Prop
  | .normal, σ, st => next σ st
  | e, σ, st => Q e σ st
def Exit.inBlockA (id : Nat) (Q : Exit → Fr → List Item → Prop) : Exit → Fr → List Item → Prop
  | .exit j, σ, st => match Nat.beq j id with | true => Q .normal σ st | false => Q (.exit j) σ st
  | e, σ, st => Q e σ st

section code
variable {P : Program} {n : Nat} {σ : Fr} {st : List Item} {Q : Exit → Fr → List Item → Prop}

theorem wp_ext {c : Code} {F : List Item} {g g1 : Ghost} {a : Act} {w : World} (hx : g.ext g1)
    (h : c.wp P (fun e a' w' => ∃ g' σ' st', g1.ext g' ∧ RelF n g' σ' a' ∧ RelW g' (st' ++ F) w' ∧ Q e σ' st') a w) :
    c.wp P (fun e a' w' => ∃ g' σ' st', g.ext g' ∧ RelF n g' σ' a' ∧ RelW g' (st' ++ F) w' ∧ Q e σ' st') a w :=
  Code.wp_mono (fun e a' w' ⟨g', σ', st', x, y⟩ => ⟨g', σ', st', hx.trans x, y⟩) h

theorem awp_mono {c : Code} {Q' : Exit → Fr → List Item → Prop} (h : AWP P n c σ st Q) (hq : ∀ e σ st, Q e σ st → Q' e σ st) : AWP P n c σ st Q' := fun F g a w hf hw =>
  Code.wp_mono (fun e a' w' ⟨g', σ', st', x, y, z, q⟩ => ⟨g', σ', st', x, y, z, hq _ _ _ q⟩) (h F g a w hf hw)

theorem awp_weak {c : Code} {σ' : Fr} {st' : List Item} (hw : Weak n σ st σ' st') (h : AWP P n c σ' st' Q) : AWP P n c σ st Q := fun F g a w hf hr => by
  obtain ⟨g', x, y, z⟩ := hw F g a w hf hr
  exact wp_ext x (h F g' a w y z)

theorem awp_skip (h : Q .normal σ st) : AWP P n .skip σ st Q := fun F g a w hf hw => wp_skip ⟨g, σ, st, Ghost.ext.refl g, hf, hw, h⟩
theorem awp_ret (h : Q .ret σ st) : AWP P n .ret σ st Q := fun F g a w hf hw => wp_ret ⟨g, σ, st, Ghost.ext.refl g, hf, hw, h⟩
theorem awp_exit {id : Nat} (h : Q (.exit id) σ st) : AWP P n (.exit id) σ st Q := fun F g a w hf hw => wp_exit ⟨g, σ, st, Ghost.ext.refl g, hf, hw, h⟩

theorem awp_seq {x y : Code} (h : AWP P n x σ st (Exit.thenA (fun σ' st' => AWP P n y σ' st' Q) Q)) : AWP P n (.seq x y) σ st Q := fun F g a w hf hw =>
  wp_seq (Code.wp_mono (fun e a' w' ⟨g', σ', st', hx, hf', hw', hq⟩ => by
    cases e with
    | normal => exact wp_ext hx (hq F g' a' w' hf' hw')
    | _ => exact ⟨g', σ', st', hx, hf', hw', hq⟩) (h F g a w hf hw))

theorem awp_block {id : Nat} {c : Code} (h : AWP P n c σ st (Exit.inBlockA id Q)) : AWP P n (.block id c) σ st Q := fun F g a w hf hw =>
  wp_block (Code.wp_mono (fun e a' w' ⟨g', σ', st', hx, hf', hw', hq⟩ => by
    cases e with
    | exit j =>
      simp only [Exit.inBlockA] at hq
      simp only [Exit.inBlock]
      cases e : Nat.beq j id with
      | true => rw [e] at hq; rw [if_pos (Nat.eq_of_beq_eq_true e)]; exact ⟨g', σ', st', hx, hf', hw', hq⟩
      | false => rw [e] at hq; rw [if_neg (Nat.ne_of_beq_eq_false e)]; exact ⟨g', σ', st', hx, hf', hw', hq⟩
    | _ => exact ⟨g', σ', st', hx, hf', hw', hq⟩) (h F g a w hf hw))

theorem awp_cond {c : Operand} {x y : Code} {b : Bool} (hc : evA σ c = some (.bool b)) (ht : b = true → AWP P n x σ st Q) (hf : b = false → AWP P n y σ st Q) : AWP P n (.cond c x y) σ st Q := fun F g a w hfr hw => by
  have hv := evA_slot (ts := match c with | .tmp t => [t] | _ => []) (hfr.slots _) (fun t e => by subst e; simp) hc
  rw [AV.val_holds] at hv
  exact wp_cond_split hv (fun e => ht e F g a w hfr hw) (fun e => hf e F g a w hfr hw)

/-- A loop: at the head of each round one of the states 'fr x, it x', and a measure that falls. -/
theorem awp_loop {c : Code} {X : Type} (fr : X → Fr) (it : X → List Item) (dom : X → Prop) (μ : X → Nat) (x0 : X) (h0 : dom x0) (hstart : Weak n σ st (fr x0) (it x0))
    (hround : ∀ x, dom x → AWP P n c (fr x) (it x) (Exit.thenA (fun σ' st' => ∃ x', dom x' ∧ μ x' < μ x ∧ Weak n σ' st' (fr x') (it x')) Q)) : AWP P n (.loop c) σ st Q := by
  intro F g a w hf hw
  obtain ⟨g0, hx0, hf0, hw0⟩ := hstart F g a w hf hw
  -- the measure stands in no slot: a loop over x itself
  have key : ∀ m x, μ x = m → dom x → ∀ g1 a w, g.ext g1 → RelF n g1 (fr x) a → RelW g1 (it x ++ F) w → ∀ (b : Frame) (k : List Go.Item) (cs : List Frame),
      ∃ e a' w', (∃ g' σ' st', g.ext g' ∧ RelF n g' σ' a' ∧ RelW g' (st' ++ F) w' ∧ Q e σ' st') ∧ Arrives P (lone (b.at a (.code c :: .inLoop c :: k)) cs w) b k cs e a' w' := by
    intro m
    induction m using Nat.strongRecOn with
    | _ m ih =>
      intro x hm hd g1 a w hx1 hf1 hw1 b k cs
      obtain ⟨e, a₁, w₁, ⟨g', σ', st', hx, hf', hw', hq⟩, harr⟩ := hround x hd F g1 a w hf1 hw1 b (.inLoop c :: k) cs
      cases e with
      | normal =>
        obtain ⟨x', hd', hlt, hwk⟩ := hq
        obtain ⟨g2, hx2, hf2, hw2⟩ := hwk F g' a₁ w₁ hf' hw'
        obtain ⟨e₂, a₂, w₂, hq₂, harr₂⟩ := ih (μ x') (hm ▸ hlt) x' rfl hd' g2 a₁ w₁ ((hx1.trans hx).trans hx2) hf2 hw2 b k cs
        exact ⟨e₂, a₂, w₂, hq₂, .of_steps (Steps.trans harr (.one step_inLoop)) harr₂⟩
      | exit id => exact ⟨_, a₁, w₁, ⟨g', σ', st', hx1.trans hx, hf', hw', hq⟩, .pass (x := .inLoop c) rfl (fun _ _ => .inl (by simp)) harr⟩
      | goto l => exact ⟨_, a₁, w₁, ⟨g', σ', st', hx1.trans hx, hf', hw', hq⟩, .pass (x := .inLoop c) rfl (fun _ _ => .inl (by simp)) harr⟩
      | ret => exact ⟨_, a₁, w₁, ⟨g', σ', st', hx1.trans hx, hf', hw', hq⟩, .pass (x := .inLoop c) rfl (fun _ _ => .inl (by simp)) harr⟩
      | panic ch => exact ⟨_, a₁, w₁, ⟨g', σ', st', hx1.trans hx, hf', hw', hq⟩, .pass (x := .inLoop c) rfl (fun _ _ => .inl (by simp)) harr⟩
      | outgrown => exact ⟨_, a₁, w₁, ⟨g', σ', st', hx1.trans hx, hf', hw', hq⟩, .pass (x := .inLoop c) rfl (fun _ _ => .inl (by simp)) harr⟩
  intro b k cs
  obtain ⟨e, a', w', hq, harr⟩ := key _ x0 rfl h0 g0 a w hx0 hf0 hw0 b k cs
  exact ⟨e, a', w', hq, .of_steps (.one step_loop) harr⟩

theorem awp_region {id : Nat} {l : List Oper} (h : AOps P n l.toArray l σ st (fun σ' st' => Q .normal σ' st')) : AWP P n (.region id l.toArray false) σ st Q := fun F g a w hf hw =>
  Code.wp_mono (fun e a' w' ⟨he, g', σ', st', r⟩ => by subst he; exact ⟨g', σ', st', r⟩) (wp_region_lit (h F g a w hf hw))

end code

/-! ### A function's body -/
def initFr : Nat → List AV → Fr
  | _, [] => []
  | k, v :: vs => (k, v) :: initFr (k + 1) vs

theorem look_initFr : ∀ (vs : List AV) (k t : Nat) (v : AV), look (initFr k vs) t = some v → k ≤ t ∧ vs[t - k]? = some v
  | [], k, t, v, h => by simp [initFr, look] at h
  | x :: vs, k, t, v, h => by
    rw [initFr, look_cons] at h
    split at h
    · rename_i e; subst e; cases h; simp
    · have := look_initFr vs (k + 1) t v h
      refine ⟨by omega, ?_⟩
      rw [show t - k = (t - (k + 1)) + 1 by omega]; simpa using this.2

inductive ResOne (P : Program) (σ : Fr) (st : List Item) : ResultVar → AV → Prop
  | tmp {t v} (h : look σ t = some v) : ResOne P σ st (.tmp t) v
  | cell {t T i v} (h : look σ t = some (.ptr i 0)) (hl : ∀ F g w, RelW g (st ++ F) w → ∀ b p s, g.loc i = some (b, p, s) → ∃ u, v.holds g u ∧ (loadVar T ⟨b, 0, none⟩).run P w = .ok u w) : ResOne P σ st (.cell t T) v

inductive ResAll (P : Program) (σ : Fr) (st : List Item) : List ResultVar → List AV → Prop
  | nil : ResAll P σ st [] []
  | cons {r rs v vs} (h : ResOne P σ st r v) (k : ResAll P σ st rs vs) : ResAll P σ st (r :: rs) (v :: vs)

def shutRes : List AV → AV
  | [v] => v
  | vs => .tup vs

end Go.Aw

/- An abstract walk: a function's body, calls, and what the operations yield. -/
namespace Go.Aw
open Go.RowKit (Below)

/-! ### Facts on types -/
def isAggB (P : Program) (T : TypeId) : Option Bool := match P.underlying T with | some (.struct _) => some true | some (.array _ _) => some true | some _ => some false | none => none
def sizeB (P : Program) (T : TypeId) : Option Nat := (P.info? T).map (·.size)
class ScalarT (P : Program) (T : TypeId) : Prop where
  agg : isAggB P T = some false
  size : sizeB P T = some 1
class AggT (P : Program) (T : TypeId) (n : outParam Nat) : Prop where
  agg : isAggB P T = some true
  size : sizeB P T = some n
/-- T is a slice type over elements E of sz cells, by bytes each. -/
class SliceT (P : Program) (T : TypeId) (E sz bytes : outParam Nat) : Prop where
  und : P.underlying T = some (.slice E)
  hsize : sizeB P E = some sz
  hbytes : (P.info? E).map (·.bytes) = some bytes
  pos : 0 < sz
  small : bytes ≤ 65536
class ArrayT (P : Program) (T : TypeId) (len E sz : outParam Nat) : Prop where
  und : P.underlying T = some (.array len E)
  hsize : sizeB P E = some sz
def fieldB (P : Program) (T : TypeId) (f : Nat) : Option (TypeId × Nat) := match P.underlying T with | some (.struct fs) => (fs[f]?).map fun x => (x.type, x.offset) | _ => none
class FieldT (P : Program) (T : TypeId) (f : Nat) (E off : outParam Nat) : Prop where
  out : fieldB P T f = some (E, off)
/-- The cells of T's zero value. -/
class ZeroT (P : Program) (T : TypeId) (zs : outParam (List Value)) : Prop where
  out : ((P.info? T).bind (·.zero)).map (fun v => v.cells.toList) = some zs
  one : zs.all (·.oneCell') = true

section
variable {P : Program} {w : World}
theorem run_isAgg {T : TypeId} {b : Bool} (h : isAggB P T = some b) : (isAgg T).run P w = .ok b w := by
  unfold isAggB at h
  cases hu : P.underlying T with
  | none => simp [hu] at h
  | some d => cases d <;> simp [hu] at h <;> subst h <;> simp [isAgg, run_underlying hu]
theorem run_sizeOf {T n : Nat} (h : sizeB P T = some n) : (sizeOf T).run P w = .ok n w := by
  unfold sizeB at h
  cases hi : P.info? T with
  | none => simp [hi] at h
  | some i => simp [hi] at h; subst h; simp [sizeOf, typeInfo, hi]

theorem run_load_cell {ad : Addr} {v : Value} (h : w.cell? ad = some v) : (load ad).run P w = .ok v w := by
  unfold load; simp [Sem.run, h]

theorem Addr.add_mk (b o k : Nat) : (⟨b, o, none⟩ : Addr).add k = ⟨b, o + k, none⟩ := by unfold Addr.add; split <;> simp_all

theorem run_loadVar_scalar {T : TypeId} [ht : ScalarT P T] {b o : Nat} {v : Value} (h : w.cell? ⟨b, o, none⟩ = some v) : (loadVar T ⟨b, o, none⟩).run P w = .ok v w := by
  unfold loadVar
  rw [Sem.run_bind, run_isAgg ht.agg]
  simp only [Result.andThen_ok, Bool.false_eq_true, if_false]
  exact run_load_cell h
theorem run_loadVar_agg {T n : Nat} [ht : AggT P T n] {b o : Nat} {vs : List Value} (hl : vs.length = n) (h : ∀ j v, vs[j]? = some v → w.cell? ⟨b, o + j, none⟩ = some v) : (loadVar T ⟨b, o, none⟩).run P w = .ok (.agg vs.toArray) w := by
  have := run_loadCells_list (P := P) w ⟨b, o, none⟩ vs (fun j v hj => by rw [Addr.add_mk]; exact h j v hj)
  rw [hl] at this
  simp [loadVar, run_isAgg ht.agg, run_sizeOf ht.size, this]
end

/-! ### A function's body -/
/-- What v says of a value in the state st, v' says in st'. -/
def VShift (v : AV) (st : List Item) (v' : AV) (st' : List Item) : Prop := ∀ F g u w, RelW g (st ++ F) w → v.holds g u → ∃ g', g.ext g' ∧ RelW g' (st' ++ F) w ∧ v'.holds g' u

theorem VShift.of {v v' : AV} {st st' : List Item} (h : v.Imp v') (k : ItLe st st') : VShift v st v' st' := fun F g u w hw hv => ⟨g, Ghost.ext.refl g, k.relW hw, h _ _ hv⟩
theorem VShift.drop {v : AV} {st : List Item} : VShift v st v [] := .of (AV.Imp.refl v) (.nil _)
theorem VShift.refl {v : AV} {st : List Item} : VShift v st v st := .of (AV.Imp.refl v) (.refl _)

def RetA (P : Program) (rs : List ResultVar) (Q : AV → List Item → Prop) (e : Exit) (σ : Fr) (st : List Item) : Prop :=
  (e = .normal ∨ e = .ret) ∧ ∃ vs, ResAll P σ st rs vs ∧ ∃ v st', VShift (shutRes vs) st v st' ∧ Q v st'

theorem shutRes_holds {g : Ghost} : ∀ {vs : List AV} {us : List Value}, holdsL g vs us → (shutRes vs).holds g (if h : us.toArray.size = 1 then us.toArray[0] else .tuple us.toArray)
  | [], [], _ => by simp [shutRes]; unfold AV.tup; exact ⟨[], rfl, trivial⟩
  | [v], [u], ⟨h, _⟩ => by simpa [shutRes] using h
  | v :: v' :: vs, u :: u' :: us, h => by
    simp [shutRes]; unfold AV.tup; exact ⟨u :: u' :: us, rfl, h⟩

theorem run_results {P : Program} {n : Nat} {σ : Fr} {st F : List Item} {g : Ghost} {a : Act} {w : World} (hf : RelF n g σ a) (hw : RelW g (st ++ F) w) :
    ∀ {rs : List ResultVar} {vs : List AV}, ResAll P σ st rs vs → ∃ us : List Value, holdsL g vs us ∧ (rs.mapM (m := Sem) (fun r => match r with
      | .tmp t => pure (a.tmps.getD t undef)
      | .cell a' t => do loadVar t (← asAddr (a.tmps.getD a' undef)))).run P w = .ok us w := by
  intro rs vs h
  induction h with
  | nil => exact ⟨[], trivial, rfl⟩
  | @cons r rs v vs h1 _ ih =>
    obtain ⟨us, k1, k2⟩ := ih
    cases h1 with
    | tmp hl =>
      obtain ⟨u, p, q⟩ := hf.slot _ _ hl
      refine ⟨u :: us, ⟨q, k1⟩, ?_⟩
      rw [List.mapM_cons]
      simp only [Array.getD_eq_getD_getElem?, p, Option.getD_some, Sem.run_bind, Sem.run_pure, Result.andThen_ok]
      simp only [Array.getD_eq_getD_getElem?] at k2
      simp [k2]
    | @cell t T i v hl hc =>
      obtain ⟨x, p, q⟩ := hf.slot _ _ hl
      unfold AV.ptr at q
      obtain ⟨b, p', s', hb, rfl⟩ := q
      obtain ⟨u, q', hu⟩ := hc F g w hw b p' s' hb
      refine ⟨u :: us, ⟨q', k1⟩, ?_⟩
      rw [List.mapM_cons]
      have ha : (asAddr (a.tmps.getD t undef)).run P w = .ok ⟨b, 0, none⟩ w := by
        rw [Array.getD_eq_getD_getElem?, p]; rfl
      rw [Sem.run_bind, Sem.run_bind, ha]
      simp only [Result.andThen_ok]
      rw [hu]
      simp only [Result.andThen_ok]
      rw [Sem.run_bind]
      exact congrArg (fun r => Result.andThen r _) k2

theorem acalls_body {P : Program} {f : FuncId} {fn : Func} {c : Code} {n : Nat} {args : List AV} {st : List Item} {Q : AV → List Item → Prop}
    (hf : P.funcs[f]? = some fn) (hc : callable P f = true) (hb : fn.body = some c) (hn : fn.ntmps = n) (hl : args.length ≤ n)
    (h : AWP P n c (initFr 0 args) st (RetA P fn.results.toList Q)) : ACalls P f args st Q := by
  refine ⟨hc, fun F g w vs hw hv => calls_of_wp hf hb (Code.wp_mono ?_ (h F g _ w ?_ hw))⟩
  · rintro e a' w' ⟨g', σ', st', hx, hf', hw', he, avs, hres, v, st'', hsh, hq⟩
    obtain ⟨us, k1, k2⟩ := run_results hf' hw' hres
    have hrun : (results fn a'.tmps).run P w' = .ok (if h : us.toArray.size = 1 then us.toArray[0] else .tuple us.toArray) w' := by
      unfold results
      rw [← Array.toArray_toList (xs := fn.results), List.mapM_toArray, Sem.run_bind]
      change Result.andThen (Sem.run P (List.mapM _ fn.results.toList >>= fun x => pure x.toArray) w') _ = _
      rw [Sem.run_bind]
      exact congrArg (fun r => Result.andThen (Result.andThen r (fun a w' => Sem.run P (pure a.toArray) w')) (fun a w' => Sem.run P (pure (if h : a.size = 1 then a[0] else Value.tuple a)) w')) k2
    obtain ⟨g'', hx'', hw'', hv''⟩ := hsh F g' _ w' hw' (shutRes_holds k1)
    have hR : (fun e w' => ∃ u v st' g', e = Ending.returned u ∧ g.ext g' ∧ RelW g' (st' ++ F) w' ∧ v.holds g' u ∧ Q v st') (Ending.returned (if h : us.toArray.size = 1 then us.toArray[0] else .tuple us.toArray)) w' :=
      ⟨_, v, st'', g'', rfl, hx.trans hx'', hw'', hv'', hq⟩
    rcases he with rfl | rfl
    · exact ⟨hf'.defers, _, hrun, hR⟩
    · exact ⟨hf'.defers, _, hrun, hR⟩
  · have hlen := hv.length
    refine ⟨by simp; omega, rfl, fun t v e => ?_⟩
    obtain ⟨_, h2⟩ := look_initFr args 0 t v e
    obtain ⟨u, p, q⟩ := hv.get _ _ h2
    refine ⟨u, ?_, q⟩
    simp only [Nat.sub_zero] at p
    have hlt : t < vs.length := by
      rcases Nat.lt_or_ge t vs.length with h | h
      · exact h
      · simp [List.getElem?_eq_none h] at p
    simp only [List.size_toArray, Array.getElem?_append, if_pos hlt]
    simpa using p

end Go.Aw

/- An abstract walk: what the operations yield (1): those that leave memory alone. -/
namespace Go.Aw
open Go.RowKit (Below)

section
variable {P : Program} {σ : Fr} {st : List Item} {i : Nat} {d : Option Tmp} {ty : TypeId} {pos : String} {after : Array Edge} {gd : Option (Nat × Bool)}

theorem goes_value {o : Oper} {a : Act} {w w' : World} {u : Value} {R : Value → World → Prop} (h : (execOp a.eval o).run P w = .ok (.value u) w') (hr : R u w') : Goes P o a w R := by
  unfold Goes; rw [h]; exact hr
theorem goes_skip {o : Oper} {a : Act} {w w' : World} {R : Value → World → Prop} (h : (execOp a.eval o).run P w = .ok .skip w') (hr : R undef w') : Goes P o a w R := by
  unfold Goes; rw [h]; exact hr

theorem ev {g : Ghost} {o : Oper} {a : Act} {x : Operand} {v : AV} (hs : Slots g σ a (opTmps o)) (hm : x ∈ o.op.operands) (he : evA σ x = some v) : v.holds g (a.eval x) :=
  evA_slot hs (fun t e => by subst e; exact List.mem_filterMap.2 ⟨_, Array.mem_toList_iff.2 hm, rfl⟩) he

theorem evs {g : Ghost} {o : Oper} {a : Act} {xs : List Operand} {vs : List AV} (hs : Slots g σ a (opTmps o)) (hm : ∀ x ∈ xs, x ∈ o.op.operands) (he : evL σ xs = some vs) : holdsL g vs (xs.map a.eval) :=
  evL_slot hs (fun t e => List.mem_filterMap.2 ⟨_, Array.mem_toList_iff.2 (hm _ e), rfl⟩) he

/-- What is read under a condition that holds. -/
theorem evA_opt_holds {g : Ghost} {c : Prop} {v : AV} {u : Value} (hc : c) (h : (AV.opt c v).holds g u) : v.holds g u := by unfold AV.opt at h; exact h.1 hc

/-- The operand's value, seen through a guard that is met. -/
inductive Ev (σ : Fr) (x : Operand) : AV → Prop
  | plain {v} (h : evA σ x = some v) : Ev σ x v
  | opt {c v} (h : evA σ x = some (.opt c v)) (hc : c) : Ev σ x v
  | imp {v v'} (h : Ev σ x v) (hi : v.Imp v') : Ev σ x v'
theorem Ev.holds {g : Ghost} {o : Oper} {a : Act} {x : Operand} {v : AV} (he : Ev σ x v) (hs : Slots g σ a (opTmps o)) (hm : x ∈ o.op.operands) : v.holds g (a.eval x) := by
  induction he with
  | plain h => exact ev hs hm h
  | opt h hc => exact evA_opt_holds hc (ev hs hm h)
  | imp _ hi ih => exact hi _ _ ih

inductive EvL (σ : Fr) : List Operand → List AV → Prop
  | nil : EvL σ [] []
  | cons {x v xs vs} (h : Ev σ x v) (r : EvL σ xs vs) : EvL σ (x :: xs) (v :: vs)
theorem EvL.holds {g : Ghost} {o : Oper} {a : Act} {xs : List Operand} {vs : List AV} (he : EvL σ xs vs) (hs : Slots g σ a (opTmps o)) (hm : ∀ x ∈ xs, x ∈ o.op.operands) : holdsL g vs (xs.map a.eval) := by
  induction he with
  | nil => trivial
  | cons h _ ih => exact ⟨h.holds hs (hm _ (by simp)), ih (fun x hx => hm x (by simp [hx]))⟩

theorem y_move {x : Operand} {v : AV} (hx : Ev σ x v) : Yields P ⟨d, .move x, ty, pos, after, gd⟩ σ st i v st := fun F g a w hw hi hs =>
  goes_value (u := a.eval x) (by simp [execOp]) ⟨g, Ghost.to.refl g i, hw, hx.holds hs (by simp [Op.operands])⟩
theorem y_assign {x : Operand} {v : AV} (hx : Ev σ x v) : Yields P ⟨d, .assign x, ty, pos, after, gd⟩ σ st i v st := fun F g a w hw hi hs =>
  goes_value (u := a.eval x) (by simp [execOp]) ⟨g, Ghost.to.refl g i, hw, hx.holds hs (by simp [Op.operands])⟩

theorem y_pick {c x y : Operand} {b : Bool} {v : AV} (hc : Ev σ c (.bool b)) (hx : b = true → Ev σ x v) (hy : b = false → Ev σ y v) : Yields P ⟨d, .pick c x y, ty, pos, after, gd⟩ σ st i v st := fun F g a w hw hi hs => by
  have h := AV.val_holds.1 (hc.holds hs (by simp [Op.operands]))
  refine goes_value (u := if b then a.eval x else a.eval y) (by simp [execOp, h, asBool]) ⟨g, Ghost.to.refl g i, hw, ?_⟩
  cases b with
  | true => exact (hx rfl).holds hs (by simp [Op.operands])
  | false => exact (hy rfl).holds hs (by simp [Op.operands])

theorem AV.opt_elim {g : Ghost} {c : Prop} {v : AV} {u : Value} (h : (AV.opt c v).holds g u) (hc : c) : v.holds g u := evA_opt_holds hc h

/-- a && b -/
theorem y_and {c x y : Operand} {b r : Bool} (hc : Ev σ c (.bool b)) (hx : evA σ x = some (.opt (b = true) (.bool r))) (hy : evA σ y = some (.val (.bool false))) : Yields P ⟨d, .pick c x y, ty, pos, after, gd⟩ σ st i (.bool (b && r)) st :=
  y_pick hc (fun h => by subst h; exact .opt hx rfl) (fun h => by subst h; exact .plain hy)
/-- a || b -/
theorem y_or {c x y : Operand} {b r : Bool} (hc : Ev σ c (.bool b)) (hx : evA σ x = some (.val (.bool true))) (hy : evA σ y = some (.opt (b = false) (.bool r))) : Yields P ⟨d, .pick c x y, ty, pos, after, gd⟩ σ st i (.bool (b || r)) st :=
  y_pick hc (fun h => by subst h; exact .plain hx) (fun h => by subst h; exact .opt hy rfl)
/-- The same within a guard that is met (c0). -/
theorem y_and' {c x y : Operand} {b r : Bool} {c0 : Prop} (h0 : c0) (hc : Ev σ c (.bool b)) (hx : evA σ x = some (.opt (c0 ∧ b = true) (.bool r))) (hy : evA σ y = some (.val (.bool false))) : Yields P ⟨d, .pick c x y, ty, pos, after, gd⟩ σ st i (.bool (b && r)) st :=
  y_pick hc (fun h => by subst h; exact .opt hx ⟨h0, rfl⟩) (fun h => by subst h; exact .plain hy)
theorem y_or' {c x y : Operand} {b r : Bool} {c0 : Prop} (h0 : c0) (hc : Ev σ c (.bool b)) (hx : evA σ x = some (.val (.bool true))) (hy : evA σ y = some (.opt (c0 ∧ b = false) (.bool r))) : Yields P ⟨d, .pick c x y, ty, pos, after, gd⟩ σ st i (.bool (b || r)) st :=
  y_pick hc (fun h => by subst h; exact .plain hx) (fun h => by subst h; exact .opt hy ⟨h0, rfl⟩)

theorem y_not {T : TypeId} {x : Operand} {b : Bool} (hx : Ev σ x (.bool b)) : Yields P ⟨d, .unOp .not T x, ty, pos, after, gd⟩ σ st i (.bool (!b)) st := fun F g a w hw hi hs =>
  goes_value (u := .bool (!b)) (by simp [execOp, AV.val_holds.1 (hx.holds hs (by simp [Op.operands])), Op.unary]) ⟨g, Ghost.to.refl g i, hw, AV.val_self _⟩

theorem y_neg {T : TypeId} {x : Operand} {a : Int} (hx : Ev σ x (.int a)) (hb : -9223372036854775808 < a ∧ a ≤ 9223372036854775807) : Yields P ⟨d, .unOp .neg T x, ty, pos, after, gd⟩ σ st i (.int (-a)) st := fun F g ac w hw hi hs =>
  goes_value (u := .int .i64 (-a)) (by
    have : IntKind.i64.wrap (0 - a) = -a := by rw [IntKind.wrap_i64]; omega
    simp only [execOp, AV.val_holds.1 (hx.holds hs (by simp [Op.operands])), Op.unary, Op.intArith]; rw [this]; simp) ⟨g, Ghost.to.refl g i, hw, AV.val_self _⟩

section bin
variable {T T' : TypeId} {x y : Operand} {k : IntKind} {a b : Int}
theorem y_lss (hx : Ev σ x (.val (.int k a))) (hy : Ev σ y (.val (.int k b))) : Yields P ⟨d, .binOp .lss T x y T', ty, pos, after, gd⟩ σ st i (.bool (decide (a < b))) st := fun F g ac w hw hi hs =>
  goes_value (u := .bool (decide (a < b))) (by simp [execOp, AV.val_holds.1 (Ev.holds hx hs (by simp [Op.operands])), AV.val_holds.1 (Ev.holds hy hs (by simp [Op.operands])), eqGuard, binOp, Op.intCmp, bne]) ⟨g, Ghost.to.refl g i, hw, AV.val_self _⟩
theorem y_leq (hx : Ev σ x (.val (.int k a))) (hy : Ev σ y (.val (.int k b))) : Yields P ⟨d, .binOp .leq T x y T', ty, pos, after, gd⟩ σ st i (.bool (decide (a ≤ b))) st := fun F g ac w hw hi hs =>
  goes_value (u := .bool (decide (a ≤ b))) (by simp [execOp, AV.val_holds.1 (Ev.holds hx hs (by simp [Op.operands])), AV.val_holds.1 (Ev.holds hy hs (by simp [Op.operands])), eqGuard, binOp, Op.intCmp, bne]) ⟨g, Ghost.to.refl g i, hw, AV.val_self _⟩
theorem y_gtr (hx : Ev σ x (.val (.int k a))) (hy : Ev σ y (.val (.int k b))) : Yields P ⟨d, .binOp .gtr T x y T', ty, pos, after, gd⟩ σ st i (.bool (decide (b < a))) st := fun F g ac w hw hi hs =>
  goes_value (u := .bool (decide (b < a))) (by simp [execOp, AV.val_holds.1 (Ev.holds hx hs (by simp [Op.operands])), AV.val_holds.1 (Ev.holds hy hs (by simp [Op.operands])), eqGuard, binOp, Op.intCmp, bne]) ⟨g, Ghost.to.refl g i, hw, AV.val_self _⟩
theorem y_geq (hx : Ev σ x (.val (.int k a))) (hy : Ev σ y (.val (.int k b))) : Yields P ⟨d, .binOp .geq T x y T', ty, pos, after, gd⟩ σ st i (.bool (decide (b ≤ a))) st := fun F g ac w hw hi hs =>
  goes_value (u := .bool (decide (b ≤ a))) (by simp [execOp, AV.val_holds.1 (Ev.holds hx hs (by simp [Op.operands])), AV.val_holds.1 (Ev.holds hy hs (by simp [Op.operands])), eqGuard, binOp, Op.intCmp, bne]) ⟨g, Ghost.to.refl g i, hw, AV.val_self _⟩
theorem y_eql (hx : Ev σ x (.val (.int k a))) (hy : Ev σ y (.val (.int k b))) : Yields P ⟨d, .binOp .eql T x y T', ty, pos, after, gd⟩ σ st i (.bool (decide (a = b))) st := fun F g ac w hw hi hs =>
  goes_value (u := .bool (decide (a = b))) (by simp [execOp, AV.val_holds.1 (Ev.holds hx hs (by simp [Op.operands])), AV.val_holds.1 (Ev.holds hy hs (by simp [Op.operands])), eqGuard, binOp, Op.intCmp, bne]; by_cases h : a = b <;> simp [h]) ⟨g, Ghost.to.refl g i, hw, AV.val_self _⟩
theorem y_neq (hx : Ev σ x (.val (.int k a))) (hy : Ev σ y (.val (.int k b))) : Yields P ⟨d, .binOp .neq T x y T', ty, pos, after, gd⟩ σ st i (.bool (!decide (a = b))) st := fun F g ac w hw hi hs =>
  goes_value (u := .bool (!decide (a = b))) (by simp [execOp, AV.val_holds.1 (Ev.holds hx hs (by simp [Op.operands])), AV.val_holds.1 (Ev.holds hy hs (by simp [Op.operands])), eqGuard, binOp, Op.intCmp, bne]; by_cases h : a = b <;> simp [h]) ⟨g, Ghost.to.refl g i, hw, AV.val_self _⟩

theorem y_addw (hx : Ev σ x (.val (.int k a))) (hy : Ev σ y (.val (.int k b))) : Yields P ⟨d, .binOp .add T x y T', ty, pos, after, gd⟩ σ st i (.val (.int k (k.wrap (a + b)))) st := fun F g ac w hw hi hs =>
  goes_value (u := .int k (k.wrap (a + b))) (by simp [execOp, AV.val_holds.1 (hx.holds hs (by simp [Op.operands])), AV.val_holds.1 (hy.holds hs (by simp [Op.operands])), eqGuard, binOp, Op.intArith]) ⟨g, Ghost.to.refl g i, hw, AV.val_self _⟩
theorem y_subw (hx : Ev σ x (.val (.int k a))) (hy : Ev σ y (.val (.int k b))) : Yields P ⟨d, .binOp .sub T x y T', ty, pos, after, gd⟩ σ st i (.val (.int k (k.wrap (a - b)))) st := fun F g ac w hw hi hs =>
  goes_value (u := .int k (k.wrap (a - b))) (by simp [execOp, AV.val_holds.1 (hx.holds hs (by simp [Op.operands])), AV.val_holds.1 (hy.holds hs (by simp [Op.operands])), eqGuard, binOp, Op.intArith]) ⟨g, Ghost.to.refl g i, hw, AV.val_self _⟩
theorem y_mulw (hx : Ev σ x (.val (.int k a))) (hy : Ev σ y (.val (.int k b))) : Yields P ⟨d, .binOp .mul T x y T', ty, pos, after, gd⟩ σ st i (.val (.int k (k.wrap (a * b)))) st := fun F g ac w hw hi hs =>
  goes_value (u := .int k (k.wrap (a * b))) (by simp [execOp, AV.val_holds.1 (hx.holds hs (by simp [Op.operands])), AV.val_holds.1 (hy.holds hs (by simp [Op.operands])), eqGuard, binOp, Op.intArith]) ⟨g, Ghost.to.refl g i, hw, AV.val_self _⟩
theorem wrap_in {n : Int} (h : -9223372036854775808 ≤ n ∧ n ≤ 9223372036854775807) : IntKind.i64.wrap n = n := by rw [IntKind.wrap_i64]; omega
theorem y_add (hx : Ev σ x (.int a)) (hy : Ev σ y (.int b)) (h : -9223372036854775808 ≤ a + b ∧ a + b ≤ 9223372036854775807) : Yields P ⟨d, .binOp .add T x y T', ty, pos, after, gd⟩ σ st i (.int (a + b)) st := by
  have := y_addw (P := P) (st := st) (i := i) (d := d) (ty := ty) (pos := pos) (after := after) (gd := gd) (T := T) (T' := T') hx hy; rwa [wrap_in h] at this
theorem y_sub (hx : Ev σ x (.int a)) (hy : Ev σ y (.int b)) (h : -9223372036854775808 ≤ a - b ∧ a - b ≤ 9223372036854775807) : Yields P ⟨d, .binOp .sub T x y T', ty, pos, after, gd⟩ σ st i (.int (a - b)) st := by
  have := y_subw (P := P) (st := st) (i := i) (d := d) (ty := ty) (pos := pos) (after := after) (gd := gd) (T := T) (T' := T') hx hy; rwa [wrap_in h] at this
theorem y_mul (hx : Ev σ x (.int a)) (hy : Ev σ y (.int b)) (h : -9223372036854775808 ≤ a * b ∧ a * b ≤ 9223372036854775807) : Yields P ⟨d, .binOp .mul T x y T', ty, pos, after, gd⟩ σ st i (.int (a * b)) st := by
  have := y_mulw (P := P) (st := st) (i := i) (d := d) (ty := ty) (pos := pos) (after := after) (gd := gd) (T := T) (T' := T') hx hy; rwa [wrap_in h] at this
theorem y_quo (hx : Ev σ x (.int a)) (hy : Ev σ y (.int b)) (hb : b ≠ 0) (h : -9223372036854775808 ≤ a.tdiv b ∧ a.tdiv b ≤ 9223372036854775807) : Yields P ⟨d, .binOp .quo T x y T', ty, pos, after, gd⟩ σ st i (.int (a.tdiv b)) st := fun F g ac w hw hi hs =>
  goes_value (u := .int .i64 (a.tdiv b)) (by simp [execOp, AV.val_holds.1 (hx.holds hs (by simp [Op.operands])), AV.val_holds.1 (hy.holds hs (by simp [Op.operands])), eqGuard, binOp, Op.intDiv, hb, wrap_in h]) ⟨g, Ghost.to.refl g i, hw, AV.val_self _⟩
theorem y_rem (hx : Ev σ x (.val (.int k a))) (hy : Ev σ y (.val (.int k b))) (hb : b ≠ 0) : Yields P ⟨d, .binOp .rem T x y T', ty, pos, after, gd⟩ σ st i (.val (.int k (a.tmod b))) st := fun F g ac w hw hi hs =>
  goes_value (u := .int k (a.tmod b)) (by simp [execOp, AV.val_holds.1 (hx.holds hs (by simp [Op.operands])), AV.val_holds.1 (hy.holds hs (by simp [Op.operands])), eqGuard, binOp, Op.intDiv, hb]) ⟨g, Ghost.to.refl g i, hw, AV.val_self _⟩
end bin

end
end Go.Aw

/- An abstract walk: what the operations yield (2): fields, indexes, slices. -/
namespace Go.Aw
open Go.RowKit (Below)

/-! ### Forms -/
theorem AV.agg_holds {g : Ghost} {cs : List AV} {v : Value} : (AV.agg cs).holds g v ↔ ∃ vs : List Value, v = .agg vs.toArray ∧ holdsL g cs vs ∧ ∀ u ∈ vs, u.oneCell' = true := by unfold AV.agg; rfl
theorem AV.tup_holds {g : Ghost} {cs : List AV} {v : Value} : (AV.tup cs).holds g v ↔ ∃ vs : List Value, v = .tuple vs.toArray ∧ holdsL g cs vs := by unfold AV.tup; rfl
theorem AV.clo_holds {g : Ghost} {f : Nat} {cs : List AV} {v : Value} : (AV.clo f cs).holds g v ↔ ∃ vs : List Value, v = .func (.func f) #[] vs.toArray ∧ holdsL g cs vs := by unfold AV.clo; rfl
theorem AV.ptr_holds {g : Ghost} {i off : Nat} {v : Value} : (AV.ptr i off).holds g v ↔ ∃ b p s, g.loc i = some (b, p, s) ∧ v = .pointer (some ⟨b, off, none⟩) := by unfold AV.ptr; rfl
theorem AV.arr_holds {g : Ghost} {i off len : Nat} {v : Value} : (AV.arr i off len).holds g v ↔ ∃ b p s cap, g.loc i = some (b, p, s) ∧ v = .slice (some ⟨b, off, none⟩) len cap ∧ len ≤ cap := by unfold AV.arr; rfl
theorem AV.eptr_holds {g : Ghost} {cs : List AV} {v : Value} : (AV.eptr cs).holds g v ↔ ∃ b o, v = .pointer (some ⟨b, o, none⟩) ∧ comRow g b o cs := by unfold AV.eptr; rfl
theorem AV.sl_holds {g : Ghost} {sz : Nat} {xs : List (List AV)} {v : Value} : (AV.sl sz xs).holds g v ↔ ∃ a cap, v = .slice a xs.length cap ∧ xs.length ≤ cap ∧ AV.rows g a sz xs := by unfold AV.sl; rfl
theorem AV.full_holds {g : Ghost} {sz : Nat} {xs : List (List AV)} {v : Value} : (AV.full sz xs).holds g v ↔ ∃ a, v = .slice a xs.length xs.length ∧ (a = none → xs = []) ∧ AV.rows g a sz xs := by unfold AV.full; rfl
theorem AV.own_holds {g : Ghost} {sz i : Nat} {xs : List (List AV)} {v : Value} : (AV.own sz i xs).holds g v ↔ ∃ b pos S off cap, g.loc i = some (b, pos, S) ∧ v = .slice (some ⟨b, off, none⟩) xs.length cap ∧ xs.length ≤ cap ∧ (∀ x ∈ xs, x.length = sz) ∧ comRow g b off xs.flatten ∧ off + xs.length * sz = pos ∧ off + cap * sz ≤ S := by unfold AV.own; rfl

class Rd (av : AV) (sz : Nat) (xs : outParam (List (List AV))) : Prop where
  imp : av.Imp (.sl sz xs)
instance {sz : Nat} {xs : List (List AV)} : Rd (.sl sz xs) sz xs := ⟨AV.Imp.refl _⟩
instance {sz : Nat} {xs : List (List AV)} : Rd (.full sz xs) sz xs := ⟨fun g u h => by
  rw [AV.full_holds] at h; rw [AV.sl_holds]
  obtain ⟨a, h1, _, h2⟩ := h; exact ⟨a, _, h1, Nat.le_refl _, h2⟩⟩
instance {sz i : Nat} {xs : List (List AV)} : Rd (.own sz i xs) sz xs := ⟨fun g u h => by
  rw [AV.own_holds] at h; rw [AV.sl_holds]
  obtain ⟨b, pos, S, off, cap, h0, h1, h2, h3, h4, _⟩ := h; exact ⟨_, _, h1, h2, h3, fun _ => ⟨b, off, rfl, h4⟩⟩⟩
instance {sz : Nat} : Rd (.val (.slice none 0 0)) sz [] := ⟨fun g u h => by
  rw [AV.val_holds] at h; subst h; rw [AV.sl_holds]
  exact ⟨none, 0, rfl, Nat.le_refl _, by simp, fun h => absurd rfl h⟩⟩
instance {sz : Nat} {t : Option Nat} {xs : List (List AV)} : Rd (.grow sz t xs) sz xs := by
  cases t with
  | none => exact inferInstanceAs (Rd (.full sz xs) sz xs)
  | some i => exact inferInstanceAs (Rd (.own sz i xs) sz xs)

theorem AV.nil_full {sz : Nat} : (AV.val (.slice none 0 0)).Imp (.full sz []) := fun g u h => by
  rw [AV.val_holds] at h; subst h; rw [AV.full_holds]
  exact ⟨none, rfl, fun _ => rfl, by simp, fun h => absurd rfl h⟩
theorem AV.nil_grow {sz : Nat} : (AV.val (.slice none 0 0)).Imp (.grow sz none []) := AV.nil_full

def fieldS (P : Program) (T : TypeId) (f : Nat) : Option (TypeId × Nat × Nat) := match P.underlying T with | some (.struct fs) => (fs[f]?).bind fun x => (sizeB P x.type).map fun s => (x.type, x.offset, s) | _ => none
theorem fieldS_spec {P : Program} {T f E off sz : Nat} (h : fieldS P T f = some (E, off, sz)) : ∃ fs x, P.underlying T = some (.struct fs) ∧ fs[f]? = some x ∧ x.type = E ∧ x.offset = off ∧ sizeB P E = some sz := by
  unfold fieldS at h
  split at h
  · rename_i fs hu
    cases hx : fs[f]? with
    | none => simp [hx] at h
    | some x =>
      cases hs : sizeB P x.type with
      | none => simp [hx, hs] at h
      | some s =>
        simp [hx, hs] at h
        obtain ⟨rfl, rfl, rfl⟩ := h
        exact ⟨fs, x, hu, hx, rfl, rfl, hs⟩
  · cases h
/-- Field f of T: its type, the place of its first cell, its cells. -/
class FldT (P : Program) (T : TypeId) (f : Nat) (E off sz : outParam Nat) : Prop where
  out : fieldS P T f = some (E, off, sz)
  pos : sz ≠ 0

section
variable {P : Program} {σ : Fr} {st : List Item} {i : Nat} {d : Option Tmp} {ty : TypeId} {pos : String} {after : Array Edge} {gd : Option (Nat × Bool)} {w : World}

theorem run_fieldAt' {T f E off sz : Nat} [h : FldT P T f E off sz] (b o : Nat) : (Instr.fieldAt T (.pointer (some ⟨b, o, none⟩)) f).run P w = .ok (.pointer (some ⟨b, o + off, none⟩)) w := by
  obtain ⟨fs, x, hu, hx, e1, e2, hs⟩ := fieldS_spec h.out
  simp [Instr.fieldAt, run_underlying hu, hx, Instr.sureAddr, fieldPlace, e1, e2, run_sizeOf hs, h.pos, Addr.add_mk]

theorem y_fieldPtr {T f E off sz j o : Nat} {x : Operand} [FldT P T f E off sz] (hx : Ev σ x (.ptr j o)) : Yields P ⟨d, .fieldAddr T x f, ty, pos, after, gd⟩ σ st i (.ptr j (o + off)) st := fun F g a w hw hi hs => by
  obtain ⟨b, p, s, hl, e⟩ := AV.ptr_holds.1 (hx.holds hs (by simp [Op.operands]))
  exact goes_value (u := .pointer (some ⟨b, o + off, none⟩)) (by simp [execOp, e, run_fieldAt']) ⟨g, Ghost.to.refl g i, hw, AV.ptr_holds.2 ⟨b, p, s, hl, rfl⟩⟩

theorem y_fieldE {T f E off sz : Nat} {cs : List AV} {x : Operand} [FldT P T f E off sz] (hx : Ev σ x (.eptr cs)) (hl : off ≤ cs.length) : Yields P ⟨d, .fieldAddr T x f, ty, pos, after, gd⟩ σ st i (.eptr (cs.drop off)) st := fun F g a w hw hi hs => by
  obtain ⟨b, o, e, hr⟩ := AV.eptr_holds.1 (hx.holds hs (by simp [Op.operands]))
  exact goes_value (u := .pointer (some ⟨b, o + off, none⟩)) (by simp [execOp, e, run_fieldAt']) ⟨g, Ghost.to.refl g i, hw, AV.eptr_holds.2 ⟨b, _, rfl, hr.drop off hl⟩⟩

theorem part_scalar {T : TypeId} [ht : ScalarT P T] {cs : Array Value} {o : Nat} {v : Value} (h : cs[o]? = some v) : (part T cs o).run P w = .ok v w := by
  unfold part
  rw [Sem.run_bind, run_isAgg ht.agg]
  simp [h]
theorem part_agg {T n : Nat} [ht : AggT P T n] {cs : Array Value} {o : Nat} : (part T cs o).run P w = .ok (.agg (cs.extract o (o + n))) w := by
  unfold part
  rw [Sem.run_bind, run_isAgg ht.agg]
  simp [run_sizeOf ht.size]

theorem run_field' {T f E off sz : Nat} [h : FldT P T f E off sz] {cs : Array Value} {r : Value} (hp : (part E cs off).run P w = .ok r w) : (Instr.field T (.agg cs) f).run P w = .ok r w := by
  obtain ⟨fs, x, hu, hx, e1, e2, hs⟩ := fieldS_spec h.out
  simp [Instr.field, run_underlying hu, hx, asAgg, e1, e2, hp]

theorem y_field {T f E off sz : Nat} {cs : List AV} {x : Operand} {v : AV} [FldT P T f E off sz] [ScalarT P E] (hx : Ev σ x (.agg cs)) (hv : cs[off]? = some v) : Yields P ⟨d, .field T x f, ty, pos, after, gd⟩ σ st i v st := fun F g a w hw hi hs => by
  obtain ⟨vs, e, hr, _⟩ := AV.agg_holds.1 (hx.holds hs (by simp [Op.operands]))
  obtain ⟨u, hu, hh⟩ := hr.get _ _ hv
  refine goes_value (u := u) (by simp only [execOp, e]; rw [Sem.run_bind, run_field' (part_scalar (v := u) (by simpa using hu))]; rfl) ⟨g, Ghost.to.refl g i, hw, hh⟩

theorem y_fieldAgg {T f E off sz n : Nat} {cs : List AV} {x : Operand} [FldT P T f E off sz] [AggT P E n] (hx : Ev σ x (.agg cs)) : Yields P ⟨d, .field T x f, ty, pos, after, gd⟩ σ st i (.agg ((cs.drop off).take n)) st := fun F g a w hw hi hs => by
  obtain ⟨vs, e, hr, h1⟩ := AV.agg_holds.1 (hx.holds hs (by simp [Op.operands]))
  refine goes_value (u := .agg ((vs.drop off).take n).toArray) ?_ ⟨g, Ghost.to.refl g i, hw, AV.agg_holds.2 ⟨_, rfl, (hr.drop off).take n, fun u hu => h1 u (List.mem_of_mem_drop (List.mem_of_mem_take hu))⟩⟩
  simp only [execOp, e]
  rw [Sem.run_bind, run_field' part_agg]
  simp only [Result.andThen_ok, Sem.run_pure]
  congr 3
  apply Array.ext'
  simp [Array.toList_extract, List.extract_eq_take_drop]

theorem y_extract {x : Operand} {k : Nat} {vs : List AV} {v : AV} (hx : Ev σ x (.tup vs)) (hv : vs[k]? = some v) : Yields P ⟨d, .extract x k, ty, pos, after, gd⟩ σ st i v st := fun F g a w hw hi hs => by
  obtain ⟨us, e, hr⟩ := AV.tup_holds.1 (hx.holds hs (by simp [Op.operands]))
  obtain ⟨u, hu, hh⟩ := hr.get _ _ hv
  exact goes_value (u := u) (by simp [execOp, e, Instr.extract, hu]) ⟨g, Ghost.to.refl g i, hw, hh⟩

theorem y_makeFunc {f : Nat} {caps : Array Operand} {vs : List AV} (hx : EvL σ caps.toList vs) : Yields P ⟨d, .makeFunc (.func f) #[] caps, ty, pos, after, gd⟩ σ st i (.clo f vs) st := fun F g a w hw hi hs => by
  have h := hx.holds hs (by simp [Op.operands])
  exact goes_value (u := .func (.func f) #[] (caps.map a.eval)) (by simp [execOp, Instr.makeFunc]) ⟨g, Ghost.to.refl g i, hw, AV.clo_holds.2 ⟨_, by congr 1; apply Array.ext'; simp, h⟩⟩

theorem y_len {T E sz by_ : Nat} {x : Operand} {av : AV} {xs : List (List AV)} [ht : SliceT P T E sz by_] [hr : Rd av sz xs] (hx : Ev σ x av) : Yields P ⟨d, .call { callee := .builtin .len, args := #[x], argTypes := #[T] }, ty, pos, after, gd⟩ σ st i (.int (xs.length : Int)) st := fun F g a w hw hi hs => by
  obtain ⟨ad, cap, e, _⟩ := AV.sl_holds.1 (hr.imp _ _ (hx.holds hs (by simp [Op.operands, Call.operands])))
  exact goes_value (u := .int .i64 (xs.length : Int)) (by simp [execOp, resolve, invoke, builtin, e, Builtin.len_, run_underlying ht.und, goInt]) ⟨g, Ghost.to.refl g i, hw, AV.val_self _⟩

theorem y_lenArr {T E sz by_ j off n : Nat} {x : Operand} [ht : SliceT P T E sz by_] (hx : Ev σ x (.arr j off n)) : Yields P ⟨d, .call { callee := .builtin .len, args := #[x], argTypes := #[T] }, ty, pos, after, gd⟩ σ st i (.int (n : Int)) st := fun F g a w hw hi hs => by
  obtain ⟨b, p, s, cap, _, e, _⟩ := AV.arr_holds.1 (hx.holds hs (by simp [Op.operands, Call.operands]))
  exact goes_value (u := .int .i64 (n : Int)) (by simp [execOp, resolve, invoke, builtin, e, Builtin.len_, run_underlying ht.und, goInt]) ⟨g, Ghost.to.refl g i, hw, AV.val_self _⟩

theorem flatten_get {α : Type} {sz : Nat} : ∀ {xs : List (List α)} (h : ∀ x ∈ xs, x.length = sz) (k : Nat) (x : List α), xs[k]? = some x → (xs.flatten.drop (k * sz)).take sz = x
  | [], _, k, x, hk => by simp at hk
  | y :: xs, h, 0, x, hk => by
    simp at hk; subst hk
    have := h y (by simp)
    simp [← this]
  | y :: xs, h, k + 1, x, hk => by
    have hy := h y (by simp)
    have := flatten_get (xs := xs) (fun z hz => h z (by simp [hz])) k x (by simpa using hk)
    rw [← this]
    simp only [List.flatten_cons]
    rw [show (k + 1) * sz = y.length + k * sz by rw [hy, Nat.add_mul]; omega, ← List.drop_drop, List.drop_left']
    rfl
theorem flatten_len {α : Type} {sz : Nat} : ∀ {xs : List (List α)} (h : ∀ x ∈ xs, x.length = sz), xs.flatten.length = xs.length * sz
  | [], _ => by simp
  | y :: xs, h => by
    simp only [List.flatten_cons, List.length_append, List.length_cons]
    rw [flatten_len (xs := xs) (fun z hz => h z (by simp [hz])), h y (by simp), Nat.add_mul]; omega
theorem flatten_drop {α : Type} {sz : Nat} : ∀ {xs : List (List α)} (h : ∀ x ∈ xs, x.length = sz) (k : Nat), (xs.drop k).flatten = xs.flatten.drop (k * sz)
  | xs, _, 0 => by simp
  | [], _, k + 1 => by simp
  | y :: xs, h, k + 1 => by
    have hy := h y (by simp)
    simp only [List.drop_succ_cons, List.flatten_cons]
    rw [flatten_drop (xs := xs) (fun z hz => h z (by simp [hz])) k, show (k + 1) * sz = y.length + k * sz by rw [hy, Nat.add_mul]; omega, ← List.drop_drop, List.drop_left']
    rfl
theorem flatten_take {α : Type} {sz : Nat} : ∀ {xs : List (List α)} (h : ∀ x ∈ xs, x.length = sz) (k : Nat), (xs.take k).flatten = xs.flatten.take (k * sz)
  | xs, _, 0 => by simp
  | [], _, k + 1 => by simp
  | y :: xs, h, k + 1 => by
    have hy := h y (by simp)
    simp only [List.take_succ_cons, List.flatten_cons]
    rw [flatten_take (xs := xs) (fun z hz => h z (by simp [hz])) k, show (k + 1) * sz = y.length + k * sz by rw [hy, Nat.add_mul]; omega, List.take_append, List.take_of_length_le (Nat.le_add_right _ _), Nat.add_sub_cancel_left]

/-- The element behind an index. -/
theorem y_index {T E sz by_ : Nat} {x ix : Operand} {av : AV} {xs : List (List AV)} {kd : IntKind} {q : Int} {c : List AV} [ht : SliceT P T E sz by_] [hr : Rd av sz xs] (hx : Ev σ x av) (hix : Ev σ ix (.val (.int kd q))) (h0 : 0 ≤ q) (hc : xs[q.toNat]? = some c) :
    Yields P ⟨d, .indexAddr T x ix, ty, pos, after, gd⟩ σ st i (.eptr c) st := fun F g a w hw hi hs => by
  obtain ⟨ad, cap, e, hcap, h1, h2⟩ := AV.sl_holds.1 (hr.imp _ _ (hx.holds hs (by simp [Op.operands])))
  have e2 := AV.val_holds.1 (hix.holds hs (by simp [Op.operands]))
  have hlt : q.toNat < xs.length := by
    rcases Nat.lt_or_ge q.toNat xs.length with h | h
    · exact h
    · simp [List.getElem?_eq_none h] at hc
  obtain ⟨b, o, rfl, hrow⟩ := h2 (by intro e; subst e; simp at hlt)
  have hin : 0 ≤ q ∧ q < (xs.length : Int) := by omega
  refine goes_value (u := .pointer (some ⟨b, o + q.toNat * sz, none⟩)) ?_ ⟨g, Ghost.to.refl g i, hw, AV.eptr_holds.2 ⟨b, _, rfl, ?_⟩⟩
  · simp [execOp, e, e2, Instr.indexAt, asIntOf, run_underlying ht.und, hin, run_sizeOf ht.hsize, Addr.add_mk]
  · have := (hrow.drop (q.toNat * sz) (by rw [flatten_len h1]; exact Nat.mul_le_mul_right _ (Nat.le_of_lt hlt))).take sz
    rwa [flatten_get h1 _ _ hc] at this

/-- The same, over a list that is read by f. -/
theorem y_indexMap {T E sz by_ : Nat} {x ix : Operand} {av : AV} {α : Type} {l : List α} {f : α → List AV} {kd : IntKind} {q : Int} {k : Nat} {e : α} [ht : SliceT P T E sz by_] [hr : Rd av sz (l.map f)] (hx : Ev σ x av) (hix : Ev σ ix (.val (.int kd q))) (hq : q = (k : Int)) (he : ∃ h : k < l.length, l[k] = e) :
    Yields P ⟨d, .indexAddr T x ix, ty, pos, after, gd⟩ σ st i (.eptr (f e)) st :=
  y_index hx hix (by omega) (by obtain ⟨h, rfl⟩ := he; subst hq; simp [h])

theorem y_indexT {T E sz by_ : Nat} {x ix : Operand} {av : AV} {α : Type} [Inhabited α] {l : List α} {f : α → List AV} {kd : IntKind} {q : Int} [ht : SliceT P T E sz by_] [hr : Rd av sz (l.map f)] (hx : Ev σ x av) (hix : Ev σ ix (.val (.int kd q))) (h0 : 0 ≤ q) (hk : q.toNat < l.length) :
    Yields P ⟨d, .indexAddr T x ix, ty, pos, after, gd⟩ σ st i (.eptr (f (l.getD q.toNat default))) st :=
  y_index hx hix h0 (by simp [List.getD, hk])

/-- An element of a slice that the function may write. -/
theorem y_indexArr {T E sz by_ j off n : Nat} {x ix : Operand} {kd : IntKind} {q : Int} [ht : SliceT P T E sz by_] (hx : Ev σ x (.arr j off n)) (hix : Ev σ ix (.val (.int kd q))) {k : Nat} (hq : q = (k : Int)) (hk : k < n) :
    Yields P ⟨d, .indexAddr T x ix, ty, pos, after, gd⟩ σ st i (.ptr j (off + k * sz)) st := fun F g a w hw hi hs => by
  obtain ⟨b, p, s, cap, hl, e, _⟩ := AV.arr_holds.1 (hx.holds hs (by simp [Op.operands]))
  have e2 := AV.val_holds.1 (hix.holds hs (by simp [Op.operands]))
  subst hq
  refine goes_value (u := .pointer (some ⟨b, off + k * sz, none⟩)) ?_ ⟨g, Ghost.to.refl g i, hw, AV.ptr_holds.2 ⟨b, p, s, hl, rfl⟩⟩
  simp [execOp, e, e2, Instr.indexAt, asIntOf, run_underlying ht.und, hk, run_sizeOf ht.hsize, Addr.add_mk]

/-- An element of an array variable. -/
theorem y_indexVar {T len E sz j off : Nat} {x ix : Operand} {kd : IntKind} {q : Int} [ht : ArrayT P T len E sz] (hx : Ev σ x (.ptr j off)) (hix : Ev σ ix (.val (.int kd q))) {k : Nat} (hq : q = (k : Int)) (hk : k < len) :
    Yields P ⟨d, .indexAddr T x ix, ty, pos, after, gd⟩ σ st i (.ptr j (off + k * sz)) st := fun F g a w hw hi hs => by
  obtain ⟨b, p, s, hl, e⟩ := AV.ptr_holds.1 (hx.holds hs (by simp [Op.operands]))
  have e2 := AV.val_holds.1 (hix.holds hs (by simp [Op.operands]))
  subst hq
  refine goes_value (u := .pointer (some ⟨b, off + k * sz, none⟩)) ?_ ⟨g, Ghost.to.refl g i, hw, AV.ptr_holds.2 ⟨b, p, s, hl, rfl⟩⟩
  simp [execOp, e, e2, Instr.indexAt, asIntOf, run_underlying ht.und, Instr.sureAddr, hk, run_sizeOf ht.hsize, Addr.add_mk]

end
end Go.Aw

/- An abstract walk: what the operations yield (3): slice expressions, literals. -/
namespace Go.Aw
open Go.RowKit (Below)

section
variable {P : Program} {σ : Fr} {st : List Item} {i : Nat} {d : Option Tmp} {ty : TypeId} {pos : String} {after : Array Edge} {gd : Option (Nat × Bool)} {w : World}

theorem run_slice_lo {T E sz by_ : Nat} [ht : SliceT P T E sz by_] (a : Option Addr) (len cap l : Nat) (k : IntKind) (h1 : l ≤ len) (h2 : len ≤ cap) :
    (Instr.sliceAt T (.slice a len cap) (some (.int k l)) none none).run P w = .ok (.slice (if cap = l then a else a.map (·.add (l * sz))) (len - l) (cap - l)) w := by
  have e : 0 ≤ (l : Int) ∧ (l : Int) ≤ (len : Int) := by omega
  simp [Instr.sliceAt, Instr.slice, run_underlying ht.und, Instr.sliceBounds, Instr.sliceBound, asIntOf, h1, Nat.not_lt.2 h1, run_sizeOf ht.hsize]
theorem run_slice_hi {T E sz by_ : Nat} [ht : SliceT P T E sz by_] (a : Option Addr) (len cap h : Nat) (k : IntKind) (h1 : h ≤ cap) :
    (Instr.sliceAt T (.slice a len cap) none (some (.int k h)) none).run P w = .ok (.slice (if cap = 0 then a else a.map (·.add (0 * sz))) (h - 0) (cap - 0)) w := by
  have e : 0 ≤ (h : Int) ∧ (h : Int) ≤ (cap : Int) := by omega
  simp [Instr.sliceAt, Instr.slice, run_underlying ht.und, Instr.sliceBounds, Instr.sliceBound, asIntOf, h1, Nat.not_lt.2 h1, run_sizeOf ht.hsize]
theorem run_slice_lh {T E sz by_ : Nat} [ht : SliceT P T E sz by_] (a : Option Addr) (len cap l h : Nat) (k k' : IntKind) (h0 : l ≤ h) (h1 : h ≤ cap) :
    (Instr.sliceAt T (.slice a len cap) (some (.int k l)) (some (.int k' h)) none).run P w = .ok (.slice (if cap = l then a else a.map (·.add (l * sz))) (h - l) (cap - l)) w := by
  have e : 0 ≤ (h : Int) ∧ (h : Int) ≤ (cap : Int) := by omega
  have e' : 0 ≤ (l : Int) ∧ (l : Int) ≤ (h : Int) := by omega
  simp [Instr.sliceAt, Instr.slice, run_underlying ht.und, Instr.sliceBounds, Instr.sliceBound, asIntOf, h0, h1, Nat.not_lt.2 h0, Nat.not_lt.2 h1, run_sizeOf ht.hsize]
theorem run_slice_hm {T E sz by_ : Nat} [ht : SliceT P T E sz by_] (a : Option Addr) (len cap h m : Nat) (k k' : IntKind) (h0 : h ≤ m) (h1 : m ≤ cap) :
    (Instr.sliceAt T (.slice a len cap) none (some (.int k h)) (some (.int k' m))).run P w = .ok (.slice (if m = 0 then a else a.map (·.add (0 * sz))) (h - 0) (m - 0)) w := by
  have e : 0 ≤ (m : Int) ∧ (m : Int) ≤ (cap : Int) := by omega
  have e' : 0 ≤ (h : Int) ∧ (h : Int) ≤ (m : Int) := by omega
  simp [Instr.sliceAt, Instr.slice, run_underlying ht.und, Instr.sliceBounds, Instr.sliceBound, asIntOf, h0, h1, Nat.not_lt.2 h0, Nat.not_lt.2 h1, run_sizeOf ht.hsize]
theorem run_slice_lhm {T E sz by_ : Nat} [ht : SliceT P T E sz by_] (a : Option Addr) (len cap l h m : Nat) (k k' k'' : IntKind) (hl : l ≤ h) (h0 : h ≤ m) (h1 : m ≤ cap) :
    (Instr.sliceAt T (.slice a len cap) (some (.int k'' l)) (some (.int k h)) (some (.int k' m))).run P w = .ok (.slice (if m = l then a else a.map (·.add (l * sz))) (h - l) (m - l)) w := by
  have e : 0 ≤ (m : Int) ∧ (m : Int) ≤ (cap : Int) := by omega
  have e' : 0 ≤ (h : Int) ∧ (h : Int) ≤ (m : Int) := by omega
  have e'' : 0 ≤ (l : Int) ∧ (l : Int) ≤ (h : Int) := by omega
  simp [Instr.sliceAt, Instr.slice, run_underlying ht.und, Instr.sliceBounds, Instr.sliceBound, asIntOf, hl, h0, h1, run_sizeOf ht.hsize]

theorem rows_cut {g : Ghost} {a : Option Addr} {sz : Nat} {xs : List (List AV)} (h : AV.rows g a sz xs) (l n m : Nat) (hm : m = l → n ≤ l) (hn : n ≤ xs.length) : AV.rows g (if m = l then a else a.map (·.add (l * sz))) sz ((xs.take n).drop l) := by
  obtain ⟨h1, h2⟩ := h
  refine ⟨fun x hx => h1 x (List.mem_of_mem_take (List.mem_of_mem_drop hx)), fun hne => ?_⟩
  have hlt : l < n := by
    rcases Nat.lt_or_ge l n with h | h
    · exact h
    · exact absurd (List.drop_eq_nil_of_le (by simp; omega)) hne
  obtain ⟨b, o, rfl, hr⟩ := h2 (by intro e; subst e; simp at hn; omega)
  rw [if_neg (fun e => by have := hm e; omega)]
  refine ⟨b, o + l * sz, by simp [Addr.add_mk], ?_⟩
  have h3 : ∀ x ∈ xs.take n, x.length = sz := fun x hx => h1 x (List.mem_of_mem_take hx)
  rw [flatten_drop h3, flatten_take h1]
  refine (hr.take (n * sz)).drop (l * sz) ?_
  rw [List.length_take, flatten_len h1, Nat.le_min]
  exact ⟨Nat.mul_le_mul_right _ (Nat.le_of_lt hlt), Nat.mul_le_mul_right _ (by omega)⟩

section sl
variable {T E sz by_ : Nat} {x lo hi mx : Operand} {av : AV} {xs : List (List AV)} {k k' k'' : IntKind} {l h m : Nat} {ql qh qm : Int}
theorem y_sliceLo [ht : SliceT P T E sz by_] [hr : Rd av sz xs] (hx : Ev σ x av) (hlo : Ev σ lo (.val (.int k ql))) {l : Nat} (e : ql = (l : Int)) (h1 : l ≤ xs.length) :
    Yields P ⟨d, .slice T x (some lo) none none, ty, pos, after, gd⟩ σ st i (.sl sz (xs.drop l)) st := fun F g a w hw hi hs => by
  subst e
  obtain ⟨ad, cap, e, hcap, hrow⟩ := AV.sl_holds.1 (hr.imp _ _ (hx.holds hs (by simp [Op.operands])))
  have e2 := AV.val_holds.1 (hlo.holds hs (by simp [Op.operands]))
  have := rows_cut hrow l xs.length cap (fun e => by omega) (Nat.le_refl _)
  rw [List.take_length] at this
  exact goes_value (by simp only [execOp, e, e2, Option.map_some, Option.map_none]; rw [Sem.run_bind, run_slice_lo ad _ _ _ _ h1 hcap]; rfl)
    ⟨g, Ghost.to.refl g i, hw, AV.sl_holds.2 ⟨_, _, by rw [List.length_drop], by rw [List.length_drop]; omega, this⟩⟩
theorem y_sliceHi [ht : SliceT P T E sz by_] [hr : Rd av sz xs] (hx : Ev σ x av) (hhi : Ev σ hi (.val (.int k qh))) {h : Nat} (e : qh = (h : Int)) (h1 : h ≤ xs.length) :
    Yields P ⟨d, .slice T x none (some hi) none, ty, pos, after, gd⟩ σ st i (.sl sz (xs.take h)) st := fun F g a w hw hi hs => by
  subst e
  obtain ⟨ad, cap, e, hcap, hrow⟩ := AV.sl_holds.1 (hr.imp _ _ (hx.holds hs (by simp [Op.operands])))
  have e2 := AV.val_holds.1 (hhi.holds hs (by simp [Op.operands]))
  have := rows_cut hrow 0 h cap (fun e => by omega) h1
  rw [List.drop_zero] at this
  exact goes_value (by simp only [execOp, e, e2, Option.map_some, Option.map_none]; rw [Sem.run_bind, run_slice_hi ad _ _ _ _ (Nat.le_trans h1 hcap)]; rfl)
    ⟨g, Ghost.to.refl g i, hw, AV.sl_holds.2 ⟨_, _, by rw [List.length_take, Nat.min_eq_left h1]; rfl, by rw [List.length_take]; omega, this⟩⟩
theorem y_sliceLoM {α : Type} {ls : List α} {f : α → List AV} [ht : SliceT P T E sz by_] [hr : Rd av sz (ls.map f)] (hx : Ev σ x av) (hlo : Ev σ lo (.val (.int k ql))) {l : Nat} (e : ql = (l : Int)) (h1 : l ≤ ls.length) :
    Yields P ⟨d, .slice T x (some lo) none none, ty, pos, after, gd⟩ σ st i (.sl sz ((ls.drop l).map f)) st := by
  rw [List.map_drop]; exact y_sliceLo hx hlo e (by simpa using h1)
theorem y_sliceHiM {α : Type} {ls : List α} {f : α → List AV} [ht : SliceT P T E sz by_] [hr : Rd av sz (ls.map f)] (hx : Ev σ x av) (hhi : Ev σ hi (.val (.int k qh))) {h : Nat} (e : qh = (h : Int)) (h1 : h ≤ ls.length) :
    Yields P ⟨d, .slice T x none (some hi) none, ty, pos, after, gd⟩ σ st i (.sl sz ((ls.take h).map f)) st := by
  rw [List.map_take]; exact y_sliceHi hx hhi e (by simpa using h1)
theorem y_sliceLH [ht : SliceT P T E sz by_] [hr : Rd av sz xs] (hx : Ev σ x av) (hlo : Ev σ lo (.val (.int k ql))) (hhi : Ev σ hi (.val (.int k' qh))) {l h : Nat} (e1 : ql = (l : Int)) (e2 : qh = (h : Int)) (h0 : l ≤ h) (h1 : h ≤ xs.length) :
    Yields P ⟨d, .slice T x (some lo) (some hi) none, ty, pos, after, gd⟩ σ st i (.sl sz ((xs.take h).drop l)) st := fun F g a w hw hi hs => by
  subst e1 e2
  obtain ⟨ad, cap, e, hcap, hrow⟩ := AV.sl_holds.1 (hr.imp _ _ (hx.holds hs (by simp [Op.operands])))
  have e2 := AV.val_holds.1 (hlo.holds hs (by simp [Op.operands]))
  have e3 := AV.val_holds.1 (hhi.holds hs (by simp [Op.operands]))
  have := rows_cut hrow l h cap (fun e => by omega) h1
  exact goes_value (by simp only [execOp, e, e2, e3, Option.map_some, Option.map_none]; rw [Sem.run_bind, run_slice_lh ad _ _ _ _ _ _ h0 (Nat.le_trans h1 hcap)]; rfl)
    ⟨g, Ghost.to.refl g i, hw, AV.sl_holds.2 ⟨_, _, by rw [List.length_drop, List.length_take, Nat.min_eq_left h1], by rw [List.length_drop, List.length_take]; omega, this⟩⟩
/-- 's[:h:h]' -/
theorem y_slice3 [ht : SliceT P T E sz by_] [hr : Rd av sz xs] (hx : Ev σ x av) (hhi : Ev σ hi (.val (.int k qh))) (hmx : Ev σ mx (.val (.int k' qm))) {h : Nat} (e1 : qh = (h : Int)) (e2 : qm = (h : Int)) (h1 : h ≤ xs.length) :
    Yields P ⟨d, .slice T x none (some hi) (some mx), ty, pos, after, gd⟩ σ st i (.full sz (xs.take h)) st := fun F g a w hw hi hs => by
  subst e1 e2
  obtain ⟨ad, cap, e, hcap, hrow⟩ := AV.sl_holds.1 (hr.imp _ _ (hx.holds hs (by simp [Op.operands])))
  have e2 := AV.val_holds.1 (hhi.holds hs (by simp [Op.operands]))
  have e3 := AV.val_holds.1 (hmx.holds hs (by simp [Op.operands]))
  have := rows_cut hrow 0 h h (fun e => by omega) h1
  rw [List.drop_zero] at this
  refine goes_value (by simp only [execOp, e, e2, e3, Option.map_some, Option.map_none]; rw [Sem.run_bind, run_slice_hm ad _ _ _ _ _ _ (Nat.le_refl _) (Nat.le_trans h1 hcap)]; rfl)
    ⟨g, Ghost.to.refl g i, hw, AV.full_holds.2 ⟨_, by rw [List.length_take, Nat.min_eq_left h1]; rfl, fun e => ?_, this⟩⟩
  rcases Classical.em (xs.take h = []) with h2 | h2
  · exact h2
  · obtain ⟨b, o, e3, _⟩ := this.2 h2
    rw [e] at e3; cases e3
/-- 's[l:h:h]' -/
theorem y_slice3L [ht : SliceT P T E sz by_] [hr : Rd av sz xs] (hx : Ev σ x av) (hlo : Ev σ lo (.val (.int k'' ql))) (hhi : Ev σ hi (.val (.int k qh))) (hmx : Ev σ mx (.val (.int k' qm))) {l h : Nat} (e0 : ql = (l : Int)) (e1 : qh = (h : Int)) (e2 : qm = (h : Int)) (h0 : l ≤ h) (h1 : h ≤ xs.length) :
    Yields P ⟨d, .slice T x (some lo) (some hi) (some mx), ty, pos, after, gd⟩ σ st i (.full sz ((xs.take h).drop l)) st := fun F g a w hw hi hs => by
  subst e0 e1 e2
  obtain ⟨ad, cap, e, hcap, hrow⟩ := AV.sl_holds.1 (hr.imp _ _ (hx.holds hs (by simp [Op.operands])))
  have e1 := AV.val_holds.1 (hlo.holds hs (by simp [Op.operands]))
  have e2 := AV.val_holds.1 (hhi.holds hs (by simp [Op.operands]))
  have e3 := AV.val_holds.1 (hmx.holds hs (by simp [Op.operands]))
  have := rows_cut hrow l h h (fun e => by omega) h1
  have hl : ((xs.take h).drop l).length = h - l := by rw [List.length_drop, List.length_take, Nat.min_eq_left h1]
  refine goes_value (by simp only [execOp, e, e1, e2, e3, Option.map_some, Option.map_none]; rw [Sem.run_bind, run_slice_lhm ad _ _ _ _ _ _ _ _ h0 (Nat.le_refl _) (Nat.le_trans h1 hcap)]; rfl)
    ⟨g, Ghost.to.refl g i, hw, AV.full_holds.2 ⟨_, by rw [hl], fun e => ?_, this⟩⟩
  rcases Classical.em ((xs.take h).drop l = []) with h2 | h2
  · exact h2
  · obtain ⟨b, o, e3, _⟩ := this.2 h2
    rw [e] at e3; cases e3
end sl

/-! ### Cells of values -/
class One (v : AV) : Prop where
  one : ∀ g u, v.holds g u → u.oneCell' = true
class Cells (v : AV) (cs : outParam (List AV)) : Prop where
  cells : ∀ g u, v.holds g u → ∃ us : List Value, u.cells = us.toArray ∧ holdsL g cs us ∧ ∀ x ∈ us, x.oneCell' = true
instance {cs : List AV} : Cells (.agg cs) cs := ⟨fun g u h => by
  obtain ⟨vs, e, h1, h2⟩ := AV.agg_holds.1 h
  exact ⟨vs, by rw [e]; rfl, h1, h2⟩⟩
theorem cells_of_one {u : Value} (h : u.oneCell' = true) : u.cells = #[u] := by cases u <;> first | rfl | simp [Value.oneCell'] at h
instance (priority := low) {v : AV} [o : One v] : Cells v [v] := ⟨fun g u h => ⟨[u], by rw [cells_of_one (o.one g u h)], ⟨h, trivial⟩, by simpa using o.one g u h⟩⟩
instance {k : IntKind} {n : Int} : One (.val (.int k n)) := ⟨fun g u h => by rw [AV.val_holds] at h; subst h; rfl⟩
instance {b : Bool} : One (.val (.bool b)) := ⟨fun g u h => by rw [AV.val_holds] at h; subst h; rfl⟩
instance {s : ByteArray} : One (.val (.string s)) := ⟨fun g u h => by rw [AV.val_holds] at h; subst h; rfl⟩
instance {a : Option Addr} {l c : Nat} : One (.val (.slice a l c)) := ⟨fun g u h => by rw [AV.val_holds] at h; subst h; rfl⟩
instance {a : Option Addr} : One (.val (.pointer a)) := ⟨fun g u h => by rw [AV.val_holds] at h; subst h; rfl⟩
instance : One (.val .nilFunc) := ⟨fun g u h => by rw [AV.val_holds] at h; subst h; rfl⟩
instance : One (.val .nilIface) := ⟨fun g u h => by rw [AV.val_holds] at h; subst h; rfl⟩
instance {r : Option Nat} : One (.val (.map r)) := ⟨fun g u h => by rw [AV.val_holds] at h; subst h; rfl⟩
instance {f : Fn} {a b : Array Value} : One (.val (.func f a b)) := ⟨fun g u h => by rw [AV.val_holds] at h; subst h; rfl⟩
instance {sz : Nat} {xs : List (List AV)} : One (.sl sz xs) := ⟨fun g u h => by obtain ⟨_, _, e, _⟩ := AV.sl_holds.1 h; rw [e]; rfl⟩
instance {sz : Nat} {xs : List (List AV)} : One (.full sz xs) := ⟨fun g u h => by obtain ⟨_, e, _⟩ := AV.full_holds.1 h; rw [e]; rfl⟩
instance {sz i : Nat} {xs : List (List AV)} : One (.own sz i xs) := ⟨fun g u h => by obtain ⟨_, _, _, _, _, _, e, _⟩ := AV.own_holds.1 h; rw [e]; rfl⟩
instance {sz : Nat} {t : Option Nat} {xs : List (List AV)} : One (.grow sz t xs) := by
  cases t with
  | none => exact inferInstanceAs (One (.full sz xs))
  | some i => exact inferInstanceAs (One (.own sz i xs))
instance {j off : Nat} : One (.ptr j off) := ⟨fun g u h => by obtain ⟨_, _, _, _, e⟩ := AV.ptr_holds.1 h; rw [e]; rfl⟩
instance {j off n : Nat} : One (.arr j off n) := ⟨fun g u h => by obtain ⟨_, _, _, _, _, e, _⟩ := AV.arr_holds.1 h; rw [e]; rfl⟩
instance {cs : List AV} : One (.eptr cs) := ⟨fun g u h => by obtain ⟨_, _, e, _⟩ := AV.eptr_holds.1 h; rw [e]; rfl⟩
instance {f : Nat} {cs : List AV} : One (.clo f cs) := ⟨fun g u h => by obtain ⟨_, e, _⟩ := AV.clo_holds.1 h; rw [e]; rfl⟩

theorem Cells.size {v : AV} {cs : List AV} (h : Cells v cs) {g : Ghost} {u : Value} (hv : v.holds g u) : u.cells.size = cs.length := by
  obtain ⟨us, e, h1, _⟩ := h.cells g u hv
  rw [e, h1.length]; simp

/-! ### Literals -/
def setMany {α : Type} (cs : List α) (o : Nat) (ds : List α) : List α := cs.take o ++ ds ++ cs.drop (o + ds.length)

theorem setMany_len {α : Type} {cs : List α} {o : Nat} {ds : List α} (h : o + ds.length ≤ cs.length) : (setMany cs o ds).length = cs.length := by
  simp only [setMany, List.length_append, List.length_take, List.length_drop]; omega

theorem holdsL.setMany {g : Ghost} {cs ds : List AV} {vs us : List Value} (o : Nat) (h : holdsL g cs vs) (k : holdsL g ds us) : holdsL g (Aw.setMany cs o ds) (Aw.setMany vs o us) := by
  unfold Aw.setMany
  rw [k.length]
  exact ((h.take o).append k).append (h.drop _)

theorem foldl_set (off : Nat) : ∀ (l : List Value) (k : Nat) (cells : Array Value), off + k + l.length ≤ cells.size →
    (l.zipIdx k).foldl (fun cs (x : Value × Nat) => cs.setIfInBounds (off + x.2) x.1) cells = (setMany cells.toList (off + k) l).toArray
  | [], k, cells, _ => by
    apply Array.ext'
    simp [setMany]
  | v :: l, k, cells, h => by
    simp only [List.length_cons] at h
    rw [List.zipIdx_cons, List.foldl_cons, foldl_set off l (k + 1) _ (by simp; omega)]
    congr 1
    have e := list_seg_step cells.toList (off + k) v l (by simp; omega)
    simpa [setMany, Array.toList_setIfInBounds, Nat.add_assoc] using e

theorem fill_step {place : Nat → Option (Nat × Nat)} {cells : Array Value} {j : Nat} {v : Value} {rest : List (Nat × Value)} {off : Nat} {us : List Value} (hp : place j = some (off, us.length)) (hv : v.cells = us.toArray) (hb : off + us.length ≤ cells.size) :
    Instr.fill place cells ((j, v) :: rest) = Instr.fill place (setMany cells.toList off us).toArray rest := by
  rw [Instr.fill, hp]
  simp only [hv, List.size_toArray]
  rw [if_neg (by simp; omega)]
  have := foldl_set off us 0 cells (by omega)
  simp only [Nat.add_zero] at this
  rw [← this]
  congr 1
  simp [← Array.foldl_toList, Array.toList_zipIdx]

/-- The parts of a literal. -/
inductive PartsB (σ : Fr) (places : List (Nat × Nat)) : List (Nat × Operand) → List (Nat × List AV) → Prop
  | nil : PartsB σ places [] []
  | cons {f : Nat} {x : Operand} {v : AV} {cs : List AV} {off : Nat} {ps qs} (h : Ev σ x v) (hc : Cells v cs) (hp : places[f]? = some (off, cs.length)) (r : PartsB σ places ps qs) : PartsB σ places ((f, x) :: ps) ((off, cs) :: qs)

def fillA (cs : List AV) : List (Nat × List AV) → List AV
  | [] => cs
  | (o, ds) :: r => fillA (setMany cs o ds) r

class StructT (P : Program) (T : TypeId) (places : outParam (List (Nat × Nat))) : Prop where
  out : (match P.underlying T with | some (.struct fs) => fs.toList.mapM (fun f => (sizeB P f.type).map (fun s => (f.offset, s))) | _ => none) = some places

theorem run_places {fs : List Field} : ∀ {pl : List (Nat × Nat)}, fs.mapM (fun f => (sizeB P f.type).map (fun s => (f.offset, s))) = some pl → (fs.mapM (m := Sem) (fun f => do pure (f.offset, ← sizeOf f.type))).run P w = .ok pl w := by
  induction fs with
  | nil => intro pl h; simp at h; subst h; rfl
  | cons f fs ih =>
    intro pl h
    rw [List.mapM_cons] at h ⊢
    cases hs : sizeB P f.type with
    | none => simp [hs] at h
    | some s =>
      simp only [hs, Option.map_some, Option.bind_eq_bind, Option.bind_some] at h
      cases hr : fs.mapM (fun f => (sizeB P f.type).map (fun s => (f.offset, s))) with
      | none => simp [hr] at h
      | some r =>
        simp [hr] at h; subst h
        have ih' := ih hr
        rw [Sem.run_bind, Sem.run_bind, run_sizeOf hs]
        simp only [Result.andThen_ok, Sem.run_pure]
        rw [Sem.run_bind, ih']
        rfl

theorem fill_parts {g : Ghost} {o : Oper} {a : Act} {places : List (Nat × Nat)} (hs : Slots g σ a (opTmps o)) : ∀ {ps : List (Nat × Operand)} {qs : List (Nat × List AV)} (_ : PartsB σ places ps qs) (hm : ∀ x ∈ ps, x.2 ∈ o.op.operands)
    {cs : List AV} {vs : List Value} (hv : holdsL g cs vs) (h1 : ∀ u ∈ vs, u.oneCell' = true) (hfit : ∀ q ∈ qs, q.1 + q.2.length ≤ cs.length),
    ∃ us : List Value, Instr.fill (fun x => places.toArray[x]?) vs.toArray (ps.map fun x => (x.1, a.eval x.2)) = some us.toArray ∧ holdsL g (fillA cs qs) us ∧ ∀ u ∈ us, u.oneCell' = true := by
  intro ps qs hp
  induction hp with
  | nil => intro _ cs vs hv h1 _; exact ⟨vs, rfl, hv, h1⟩
  | @cons f x v ds off ps qs h hc hpl _ ih =>
    intro hm cs vs hv h1 hfit
    obtain ⟨us, e, k1, k2⟩ := hc.cells g _ (h.holds hs (hm (f, x) (by simp)))
    have hlen := k1.length
    have hl2 := hv.length
    have hb := hfit _ (by simp : (off, ds) ∈ (off, ds) :: qs)
    simp only at hb
    rw [List.map_cons, fill_step (us := us) (off := off) (by simp [hpl, hlen]) e (by simp; omega)]
    refine ih (fun y hy => hm y (by simp [hy])) (hv.setMany off k1) ?_ ?_
    · intro u hu
      simp only [setMany, List.mem_append] at hu
      rcases hu with (hu | hu) | hu
      · exact h1 u (List.mem_of_mem_take hu)
      · exact k2 u hu
      · exact h1 u (List.mem_of_mem_drop hu)
    · intro q hq
      rw [setMany_len hb]
      exact hfit q (by simp [hq])

theorem holdsL_vals {g : Ghost} : ∀ (zs : List Value), holdsL g (zs.map .val) zs
  | [] => trivial
  | z :: zs => ⟨AV.val_self z, holdsL_vals zs⟩

theorem zero_spec {T : TypeId} {zs : List Value} [h : ZeroT P T zs] : ∃ z, (zeroValue T).run P w = .ok z w ∧ z.cells = zs.toArray := by
  have h1 := h.out
  cases hi : P.info? T with
  | none => simp [hi] at h1
  | some inf =>
    cases hz : inf.zero with
    | none => simp [hi, hz] at h1
    | some z =>
      simp [hi, hz] at h1
      refine ⟨z, by simp [zeroValue, typeInfo, hi, hz], ?_⟩
      rw [← h1]

/-- A struct's literal. -/
theorem y_build {T : TypeId} {parts : Array (Nat × Operand)} {places : List (Nat × Nat)} {zs : List Value} {qs : List (Nat × List AV)} {out : List AV} [ht : StructT P T places] [hz : ZeroT P T zs] (hp : PartsB σ places parts.toList qs)
    (hfit : (qs.all fun q => decide (q.1 + q.2.length ≤ zs.length)) = true) (ho : fillA (zs.map .val) qs = out) : Yields P ⟨d, .build T parts, ty, pos, after, gd⟩ σ st i (.agg out) st := fun F g a w hw hi hs => by
  have h1 := ht.out
  split at h1
  · rename_i fs hu
    obtain ⟨z, hzr, hzc⟩ := zero_spec (P := P) (w := w) (T := T)
    obtain ⟨us, e, k1, k2⟩ := fill_parts hs hp (fun x hx => by simp only [Op.operands, List.mem_toArray]; exact List.mem_map.2 ⟨x, hx, rfl⟩) (holdsL_vals (g := g) zs) (fun u hu => by have := hz.one; rw [List.all_eq_true] at this; exact this u hu)
      (fun q hq => by rw [List.all_eq_true] at hfit; simpa using hfit q hq)
    subst ho
    refine goes_value (u := .agg us.toArray) ?_ ⟨g, Ghost.to.refl g i, hw, AV.agg_holds.2 ⟨us, rfl, k1, k2⟩⟩
    have hm : (fs.mapM (m := Sem) (fun f => do pure (f.offset, ← sizeOf f.type))).run P w = .ok places.toArray w := by
      rw [← Array.toArray_toList (xs := fs), List.mapM_toArray]
      change Sem.run P (List.mapM _ fs.toList >>= fun x => pure x.toArray) w = _
      rw [Sem.run_bind, run_places h1]; rfl
    have e' : Instr.fill (fun x => places.toArray[x]?) zs.toArray (parts.map fun x => (x.1, a.eval x.2)).toList = some us.toArray := by simpa using e
    simp only [execOp, Instr.build, Sem.run_bind, hzr, Result.andThen_ok, hzc, run_underlying hu, hm]
    simp only [e']
    rfl
  · cases h1

end
end Go.Aw

/- An abstract walk: what the operations yield (4): memory. -/
namespace Go.Aw
open Go.RowKit (Below)

/-- st' is st with item it turned into it'. -/
inductive Upd : List Item → Item → Item → List Item → Prop
  | here {it it' st} : Upd (it :: st) it it' (it' :: st)
  | there {x st it it' st'} (h : Upd st it it' st') : Upd (x :: st) it it' (x :: st')

theorem Upd.perm {st st' : List Item} {it it' : Item} (h : Upd st it it' st') : ∃ r, st.Perm (it :: r) ∧ st'.Perm (it' :: r) := by
  induction h with
  | here => exact ⟨_, .refl _, .refl _⟩
  | there _ ih =>
    obtain ⟨r, h1, h2⟩ := ih
    exact ⟨_, (List.Perm.cons _ h1).trans (List.Perm.swap _ _ _), (List.Perm.cons _ h2).trans (List.Perm.swap _ _ _)⟩

theorem RelW.take {g : Ghost} {st st' F : List Item} {it : Item} {w : World} (h : RelW g (st ++ F) w) (ht : Take st it st') : RelW g (it :: (st' ++ F)) w := h.perm (ht.perm.append_right F)

section
variable {P : Program} {σ : Fr} {st : List Item} {i : Nat} {d : Option Tmp} {ty : TypeId} {pos : String} {after : Array Edge} {gd : Option (Nat × Bool)} {w : World}

/-! ### Loads -/
theorem y_loadE {T : TypeId} {x : Operand} {cs : List AV} {v : AV} [ScalarT P T] (hx : Ev σ x (.eptr cs)) (hv : cs[0]? = some v) : Yields P ⟨d, .load T x, ty, pos, after, gd⟩ σ st i v st := fun F g a w hw hi hs => by
  obtain ⟨b, o, e, hr⟩ := AV.eptr_holds.1 (hx.holds hs (by simp [Op.operands]))
  obtain ⟨u, h1, h2, _⟩ := hr.get 0 v hv
  rw [Nat.add_zero] at h1
  refine goes_value (u := u) ?_ ⟨g, Ghost.to.refl g i, hw, h2⟩
  have hc := hw.com _ _ _ h1
  simp only [execOp, e, Instr.loadAt, Instr.sureAddr]
  rw [Sem.run_bind, Sem.run_bind, Sem.run_pure]
  simp only [Result.andThen_ok]
  rw [run_loadVar_scalar hc]; rfl

theorem y_loadEAgg {T n : Nat} {x : Operand} {cs : List AV} [AggT P T n] (hx : Ev σ x (.eptr cs)) (hn : n ≤ cs.length) : Yields P ⟨d, .load T x, ty, pos, after, gd⟩ σ st i (.agg (cs.take n)) st := fun F g a w hw hi hs => by
  obtain ⟨b, o, e, hr⟩ := AV.eptr_holds.1 (hx.holds hs (by simp [Op.operands]))
  obtain ⟨vs, h1, h2, h3⟩ := (hr.take n).values
  refine goes_value (u := .agg vs.toArray) ?_ ⟨g, Ghost.to.refl g i, hw, AV.agg_holds.2 ⟨vs, rfl, h1, h2⟩⟩
  have hl : vs.length = n := by rw [← h1.length]; simp [hn]
  simp only [execOp, e, Instr.loadAt, Instr.sureAddr]
  rw [Sem.run_bind, Sem.run_bind, Sem.run_pure]
  simp only [Result.andThen_ok]
  rw [run_loadVar_agg hl (fun j v hj => hw.com _ _ _ (h3 j v hj))]; rfl

theorem cells_item {g : Ghost} {st st' F : List Item} {j : Nat} {cs : List AV} {w : World} (hw : RelW g (st ++ F) w) (ht : Take st (.cells j cs) st') {b p s : Nat} (hl : g.loc j = some (b, p, s)) :
    ∃ vs E, w.heap[b]? = some (.cells vs E (0, 0)) ∧ holdsL g cs vs.toList ∧ (∀ u ∈ vs.toList, u.oneCell' = true) := by
  obtain ⟨b', p', s', vs, E, h1, h2, h3, h4, _⟩ := (hw.take ht).items _ (List.mem_cons_self ..)
  rw [hl] at h1; cases h1
  exact ⟨vs, E, h2, h3, h4⟩

theorem y_load {T j off : Nat} {x : Operand} {cs : List AV} {st' : List Item} {v : AV} [ScalarT P T] (hx : Ev σ x (.ptr j off)) (ht : Take st (.cells j cs) st') (hv : cs[off]? = some v) : Yields P ⟨d, .load T x, ty, pos, after, gd⟩ σ st i v st := fun F g a w hw hi hs => by
  obtain ⟨b, p, s, hl, e⟩ := AV.ptr_holds.1 (hx.holds hs (by simp [Op.operands]))
  obtain ⟨vs, E, h1, h2, h3⟩ := cells_item hw ht hl
  obtain ⟨u, hu, hh⟩ := h2.get _ _ hv
  refine goes_value (u := u) ?_ ⟨g, Ghost.to.refl g i, hw, hh⟩
  have hc : w.cell? ⟨b, off, none⟩ = some u := by simp [World.cell?, h1]; simpa using hu
  simp only [execOp, e, Instr.loadAt, Instr.sureAddr]
  rw [Sem.run_bind, Sem.run_bind, Sem.run_pure]
  simp only [Result.andThen_ok]
  rw [run_loadVar_scalar hc]; rfl

theorem y_loadAgg {T n j off : Nat} {x : Operand} {cs : List AV} {st' : List Item} [AggT P T n] (hx : Ev σ x (.ptr j off)) (ht : Take st (.cells j cs) st') (hn : off + n ≤ cs.length) : Yields P ⟨d, .load T x, ty, pos, after, gd⟩ σ st i (.agg ((cs.drop off).take n)) st := fun F g a w hw hi hs => by
  obtain ⟨b, p, s, hl, e⟩ := AV.ptr_holds.1 (hx.holds hs (by simp [Op.operands]))
  obtain ⟨vs, E, h1, h2, h3⟩ := cells_item hw ht hl
  have h4 := (h2.drop off).take n
  refine goes_value (u := .agg ((vs.toList.drop off).take n).toArray) ?_ ⟨g, Ghost.to.refl g i, hw, AV.agg_holds.2 ⟨_, rfl, h4, fun u hu => h3 u (List.mem_of_mem_drop (List.mem_of_mem_take hu))⟩⟩
  have hlen : ((vs.toList.drop off).take n).length = n := by rw [← h4.length, List.length_take, List.length_drop]; omega
  simp only [execOp, e, Instr.loadAt, Instr.sureAddr]
  rw [Sem.run_bind, Sem.run_bind, Sem.run_pure]
  simp only [Result.andThen_ok]
  rw [run_loadVar_agg hlen (fun j v hj => by
    rw [List.getElem?_take] at hj
    split at hj
    · rw [List.getElem?_drop] at hj; simp [World.cell?, h1]; simpa using hj
    · cases hj)]; rfl

theorem res_cellS {σ : Fr} {st st' : List Item} {t T i : Nat} {cs : List AV} {v : AV} [ScalarT P T] (h : look σ t = some (.ptr i 0)) (ht : Take st (.cells i cs) st') (hv : cs[0]? = some v) : ResOne P σ st (.cell t T) v :=
  .cell h fun F g w hw b p s hl => by
    obtain ⟨vs, E, h1, h2, h3⟩ := cells_item hw ht hl
    obtain ⟨u, hu, hh⟩ := h2.get _ _ hv
    have hc : w.cell? ⟨b, 0, none⟩ = some u := by simp [World.cell?, h1]; simpa using hu
    exact ⟨u, hh, run_loadVar_scalar hc⟩
theorem res_cellW {σ : Fr} {st st' : List Item} {t T i n : Nat} {cs : List AV} [AggT P T n] (h : look σ t = some (.ptr i 0)) (ht : Take st (.cells i cs) st') (hn : cs.length = n) : ResOne P σ st (.cell t T) (.agg cs) :=
  .cell h fun F g w hw b p s hl => by
    obtain ⟨vs, E, h1, h2, h3⟩ := cells_item hw ht hl
    refine ⟨.agg vs, AV.agg_holds.2 ⟨vs.toList, by simp, h2, h3⟩, ?_⟩
    have := run_loadVar_agg (P := P) (w := w) (T := T) (b := b) (o := 0) (vs := vs.toList) (by rw [← h2.length, hn]) (fun j v hj => by simp [World.cell?, h1]; simpa using hj)
    simpa using this

/-! ### Stores -/
theorem run_storeVar_at {T b o E : Nat} {vs : Array Value} {us : List Value} {v : Value} (hT : sizeB P T = some us.length) (hv : v.cells = us.toArray) (h1 : ∀ x ∈ us, x.oneCell' = true) (hb : w.heap[b]? = some (.cells vs E (0, 0))) (hfit : o + us.length ≤ vs.size) :
    (storeVar T ⟨b, o, none⟩ v).run P w = .ok () (w.setRow b (setMany vs.toList o us).toArray) := by
  unfold storeVar
  rw [Sem.run_bind, run_sizeOf hT]
  simp only [Result.andThen_ok, hv, List.size_toArray, ne_eq, not_true_eq_false, if_false]
  have := run_storeCells_at P b o E us 0 vs w hb (by simpa using hfit) h1
  simpa [setMany] using this

theorem y_store {T j off : Nat} {x y : Operand} {cs ds : List AV} {v : AV} {st' : List Item} {n : Nat} [hc : Cells v ds] (hT : sizeB P T = some n) (hn : ds.length = n) (hx : Ev σ x (.ptr j off)) (hy : Ev σ y v) (hu : Upd st (.cells j cs) (.cells j (setMany cs off ds)) st') (hfit : off + n ≤ cs.length) :
    Yields P ⟨d, .store T x y, ty, pos, after, gd⟩ σ st i (.val undef) st' := fun F g a w hw hi hs => by
  obtain ⟨b, p, s, hl, e⟩ := AV.ptr_holds.1 (hx.holds hs (by simp [Op.operands]))
  obtain ⟨us, e2, k1, k2⟩ := hc.cells g _ (hy.holds hs (by simp [Op.operands]))
  obtain ⟨r, p1, p2⟩ := hu.perm
  have hw1 : RelW g (.cells j cs :: (r ++ F)) w := hw.perm (p1.append_right F)
  obtain ⟨b', p', s', vs, E, h1, h2, h3, h4, h5, h6⟩ := hw1.items _ (List.mem_cons_self ..)
  rw [hl] at h1; cases h1
  have hl1 := h3.length
  have hl2 := k1.length
  have hrun := run_storeVar_at (P := P) (w := w) (T := T) (o := off) (v := a.eval y) (by rw [hT, ← hn, hl2]) e2 k2 h2 (by simp at hl1; omega)
  refine goes_skip (w' := w.setRow b (setMany vs.toList off us).toArray) ?_ ⟨g, Ghost.to.refl g i, ?_, AV.val_self _⟩
  · simp only [execOp, e, Instr.storeAt, Instr.sureAddr]
    rw [Sem.run_bind, Sem.run_bind, Sem.run_pure]
    simp only [Result.andThen_ok]
    rw [hrun]; rfl
  · have := hw1.storeCells (cs' := setMany cs off ds) hl (vs' := (setMany vs.toList off us).toArray) (h3.setMany off k1) (fun u hu => by
      simp only [setMany, List.mem_append] at hu
      rcases hu with (hu | hu) | hu
      · exact h4 u (List.mem_of_mem_take hu)
      · exact k2 u hu
      · exact h4 u (List.mem_of_mem_drop hu))
    exact this.perm (p2.append_right F).symm

/-! ### New memory -/
theorem setMany_all : ∀ {cs ds : List AV}, ds.length = cs.length → setMany cs 0 ds = ds := by
  intro cs ds h; simp [setMany, h]
/-- A load of the whole. -/
theorem y_loadEW {T n : Nat} {x : Operand} {cs : List AV} [AggT P T n] (hx : Ev σ x (.eptr cs)) (hn : cs.length = n) : Yields P ⟨d, .load T x, ty, pos, after, gd⟩ σ st i (.agg cs) st := by
  have := y_loadEAgg (P := P) (T := T) (d := d) (ty := ty) (pos := pos) (after := after) (gd := gd) (st := st) (i := i) hx (Nat.le_of_eq hn.symm)
  rwa [← hn, List.take_length] at this
theorem y_loadW {T n j : Nat} {x : Operand} {cs : List AV} {st' : List Item} [AggT P T n] (hx : Ev σ x (.ptr j 0)) (ht : Take st (.cells j cs) st') (hn : cs.length = n) : Yields P ⟨d, .load T x, ty, pos, after, gd⟩ σ st i (.agg cs) st := by
  have := y_loadAgg (P := P) (T := T) (d := d) (ty := ty) (pos := pos) (after := after) (gd := gd) (i := i) hx ht (by omega)
  rwa [← hn, List.drop_zero, List.take_length] at this
/-- A store over the whole. -/
theorem y_storeW {T j : Nat} {x y : Operand} {cs ds : List AV} {v : AV} {st' : List Item} {n : Nat} [hc : Cells v ds] (hT : sizeB P T = some n) (hn : ds.length = n) (hx : Ev σ x (.ptr j 0)) (hy : Ev σ y v) (hu : Upd st (.cells j cs) (.cells j ds) st') (hm : cs.length = n) :
    Yields P ⟨d, .store T x y, ty, pos, after, gd⟩ σ st i (.val undef) st' :=
  y_store hT hn hx hy (by rw [setMany_all (hn.trans hm.symm)]; exact hu) (by omega)

theorem y_alloc {T : Nat} {zs : List Value} [hz : ZeroT P T zs] : Yields P ⟨d, .alloc T, ty, pos, after, gd⟩ σ st i (.ptr i 0) (.cells i (zs.map .val) :: st) := fun F g a w hw hi hs => by
  obtain ⟨z, hzr, hzc⟩ := zero_spec (P := P) (w := w) (T := T)
  have h1 := hw.allocCells hi (cs := zs.map .val) (vs := zs.toArray) T (holdsL_vals zs) (fun u hu => by have := hz.one; rw [List.all_eq_true] at this; exact this u hu)
  refine goes_value (u := .pointer (some ⟨w.heap.size, 0, none⟩)) ?_ ⟨_, Ghost.to_setLoc hi, h1, AV.ptr_holds.2 ⟨_, _, _, Ghost.setLoc_same, rfl⟩⟩
  simp only [execOp, Instr.alloc]
  rw [Sem.run_bind, Sem.run_bind, hzr]
  simp only [Result.andThen_ok]
  simp [newVar, newRow, hzc]

theorem y_box {T : Nat} {x : Operand} {v : AV} {cs : List AV} [hc : Cells v cs] (hx : Ev σ x v) : Yields P ⟨d, .box T x, ty, pos, after, gd⟩ σ st i (.ptr i 0) (.cells i cs :: st) := fun F g a w hw hi hs => by
  obtain ⟨us, e2, k1, k2⟩ := hc.cells g _ (hx.holds hs (by simp [Op.operands]))
  have h1 := hw.allocCells hi (cs := cs) (vs := us.toArray) T k1 k2
  refine goes_value (u := .pointer (some ⟨w.heap.size, 0, none⟩)) ?_ ⟨_, Ghost.to_setLoc hi, h1, AV.ptr_holds.2 ⟨_, _, _, Ghost.setLoc_same, rfl⟩⟩
  simp [execOp, Instr.box, newVar, newRow, e2]

/-- A slice's literal: its elements in their order, from number k on. -/
inductive PartsE (σ : Fr) (sz : Nat) : Nat → List (Nat × Operand) → List (List AV) → Prop
  | nil {k} : PartsE σ sz k [] []
  | cons {k : Nat} {x : Operand} {v : AV} {cs : List AV} {ps qs} (h : Ev σ x v) (hc : Cells v cs) (hl : cs.length = sz) (r : PartsE σ sz (k + 1) ps qs) : PartsE σ sz k ((k, x) :: ps) (cs :: qs)

theorem PartsE.len {sz : Nat} : ∀ {k : Nat} {ps : List (Nat × Operand)} {qs : List (List AV)}, PartsE σ sz k ps qs → ∀ x ∈ qs, x.length = sz
  | _, _, _, .nil, x, hx => by simp at hx
  | _, _, _, .cons h hc hl r, x, hx => by
    rcases List.mem_cons.1 hx with rfl | hx
    · exact hl
    · exact r.len x hx

theorem fill_elems {g : Ghost} {o : Oper} {a : Act} {sz : Nat} (hs : Slots g σ a (opTmps o)) : ∀ {k : Nat} {ps : List (Nat × Operand)} {qs : List (List AV)} (_ : PartsE σ sz k ps qs) (hm : ∀ x ∈ ps, x.2 ∈ o.op.operands)
    {vs : List Value} (hfit : vs.length = (k + qs.length) * sz),
    ∃ us : List Value, Instr.fill (fun x => some (x * sz, sz)) vs.toArray (ps.map fun x => (x.1, a.eval x.2)) = some (vs.take (k * sz) ++ us).toArray ∧ holdsL g qs.flatten us ∧ ∀ u ∈ us, u.oneCell' = true := by
  intro k ps qs hp
  induction hp with
  | @nil k => intro _ vs hf; exact ⟨[], by simp at hf; simp [Instr.fill, ← hf], trivial, by simp⟩
  | @cons k x v cs ps qs h hc hl _ ih =>
    intro hm vs hf
    obtain ⟨us, e, k1, k2⟩ := hc.cells g _ (h.holds hs (hm (k, x) (by simp)))
    have hlen := k1.length
    have e1 : (k + (cs :: qs).length) * sz = k * sz + (sz + qs.length * sz) := by simp [Nat.add_mul]; omega
    rw [e1] at hf
    have hb : k * sz + us.length ≤ vs.length := by omega
    rw [List.map_cons, fill_step (us := us) (off := k * sz) (by rw [← hlen, hl]) e (by simp; omega)]
    obtain ⟨us', e', k3, k4⟩ := ih (fun y hy => hm y (by simp [hy])) (vs := setMany vs (k * sz) us) (by rw [setMany_len hb, hf, Nat.add_mul, Nat.add_mul]; omega)
    refine ⟨us ++ us', ?_, k1.append k3, fun u hu => ?_⟩
    · have e2 : (setMany vs (k * sz) us).take ((k + 1) * sz) = vs.take (k * sz) ++ us := by
        unfold setMany
        have h3 : (k + 1) * sz = (vs.take (k * sz) ++ us).length := by
          rw [List.length_append, List.length_take, Nat.min_eq_left (by omega), Nat.add_mul, Nat.one_mul]; omega
        rw [h3]; exact List.take_left
      rw [show (setMany vs.toArray.toList (k * sz) us).toArray = (setMany vs (k * sz) us).toArray by simp, e', e2, List.append_assoc]
    · rcases List.mem_append.1 hu with hu | hu
      · exact k2 u hu
      · exact k4 u hu

theorem y_buildSlice {T E sz by_ len : Nat} {parts : Array (Nat × Operand)} {qs : List (List AV)} {zs : List Value} [ht : SliceT P T E sz by_] [hz : ZeroT P E zs] (hp : PartsE σ sz 0 parts.toList qs) (hl : qs.length = len) (hsm : len * sz ≤ 16777216) :
    Yields P ⟨d, .buildSlice T len parts, ty, pos, after, gd⟩ σ st i (.full sz qs) st := fun F g a w hw hi hs => by
  obtain ⟨z, hzr, hzc⟩ := zero_spec (P := P) (w := w) (T := E)
  have hm : ∀ x ∈ parts.toList, x.2 ∈ (Op.buildSlice T len parts).operands := fun x hx => by simp only [Op.operands, List.mem_toArray]; exact List.mem_map.2 ⟨x, hx, rfl⟩
  have key : ∀ (zero : Array Value), ∃ us : List Value, Instr.fill (fun x => some (x * sz, sz)) ((Array.range (len * sz)).map (zero[· % zero.size]!)) (parts.map fun x => (x.1, a.eval x.2)).toList = some us.toArray ∧ holdsL g qs.flatten us ∧ ∀ u ∈ us, u.oneCell' = true := by
    intro zero
    obtain ⟨us, e, k1, k2⟩ := fill_elems (sz := sz) hs hp hm (vs := ((Array.range (len * sz)).map (zero[· % zero.size]!)).toList) (by simp [hl])
    refine ⟨us, ?_, k1, k2⟩
    simp only [Nat.zero_mul, List.take_zero, List.nil_append, Array.toArray_toList] at e
    rw [← e]; simp
  have hfl := flatten_len hp.len
  have h16 : ¬ (16777216 < len * sz) := by omega
  by_cases h0 : len * sz = 0
  · obtain ⟨us, e, k1, k2⟩ := key #[]
    have hlu : us.length = len * sz := by rw [← k1.length, hfl, hl]
    have h1 := hw.allocCom (vs := us.toArray) E us.length (by simp)
    refine goes_value (u := .slice (some ⟨w.heap.size, 0, none⟩) len len) (w' := w.alloc (.cells us.toArray E)) ?_ ⟨_, Ghost.to_commit (fun o _ _ => hw.noCom (Nat.le_refl _)), h1, AV.full_holds.2 ⟨some ⟨w.heap.size, 0, none⟩, (by rw [hl]), (fun e => by cases e), ⟨hp.len, fun hne => ⟨_, _, rfl, ?_⟩⟩⟩⟩
    · simp only [execOp, Instr.buildSlice, Sem.run_bind, run_underlying ht.und, Result.andThen_ok, run_sizeOf ht.hsize]
      rw [if_neg (by simpa using h16)]
      simp only [Sem.run_pure, Result.andThen_ok, if_pos h0, Sem.run_bind]
      simp only [e]
      simp [newRow]
    · exact comRow_commit (Ghost.le_commit (fun o _ _ => hw.noCom (Nat.le_refl _))) (by rw [k1.length]; exact Nat.le_refl _) (by rw [k1.length]; simpa using k1) (by rw [k1.length]; simpa using k2)
  · obtain ⟨us, e, k1, k2⟩ := key z.cells
    have hlu : us.length = len * sz := by rw [← k1.length, hfl, hl]
    have h1 := hw.allocCom (vs := us.toArray) E us.length (by simp)
    refine goes_value (u := .slice (some ⟨w.heap.size, 0, none⟩) len len) (w' := w.alloc (.cells us.toArray E)) ?_ ⟨_, Ghost.to_commit (fun o _ _ => hw.noCom (Nat.le_refl _)), h1, AV.full_holds.2 ⟨some ⟨w.heap.size, 0, none⟩, (by rw [hl]), (fun e => by cases e), ⟨hp.len, fun hne => ⟨_, _, rfl, ?_⟩⟩⟩⟩
    · simp only [execOp, Instr.buildSlice, Sem.run_bind, run_underlying ht.und, Result.andThen_ok, run_sizeOf ht.hsize]
      rw [if_neg (by simpa using h16)]
      simp only [Sem.run_pure, Result.andThen_ok, if_neg h0, Sem.run_bind, hzr]
      simp only [e]
      simp [newRow]
    · exact comRow_commit (Ghost.le_commit (fun o _ _ => hw.noCom (Nat.le_refl _))) (by rw [k1.length]; exact Nat.le_refl _) (by rw [k1.length]; simpa using k1) (by rw [k1.length]; simpa using k2)

end
end Go.Aw

/- An abstract walk: what the operations yield (5): append, make, conversions, comparisons; calls. -/
namespace Go.Aw
open Go.RowKit (Below)

section
variable {P : Program} {σ : Fr} {st : List Item} {i : Nat} {d : Option Tmp} {ty : TypeId} {pos : String} {after : Array Edge} {gd : Option (Nat × Bool)} {w : World}

theorem info_of {E sz by_ : Nat} {zs : List Value} (h1 : sizeB P E = some sz) (h2 : (P.info? E).map (·.bytes) = some by_) [hz : ZeroT P E zs] :
    ∃ inf z, P.info? E = some inf ∧ inf.size = sz ∧ inf.bytes = by_ ∧ inf.zero = some z ∧ z.cells = zs.toArray := by
  unfold sizeB at h1
  have h3 := hz.out
  cases hi : P.info? E with
  | none => simp [hi] at h1
  | some inf =>
    cases hz : inf.zero with
    | none => simp [hi, hz] at h3
    | some z =>
      simp [hi] at h1 h2
      simp [hi, hz] at h3
      exact ⟨inf, z, rfl, h1, h2, hz, by rw [← h3]⟩

theorem run_append_nothing {T E sz by_ : Nat} [ht : SliceT P T E sz by_] (tyy : TypeId) (base : Option Addr) (len cap : Nat) (hc : len ≤ cap) (a : Option Addr) (cap' : Nat) :
    (Builtin.append_ #[T, T] tyy #[.slice base len cap, .slice a 0 cap']).run P w = .ok (.slice base len cap) w := by
  have hf : (Builtin.firstCells sz 0 (.slice a 0 cap')).run P w = .ok #[] w := by
    cases a with
    | none => simp [Builtin.firstCells]
    | some a => simp [Builtin.firstCells, loadCells, loadCellsFrom]
  cases base with
  | none => simp [Builtin.append_, run_underlying ht.und, run_sizeOf ht.hsize, Builtin.lenOf, hc, hf]
  | some b => simp [Builtin.append_, run_underlying ht.und, run_sizeOf ht.hsize, Builtin.lenOf, hc, hf, storeCells]

theorem run_append_inplace {T E sz by_ : Nat} [ht : SliceT P T E sz by_] (tyy : TypeId) (b off len cap : Nat) (vs : Array Value) (E' : TypeId) (hb : w.heap[b]? = some (.cells vs E' (0, 0))) (a : Addr) (m c : Nat) (news : List Value)
    (hl : news.length = m * sz) (hnews : ∀ j u, news[j]? = some u → w.cell? (a.add j) = some u) (h1 : ∀ u ∈ news, u.oneCell' = true) (hroom : len + m ≤ cap) (hfit : off + len * sz + news.length ≤ vs.size) :
    (Builtin.append_ #[T, T] tyy #[.slice (some ⟨b, off, none⟩) len cap, .slice (some a) m c]).run P w =
      .ok (.slice (some ⟨b, off, none⟩) (len + m) cap) (w.setRow b (setMany vs.toList (off + len * sz) news).toArray) := by
  have hf := run_firstCells_some (P := P) w sz m a m c news hl hnews
  have hst := run_storeCells_at P b (off + len * sz) E' news 0 vs w hb (by simpa using hfit) h1
  simp only [Nat.add_zero] at hst
  simp [Builtin.append_, run_underlying ht.und, run_sizeOf ht.hsize, Builtin.lenOf, hroom, hf, Addr.add_mk, hst, setMany]

/-- append(s, x...) -/
theorem y_append {T E sz by_ : Nat} {x y : Operand} {t : Option Nat} {av : AV} {xs ys : List (List AV)} {zs : List Value} [ht : SliceT P T E sz by_] [hz : ZeroT P E zs] [hr : Rd av sz ys] (hzl : zs.length = sz)
    (hx : Ev σ x (.grow sz t xs)) (hy : Ev σ y av) (hb : xs.length + ys.length ≤ 1073741824) :
    Yields P ⟨d, .call { callee := .builtin .append, args := #[x, y], argTypes := #[T, T] }, ty, pos, after, gd⟩ σ (.tail t :: st) i (.grow sz (if ys.isEmpty then t else some i) (xs ++ ys)) (.tail (if ys.isEmpty then t else some i) :: st) := fun F g a w hw hi hs => by
  have ex := hx.holds hs (by simp [Op.operands, Call.operands])
  obtain ⟨ad, cap, ey, hcapy, hlen, hrow⟩ := AV.sl_holds.1 (hr.imp _ _ (hy.holds hs (by simp [Op.operands, Call.operands])))
  obtain ⟨inf, z, hinf, hsz, hby, hzero, hzc⟩ := info_of (P := P) ht.hsize ht.hbytes (hz := hz)
  have hexec : ∀ {r : Result Value}, (Builtin.append_ #[T, T] ty #[a.eval x, a.eval y]).run P w = r → (execOp a.eval ⟨d, .call { callee := .builtin .append, args := #[x, y], argTypes := #[T, T] }, ty, pos, after, gd⟩).run P w = r.andThen (fun v w' => .ok (.value v) w') := by
    intro r h
    simp only [execOp, resolve, Sem.run_bind, Sem.run_pure, Result.andThen_ok, invoke, builtin]
    simp only [List.map_toArray, List.map_cons, List.map_nil, h]
  by_cases hys : ys = []
  · subst hys
    simp only [List.isEmpty_nil, if_true, List.append_nil]
    simp only [List.length_nil] at ey
    have hform : ∃ base len cap', a.eval x = .slice base len cap' ∧ len ≤ cap' := by
      cases t with
      | none => obtain ⟨b, e, _⟩ := AV.full_holds.1 ex; exact ⟨_, _, _, e, Nat.le_refl _⟩
      | some j => obtain ⟨_, _, _, _, cap', _, e, h, _⟩ := AV.own_holds.1 ex; exact ⟨_, _, _, e, h⟩
    obtain ⟨base, len, cap', e, hc⟩ := hform
    refine goes_value (u := a.eval x) (w' := w) ?_ ⟨g, Ghost.to.refl g i, hw, ex⟩
    rw [hexec (r := .ok (a.eval x) w) (by rw [e, ey]; exact run_append_nothing ty base len cap' hc ad cap)]; rfl
  · have hne : ys.isEmpty = false := by cases ys with | nil => exact absurd rfl hys | cons => rfl
    simp only [hne, Bool.false_eq_true, if_false]
    obtain ⟨b', o', rfl, hrow'⟩ := hrow hys
    obtain ⟨news, n1, n2, n3⟩ := hrow'.values
    have hln : news.length = ys.length * sz := by rw [← n1.length, flatten_len hlen]
    have hypos : 0 < ys.length := by cases ys with | nil => exact absurd rfl hys | cons => simp
    have hnews : ∀ (w1 : World), (∀ ad, w1.cell? ad = w.cell? ad) → ∀ j u, news[j]? = some u → w1.cell? ((⟨b', o', none⟩ : Addr).add j) = some u := fun w1 h1 j u hj => by
      rw [Addr.add_mk, h1]; exact hw.com _ _ _ (n3 j u hj)
    have hsmall := ht.small
    have hbytes : (xs.length + ys.length) * inf.bytes ≤ 140737488355328 := by
      rw [hby]
      calc (xs.length + ys.length) * by_ ≤ 1073741824 * 65536 := Nat.mul_le_mul hb hsmall
        _ ≤ _ := by decide
    have hzsz : z.cells.size = sz := by rw [hzc]; simpa using hzl
    -- a new array
    have grown : ∀ (olds : List Value) (old : Nat), holdsL g xs.flatten olds → (∀ u ∈ olds, u.oneCell' = true) → (∀ x ∈ xs, x.length = sz) → old < xs.length + ys.length →
        ∀ w', w' = w.drew.alloc (.cells (olds.toArray ++ news.toArray ++ Builtin.zeroCells z.cells (grownCap w (xs.length + ys.length) old E - (xs.length + ys.length))) E) →
        ∃ g', g.to i g' ∧ RelW g' (.tail (some i) :: (st ++ F)) w' ∧ (AV.own sz i (xs ++ ys)).holds g' (.slice (some ⟨w.heap.size, 0, none⟩) (xs.length + ys.length) (grownCap w (xs.length + ys.length) old E)) := by
      intro olds old ho ho1 hxl hold w' hw'
      have hge := grownCap_ge w (xs.length + ys.length) old E
      generalize hvs : olds.toArray ++ news.toArray ++ Builtin.zeroCells z.cells (grownCap w (xs.length + ys.length) old E - (xs.length + ys.length)) = vs at hw'
      have hlo : olds.length = xs.length * sz := by rw [← ho.length, flatten_len hxl]
      have hvl : vs.size = grownCap w (xs.length + ys.length) old E * sz := by
        rw [← hvs]
        simp only [Array.size_append, List.size_toArray, size_zeroCells, hzsz, hlo, hln, ← Nat.add_mul]
        congr 1; omega
      have hw0 : RelW g (st ++ F) w.drew := (hw.tailOf).drew
      have h1 := hw0.allocTail hi (vs := vs) E ((xs.length + ys.length) * sz) (by rw [hvl]; exact Nat.mul_le_mul_right _ hge)
      have hcommit : g.le (g.commit w.heap.size 0 ((xs.length + ys.length) * sz) (fun o => vs[o]?)) := Ghost.le_commit (fun o _ _ => hw.noCom (Nat.le_refl _))
      have hflat : (xs ++ ys).flatten.length = (xs.length + ys.length) * sz := by
        rw [flatten_len (sz := sz) (fun x hx => (List.mem_append.1 hx).elim (hxl x) (hlen x)), List.length_append]
      have htake : vs.toList.take ((xs ++ ys).flatten.length) = olds ++ news := by
        rw [hflat, ← hvs]
        simp only [Array.toList_append, List.append_assoc]
        rw [← List.append_assoc]
        apply List.take_left'
        rw [List.length_append, hlo, hln, Nat.add_mul]
      have hcr := comRow_commit (vs := vs) (cs := (xs ++ ys).flatten) hcommit (by rw [hflat]; exact Nat.le_refl _) (by rw [htake, List.flatten_append]; exact ho.append n1) (by rw [htake]; exact fun u hu => (List.mem_append.1 hu).elim (ho1 u) (n2 u))
      have hle2 := Ghost.le_setLoc (g := g.commit w.heap.size 0 ((xs.length + ys.length) * sz) (fun o => vs[o]?)) (i := i) (x := (w.heap.size, (xs.length + ys.length) * sz, vs.size)) hi
      refine ⟨_, (Ghost.to_commit (fun o _ _ => hw.noCom (Nat.le_refl _))).trans (Ghost.to_setLoc hi), by rw [hw']; exact h1, ?_⟩
      rw [AV.own_holds]
      refine ⟨w.heap.size, (xs.length + ys.length) * sz, vs.size, 0, _, Ghost.setLoc_same, by rw [List.length_append], by rw [List.length_append]; exact hge, fun x hx => (List.mem_append.1 hx).elim (hxl x) (hlen x), hcr.mono hle2, by rw [List.length_append]; omega, by rw [hvl]; omega⟩
    cases t with
    | none =>
      obtain ⟨b, e, hbn, hxl, hxrow⟩ := AV.full_holds.1 ex
      cases b with
      | none =>
        have hxs := hbn rfl
        subst hxs
        simp only [List.length_nil] at e
        have hr := run_append_nil (P := P) w T ty E inf z ht.und hinf hzero ⟨b', o', none⟩ ys.length cap news (by rw [hln, hsz]) (hnews w (fun _ => rfl)) hypos (by simp at hb; omega) (by simp at hbytes; omega)
        obtain ⟨g', h1, h2, h3⟩ := grown [] 0 trivial (by simp) (by simp) (by simp; exact hypos) _ rfl
        simp only [List.length_nil, Nat.zero_add, List.nil_append, Array.empty_append] at h2 h3 ⊢
        refine goes_value ?_ ⟨g', h1, h2, h3⟩
        rw [hexec rfl, e, ey, hr]; rfl
      | some ba =>
        have hxr : ∃ olds : List Value, holdsL g xs.flatten olds ∧ (∀ u ∈ olds, u.oneCell' = true) ∧ ∀ j v, olds[j]? = some v → w.cell? (ba.add j) = some v := by
          rcases Classical.em (xs = []) with h | h
          · subst h; exact ⟨[], trivial, by simp, by simp⟩
          · obtain ⟨b, o, e1, hrw⟩ := hxrow h
            cases e1
            obtain ⟨olds, k1, k2, k3⟩ := hrw.values
            exact ⟨olds, k1, k2, fun j v hj => by rw [Addr.add_mk]; exact hw.com _ _ _ (k3 j v hj)⟩
        obtain ⟨olds, k1, k2, k3⟩ := hxr
        have hr := run_append_grow (P := P) w T ty E inf z ht.und hinf hzero ba xs.length xs.length olds (by rw [← k1.length, flatten_len hxl, hsz]) k3 ⟨b', o', none⟩ ys.length cap news (by rw [hln, hsz]) (hnews w (fun _ => rfl)) (by omega) (by omega) (growslice_fits (by omega) hbytes)
        obtain ⟨g', h1, h2, h3⟩ := grown olds xs.length k1 k2 hxl (by omega) _ rfl
        refine goes_value ?_ ⟨g', h1, h2, h3⟩
        rw [hexec rfl, e, ey, hr]; rfl
    | some j =>
      obtain ⟨b, ps, S, off, cap0, hloc, e, hcap0, hxl, hxrow, hpos, hS⟩ := AV.own_holds.1 ex
      obtain ⟨olds, k1, k2, k3⟩ := hxrow.values
      have hlo : olds.length = xs.length * sz := by rw [← k1.length, flatten_len hxl]
      by_cases hroom : xs.length + ys.length ≤ cap0
      · obtain ⟨b2, pos2, S2, vs, E', m1, m2, m3, m4, m5, m6⟩ := hw.items _ (List.mem_cons_self ..)
        rw [hloc] at m1; cases m1
        have hfit : off + xs.length * sz + news.length ≤ vs.size := by
          have := Nat.mul_le_mul_right sz hroom
          rw [Nat.add_mul] at this
          rw [hln, m3]; omega
        have hr := run_append_inplace (P := P) (T := T) ty b off xs.length cap0 vs E' m2 ⟨b', o', none⟩ ys.length cap news hln (hnews w (fun _ => rfl)) n2 hroom hfit
        have hg := hw.growTail (j := i) hi hloc m2 (vs' := (setMany vs.toList ps news).toArray) news.length (by rw [List.size_toArray, setMany_len (by rw [← hpos]; simpa using hfit)]; simpa using m3) (by omega) (fun o ho => by
          unfold setMany
          simp only [List.getElem?_toArray]
          rw [List.append_assoc, List.getElem?_append_left (by simp; omega), List.getElem?_take, if_pos ho]; simp)
        have hc0 : ∀ o, ps ≤ o → o < ps + news.length → g.com b o = none := fun o h _ => m5 o h
        refine goes_value (u := .slice (some ⟨b, off, none⟩) (xs.length + ys.length) cap0) ?_ ⟨_, (Ghost.to_commit hc0).trans (Ghost.to_setLoc hi), hg, ?_⟩
        · rw [hexec rfl, e, ey, hr, hpos]; rfl
        · have hle1 := Ghost.le_commit (f := fun o => (setMany vs.toList ps news).toArray[o]?) hc0
          have hle2 := Ghost.le_setLoc (g := g.commit b ps (ps + news.length) (fun o => (setMany vs.toList ps news).toArray[o]?)) (i := i) (x := (b, ps + news.length, S)) hi
          show (AV.own sz i (xs ++ ys)).holds _ _
          rw [AV.own_holds]
          refine ⟨b, ps + news.length, S, off, cap0, Ghost.setLoc_same, by rw [List.length_append], by rw [List.length_append]; exact hroom, fun x hx => (List.mem_append.1 hx).elim (hxl x) (hlen x), ?_, by rw [List.length_append, hln, ← hpos, Nat.add_mul]; omega, hS⟩
          · rw [List.flatten_append]
            refine comRow.mono hle2 (comRow.append (hxrow.mono hle1) ?_)
            rw [flatten_len hxl, hpos]
            refine comRow.of (n1.mono hle1) n2 (fun j v hj => ?_)
            have hjl : j < news.length := by
              rcases Nat.lt_or_ge j news.length with h | h
              · exact h
              · simp [List.getElem?_eq_none h] at hj
            show (if b = b ∧ ps ≤ ps + j ∧ ps + j < ps + news.length then _ else _) = _
            rw [if_pos ⟨rfl, by omega, by omega⟩]
            have hpv : ps ≤ vs.toList.length := by simp; omega
            unfold setMany
            simp only [List.getElem?_toArray]
            rw [List.append_assoc, List.getElem?_append_right (by rw [List.length_take]; omega), List.length_take, Nat.min_eq_left hpv, Nat.add_sub_cancel_left, List.getElem?_append_left hjl]
            exact hj
      · have hr := run_append_grow (P := P) w T ty E inf z ht.und hinf hzero ⟨b, off, none⟩ xs.length cap0 olds (by rw [hlo, hsz]) (fun j v hj => by rw [Addr.add_mk]; exact hw.com _ _ _ (k3 j v hj)) ⟨b', o', none⟩ ys.length cap news (by rw [hln, hsz]) (hnews w (fun _ => rfl)) (by omega) (by omega) (growslice_fits (by omega) hbytes)
        obtain ⟨g', h1, h2, h3⟩ := grown olds cap0 k1 k2 hxl (by omega) _ rfl
        refine goes_value ?_ ⟨g', h1, h2, h3⟩
        rw [hexec rfl, e, ey, hr]; rfl

end
end Go.Aw
