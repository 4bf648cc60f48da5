/- Supervisors: the plain functions. No condition. -/
import Derived.Test.YtjjgchblmejooaaK3
import Derived.Test.YtjjgchblmejooaaAwC
set_option linter.unusedVariables false
set_option linter.unusedSimpArgs false
namespace Sv
open Go.Aw (bys)
structure Ch where
  name : ByteArray
  policy : Int
  sub : Int
  deriving DecidableEq, Inhabited
structure Spc where
  strategy : Int
  intensity : Int
  window : Int
  children : List Ch
  deriving DecidableEq, Inhabited
structure Cs where
  status : Int
  starts : Int
  deriving DecidableEq, Inhabited
structure Ss where
  status : Int
  children : List Cs
  restarts : List Int
  failed : Bool
  deriving DecidableEq, Inhabited
structure Evt where
  kind : Int
  child : Int
  value : Int
  time : Int
  deriving DecidableEq, Inhabited
structure Hp where
  child : Int
  kind : Int
  after : Int
  deriving DecidableEq, Inhabited
def S0 : Ss := ⟨0, [], [], false⟩
def win (n a b : Int) : Bool := decide (a ≤ n) && decide (n ≤ b)
def isReason (n : Int) : Bool := win n 0 9 || win n 100 999
def isNormal (n : Int) : Bool := decide (n = 0) || decide (n = 1)
/-- Names: letters, then letters, digits and _. -/
def small (c : Int) : Bool := decide (97 ≤ c) && decide (c ≤ 122)
def digit (c : Int) : Bool := decide (48 ≤ c) && decide (c ≤ 57)
def okAt (l : List Int) (i : Nat) : Bool := small (l.getD i 0) || (decide (i ≠ 0) && (decide (l.getD i 0 = 95) || digit (l.getD i 0)))
def isName (b : ByteArray) : Bool := (decide (1 ≤ b.size) && decide (b.size ≤ 30)) && (List.range (bys b).length).all (okAt (bys b))
def same (a b : ByteArray) : Bool := a.toList == b.toList
def chkC (l : List Ch) : List Nat → Int
  | [] => 0
  | i :: r =>
    if isName (l.getD i default).name = false then 5
    else if (l.take i).any (fun y => same y.name (l.getD i default).name) = true then 6
    else if win (l.getD i default).policy 1 3 = false then 8
    else if win (l.getD i default).sub (-1) 15 = false then 2
    else chkC l r
def chk (x : Spc) : Int :=
  if win x.strategy 1 3 = false then 8
  else if (win x.intensity 0 100 && win x.window 1 1099511627776) = false then 2
  else if win x.children.length 1 16 = false then 4
  else chkC x.children (List.range x.children.length)
def count (l : List Cs) (s : Int) : Int := ((l.filter (fun c => decide (c.status = s))).length : Int)
def children (x : Spc) (s : Ss) : Bool :=
  if s.children.length ≠ x.children.length ∨ count s.children 1 + count s.children 2 + count s.children 3 + count s.children 4 ≠ s.children.length then false
  else if s.children.any (fun c => !win c.starts 1 1099511627776) = true then false
  else if s.status = 1 then decide (count s.children 2 + count s.children 4 = 0)
  else if s.status = 2 then (decide (x.strategy ≠ 1) && decide (0 < count s.children 2)) && decide (0 < count s.children 4)
  else if s.status = 3 then decide (0 < count s.children 2) && decide (count s.children 1 + count s.children 4 = 0)
  else if s.status = 4 then decide (count s.children 3 = s.children.length)
  else false
def restarts (x : Spc) (l : List Int) : Bool :=
  (List.range l.length).all (fun i => win (l.getD i 0) 0 1099511627776 && (decide (i = 0) || decide (l.getD (i - 1) 0 ≤ l.getD i 0)) && decide (l.getD (l.length - 1) 0 - x.window < l.getD i 0)) && decide ((l.length : Int) ≤ x.intensity)
def valid (x : Spc) (s : Ss) : Int :=
  if chk x ≠ 0 ∨ children x s = false ∨ restarts x s.restarts = false ∨ (s.failed = true ∧ s.status ≠ 3 ∧ s.status ≠ 4) then 1 else 0
def new (x : Spc) : Ss × List Evt × Int :=
  if chk x ≠ 0 then (S0, [], 1)
  else (⟨1, List.replicate x.children.length ⟨1, 1⟩, [], false⟩, (List.range x.children.length).map (fun (i : Nat) => ⟨3, (i : Int), 0, 0⟩), 0)
def fromTo (a b : Int) : List Int := (List.range (b + 1 - a).toNat).map (fun (i : Nat) => a + (i : Int))
def affected (x : Spc) (c : Int) : List Int :=
  if x.strategy = 1 then fromTo c c else if x.strategy = 3 then fromTo c ((x.children.length : Int) - 1) else fromTo 0 ((x.children.length : Int) - 1)
def recent (x : Spc) (l : List Int) (now : Int) : List Int := l.filter (fun t => !decide (t ≤ now - x.window))
/-- The supervisor that handles an event: its state and its actions. -/
abbrev Rn := Ss × List Evt
def st (r : Rn) (i : Int) : Int := (r.1.children.getD i.toNat default).status
def act (t : Int) (r : Rn) (k c : Int) : Rn := (r.1, r.2 ++ [⟨k, c, 0, t⟩])
def setL (l : List Cs) (i : Int) (s : Int) : List Cs := l.set i.toNat ⟨s, (l.getD i.toNat default).starts⟩
def set (r : Rn) (i : Int) (s : Int) : Rn := ({ r.1 with children := setL r.1.children i s }, r.2)
def stop1 (t : Int) (r : Rn) (i : Int) : Rn := if st r i = 1 then act t (set r i 2) 4 i else r
def stop (t : Int) (r : Rn) (l : List Int) : Rn := l.reverse.foldl (stop1 t) r
def idx (n : Nat) : List Int := (List.range n).map (fun (i : Nat) => (i : Int))
def again1 (t : Int) (r : Rn) (i : Int) : Rn :=
  if st r i = 4 then act t ({ r.1 with children := r.1.children.set i.toNat ⟨1, (r.1.children.getD i.toNat default).starts + 1⟩ }, r.2) 3 i else r
def again (t : Int) (r : Rn) : Rn :=
  let q := (idx r.1.children.length).foldl (again1 t) r
  ({ q.1 with status := 1 }, q.2)
def ended (t : Int) (r : Rn) : Rn := if r.1.failed = true then act t ({ r.1 with status := 4 }, r.2) 5 (-1) else ({ r.1 with status := 4 }, r.2)
def shut1 (r : Rn) (i : Int) : Rn := if st r i = 4 then set r i 3 else r
def shut (t : Int) (r : Rn) : Rn :=
  let q := stop t ((idx r.1.children.length).foldl shut1 r) (idx r.1.children.length)
  if 0 < count q.1.children 2 then ({ q.1 with status := 3 }, q.2) else ended t q
def polic (x : Spc) (c : Int) : Int := (x.children.getD c.toNat default).policy
def running (x : Spc) (t : Int) (r : Rn) (c v : Int) : Rn :=
  if polic x c = 3 ∨ (polic x c = 2 ∧ isNormal v = true) then set r c 3
  else if x.intensity ≤ ((recent x r.1.restarts t).length : Int) then shut t ({ (set r c 3).1 with failed := true }, r.2)
  else
    let q := stop t (set ({ r.1 with restarts := recent x r.1.restarts t ++ [t] }, r.2) c 4) (affected x c)
    if count q.1.children 2 = 0 then again t q else ({ q.1 with status := 2 }, q.2)
def stopping (x : Spc) (t : Int) (r : Rn) (c : Int) : Rn :=
  let q := if r.1.status = 2 ∧ polic x c ≠ 3 then set r c 4 else set r c 3
  if 0 < count q.1.children 2 then q else if q.1.status = 2 then again t q else ended t q
def exited (x : Spc) (t : Int) (r : Rn) (c v : Int) : Rn := if st r c = 1 then running x t r c v else stopping x t r c
def asked (t : Int) (r : Rn) : Rn := if r.1.status ≠ 3 then shut t r else r
def check (x : Spc) (s : Ss) (e : Evt) : Int :=
  if e.kind ≠ 1 ∧ e.kind ≠ 2 then 8
  else if (e.kind = 1 ∧ (win e.child 0 (x.children.length - 1) = false ∨ isReason e.value = false)) ∨ (e.kind ≠ 1 ∧ (e.child ≠ -1 ∨ e.value ≠ 0)) ∨ win e.time 0 1099511627776 = false then 2
  else if 0 < s.restarts.length ∧ e.time < s.restarts.getD (s.restarts.length - 1) 0 then 9
  else if (e.kind = 1 ∧ (s.children.getD e.child.toNat default).status ≠ 1 ∧ (s.children.getD e.child.toNat default).status ≠ 2) ∨ (e.kind ≠ 1 ∧ s.status = 4) then 17
  else 0
def handle (x : Spc) (s : Ss) (e : Evt) : Ss × List Evt × Int :=
  if valid x s ≠ 0 then (S0, [], 1)
  else if check x s e ≠ 0 then (S0, [], check x s e)
  else if e.kind = 1 then ((exited x e.time (s, []) e.child e.value).1, (exited x e.time (s, []) e.child e.value).2, 0)
  else ((asked e.time (s, [])).1, (asked e.time (s, [])).2, 0)
def spec1 : Spc := ⟨1, 1, 5, [⟨⟨#[97]⟩, 1, -1⟩]⟩
example : new spec1 = (⟨1, [⟨1, 1⟩], [], false⟩, [⟨3, 0, 0, 0⟩], 0) := by decide +kernel
example : handle spec1 (new spec1).1 ⟨1, 0, 0, 3⟩ = (⟨1, [⟨1, 2⟩], [3], false⟩, [⟨3, 0, 0, 3⟩], 0) := by decide +kernel
end Sv
namespace Go.Aw
open Sv
def encCh (c : Ch) : List AV := [.val (.string c.name), .int c.policy, .int c.sub]
def encSp (x : Spc) : List AV := [.int x.strategy, .int x.intensity, .int x.window, .sl 3 (x.children.map encCh)]
def encCs (c : Cs) : List AV := [.int c.status, .int c.starts]
def encSs (s : Ss) : List AV := [.int s.status, .sl 2 (s.children.map encCs), .sl 1 (s.restarts.map encI), .bool s.failed]
def encEv (e : Evt) : List AV := [.int e.kind, .int e.child, .int e.value, .int e.time]
def encHp (h : Hp) : List AV := [.val (.int .u8 h.child), .val (.int .u8 h.kind), .val (.int .u8 h.after)]
instance {a : ByteArray} {b c : Int} : RowOf [.val (.string a), .val (.int .i64 b), .val (.int .i64 c)] encCh ⟨a, b, c⟩ := ⟨ImpL.refl _⟩
instance {a b : Int} : RowOf [.val (.int .i64 a), .val (.int .i64 b)] encCs ⟨a, b⟩ := ⟨ImpL.refl _⟩
instance {a b c d : Int} : RowOf [.val (.int .i64 a), .val (.int .i64 b), .val (.int .i64 c), .val (.int .i64 d)] encEv ⟨a, b, c, d⟩ := ⟨ImpL.refl _⟩
instance {a b c : Int} {v : AV} {l : List Ch} [h : Sl v 3 encCh l] : RowOf [.val (.int .i64 a), .val (.int .i64 b), .val (.int .i64 c), v] encSp ⟨a, b, c, l⟩ := ⟨.cons (AV.Imp.refl _) (.cons (AV.Imp.refl _) (.cons (AV.Imp.refl _) (.cons h.imp .nil)))⟩
instance {a : Int} {v w : AV} {l : List Cs} {m : List Int} {b : Bool} [h : Sl v 2 encCs l] [k : Sl w 1 encI m] : RowOf [.val (.int .i64 a), v, w, .val (.bool b)] encSs ⟨a, l, m, b⟩ := ⟨.cons (AV.Imp.refl _) (.cons h.imp (.cons k.imp (.cons (AV.Imp.refl _) .nil)))⟩
end Go.Aw
namespace Sv
theorem flt_t {α : Type} (p : α → Bool) (l : List α) (k : Nat) (hk : k < l.length) (h : p l[k] = true) : ((l.take (k + 1)).filter p).length = ((l.take k).filter p).length + 1 := by
  rw [List.take_add_one, List.getElem?_eq_getElem hk, List.filter_append]
  simp [h]
theorem flt_f {α : Type} (p : α → Bool) (l : List α) (k : Nat) (hk : k < l.length) (h : p l[k] = false) : ((l.take (k + 1)).filter p).length = ((l.take k).filter p).length := by
  rw [List.take_add_one, List.getElem?_eq_getElem hk, List.filter_append]
  simp [h]
end Sv
namespace Sv
open Go.Aw (bys)
theorem okAt_get {l : List Int} {k : Nat} (hk : k < l.length) : okAt l k = (small l[k] || (decide (k ≠ 0) && (decide (l[k] = 95) || digit l[k]))) := by
  unfold okAt; simp [List.getD, hk]
theorem isName_bad {b : ByteArray} {k : Nat} (hk : k < (bys b).length) (h : okAt (bys b) k = false) : isName b = false := by
  unfold isName
  have : ((List.range (bys b).length).all (okAt (bys b))) = false := by
    rw [List.all_eq_false]
    exact ⟨k, List.mem_range.2 hk, by simp [h]⟩
  rw [this, Bool.and_false]
theorem isName_good {b : ByteArray} (h : ∀ i, i < (bys b).length → okAt (bys b) i = true) : isName b = (decide (1 ≤ b.size) && decide (b.size ≤ 30)) := by
  unfold isName
  have : ((List.range (bys b).length).all (okAt (bys b))) = true := by
    rw [List.all_eq_true]
    exact fun i hi => h i (List.mem_range.1 hi)
  rw [this, Bool.and_true]
theorem toList_loop (b : ByteArray) : ∀ (n i : Nat) (r : List UInt8), n = b.size - i → ByteArray.toList.loop b i r = r.reverse ++ b.data.toList.drop i
  | 0, i, r, h => by
    unfold ByteArray.toList.loop
    have hs : b.data.toList.length = b.size := by rw [Array.length_toList]; rfl
    rw [if_neg (by omega), List.drop_eq_nil_of_le (by omega), List.append_nil]
  | n + 1, i, r, h => by
    unfold ByteArray.toList.loop
    have hs : b.data.toList.length = b.size := by rw [Array.length_toList]; rfl
    have hi : i < b.data.toList.length := by omega
    rw [if_pos (by omega), toList_loop b n (i + 1) _ (by omega), List.drop_eq_getElem_cons hi, List.reverse_cons, List.append_assoc]
    congr 2
    have : b.get! i = b.data.toList[i] := by
      rw [Array.getElem_toList]
      show b.data[i]! = _
      rw [getElem!_pos b.data i (by rw [Array.length_toList] at hi; exact hi)]
    rw [this]; rfl
theorem toList_eq (b : ByteArray) : b.toList = b.data.toList := by
  unfold ByteArray.toList
  rw [toList_loop b _ 0 [] rfl]; rfl
theorem same_iff {a b : ByteArray} : same a b = true ↔ a = b := by
  unfold same
  rw [beq_iff_eq, toList_eq, toList_eq]
  constructor
  · intro h
    cases a; cases b
    simp only [ByteArray.mk.injEq]
    exact Array.toList_inj.1 h
  · rintro rfl; rfl
theorem same_nil {b : ByteArray} : (b.toList == (⟨#[]⟩ : ByteArray).toList) = decide (b.size = 0) := by
  rw [Bool.eq_iff_iff, beq_iff_eq, toList_eq, toList_eq, decide_eq_true_eq]
  show b.data.toList = [] ↔ b.data.size = 0
  rw [← Array.length_toList, List.length_eq_zero_iff]
end Sv
namespace Sv
theorem isName_size {b : ByteArray} (h : ¬ (1 ≤ b.size ∧ b.size ≤ 30)) : isName b = false := by
  unfold isName
  have : (decide (1 ≤ b.size) && decide (b.size ≤ 30)) = false := by
    rw [Bool.eq_false_iff]
    simp only [ne_eq, Bool.and_eq_true, decide_eq_true_eq]
    exact h
  rw [this, Bool.false_and]
end Sv
namespace Sv
def errC (pre : List Ch) (c : Ch) : Int :=
  if isName c.name = false then 5
  else if pre.any (fun y => same y.name c.name) = true then 6
  else if win c.policy 1 3 = false then 8
  else if win c.sub (-1) 15 = false then 2 else 0
theorem chkC_step (l : List Ch) {k : Nat} (hk : k < l.length) : chkC l ((List.range l.length).drop k) = if errC (l.take k) l[k] ≠ 0 then errC (l.take k) l[k] else chkC l ((List.range l.length).drop (k + 1)) := by
  have hr : k < (List.range l.length).length := by simpa using hk
  rw [List.drop_eq_getElem_cons hr, List.getElem_range, chkC]
  have hg : l.getD k default = l[k] := by simp [List.getD, hk]
  rw [hg]
  unfold errC
  by_cases h1 : isName l[k].name = false
  · simp [h1]
  · by_cases h2 : (l.take k).any (fun y => same y.name l[k].name) = true
    · simp [h1, h2]
    · by_cases h3 : win l[k].policy 1 3 = false
      · simp [h1, h2, h3]
      · by_cases h4 : win l[k].sub (-1) 15 = false
        · simp [h1, h2, h3, h4]
        · simp [h1, h2, h3, h4]
theorem chkC_end (l : List Ch) {k : Nat} (hk : l.length ≤ k) : chkC l ((List.range l.length).drop k) = 0 := by
  rw [List.drop_eq_nil_of_le (by simpa using hk)]; rfl
theorem chkC_err (l : List Ch) {k : Nat} {e : Int} (hk : k < l.length) (h : errC (l.take k) l[k] = e) (h0 : e ≠ 0) : chkC l ((List.range l.length).drop k) = e := by
  rw [chkC_step l hk, h, if_pos h0]
theorem chkC_ok (l : List Ch) {k : Nat} (hk : k < l.length) (h : errC (l.take k) l[k] = 0) : chkC l ((List.range l.length).drop k) = chkC l ((List.range l.length).drop (k + 1)) := by
  rw [chkC_step l hk, h, if_neg (by simp)]
def great (x : Spc) : Bool := decide (18 < (x.children.length : Int)) || x.children.any (fun c => decide (40 < (c.name.size : Int)))
end Sv
namespace Sv
def okR (q : Spc) (l : List Int) (i : Nat) : Bool := win (l.getD i 0) 0 1099511627776 && (decide (i = 0) || decide (l.getD (i - 1) 0 ≤ l.getD i 0)) && decide (l.getD (l.length - 1) 0 - q.window < l.getD i 0)
theorem restarts_eq (q : Spc) (l : List Int) : restarts q l = ((List.range l.length).all (okR q l) && decide ((l.length : Int) ≤ q.intensity)) := rfl
theorem restarts_bad {q : Spc} {l : List Int} {k : Nat} (hk : k < l.length) (h : okR q l k = false) : restarts q l = false := by
  rw [restarts_eq]
  have : ((List.range l.length).all (okR q l)) = false := by
    rw [List.all_eq_false]
    exact ⟨k, List.mem_range.2 hk, by simp [h]⟩
  rw [this, Bool.false_and]
theorem restarts_good {q : Spc} {l : List Int} (h : ∀ i, i < l.length → okR q l i = true) : restarts q l = decide ((l.length : Int) ≤ q.intensity) := by
  rw [restarts_eq]
  have : ((List.range l.length).all (okR q l)) = true := by
    rw [List.all_eq_true]
    exact fun i hi => h i (List.mem_range.1 hi)
  rw [this, Bool.true_and]
theorem okR_iff {q : Spc} {l : List Int} {k : Nat} (hk : k < l.length) : okR q l k = true ↔ win l[k] 0 1099511627776 = true ∧ (k = 0 ∨ l.getD ((k : Int) - 1).toNat default ≤ l[k]) ∧ l.getD ((l.length : Int) - 1).toNat default - q.window < l[k] := by
  have e1 : ((k : Int) - 1).toNat = k - 1 := by omega
  have e2 : ((l.length : Int) - 1).toNat = l.length - 1 := by omega
  have e3 : l.getD k 0 = l[k] := by simp [List.getD, hk]
  rw [e1, e2]
  unfold okR
  rw [e3]
  simp only [Bool.and_eq_true, Bool.or_eq_true, decide_eq_true_eq]
  exact ⟨fun ⟨⟨a, b⟩, c⟩ => ⟨a, b, c⟩, fun ⟨a, b, c⟩ => ⟨⟨a, b⟩, c⟩⟩
end Sv
namespace Sv
theorem last_or {l : List Int} {t : Int} (h : l = [] ∨ l[l.length - 1]?.getD 0 ≤ t) (hp : 0 < l.length) : l[l.length - 1]?.getD 0 ≤ t := by
  rcases h with h | h
  · rw [h] at hp; cases hp
  · exact h
end Sv
namespace Go.Aw
open Sv
theorem setMany_cons2 (a b : AV) (X : List AV) (i : Nat) (v : AV) : setMany (a :: b :: X) ((i + 1) * 2) [v] = a :: b :: setMany X (i * 2) [v] := by
  unfold setMany
  rw [show (i + 1) * 2 = i * 2 + 2 by omega]
  simp [show i * 2 + 2 + 1 = (i * 2 + 1) + 2 by omega]
theorem encCs_set : ∀ (l : List Cs) (i : Nat) (h : i < l.length) (pad : List AV) (v : Int), setMany ((l.map encCs).flatten ++ pad) (i * 2) [.int v] = ((l.set i ⟨v, l[i].starts⟩).map encCs).flatten ++ pad
  | c :: l, 0, h, pad, v => by simp [setMany, encCs]
  | c :: l, i + 1, h, pad, v => by
    have hi : i < l.length := by simpa using h
    have ih := encCs_set l i hi pad v
    show setMany (.int c.status :: .int c.starts :: ((l.map encCs).flatten ++ pad)) ((i + 1) * 2) [.int v] = .int c.status :: .int c.starts :: (((l.set i ⟨v, l[i].starts⟩).map encCs).flatten ++ pad)
    rw [setMany_cons2, ih]
end Go.Aw
namespace Sv
theorem encCs_len : ∀ l : List Cs, ((l.map Go.Aw.encCs).flatten).length = l.length * 2
  | [] => rfl
  | c :: l => by
    have := encCs_len l
    simp only [List.map_cons, List.flatten_cons, List.length_append, this, List.length_cons, Go.Aw.encCs, List.length_nil]
    omega
end Sv
