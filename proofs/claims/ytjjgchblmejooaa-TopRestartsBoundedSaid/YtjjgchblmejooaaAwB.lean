/- The abstract walk, second part: calls, appends, open orders, readings of arguments, from a contract to a row. For every program. No condition. -/
import Derived.Test.YtjjgchblmejooaaAwA
import Derived.ProofKit
import Derived.OpenShut
import Derived.JoinedCond
import Derived.Deep.Slices
import Derived.Carry
import Derived.Laws.Cover3
set_option linter.unusedVariables false
set_option linter.unusedSimpArgs false
/- An abstract walk: what the operations yield (6): calls, make, conversions, comparisons. -/
namespace Go.Aw
open Go.RowKit (Below)

section
variable {P : Program} {σ : Fr} {st : List Item} {i : Nat} {d : Option Tmp} {ty : TypeId} {pos : String} {after : Array Edge} {gd : Option (Nat × Bool)} {w : World}

/-! ### Calls -/
theorem run_callFunc {f : FuncId} (h : callable P f = true) (args : Array Value) : (callFunc f args).run P w = .ok (.enter f args) w := by
  unfold callable at h
  cases hf : P.funcs[f]? with
  | none => simp [hf] at h
  | some fn =>
    simp [hf] at h
    obtain ⟨h1, h2⟩ := h
    have h3 : (fn.name == "runtime.NumGoroutine") = false := by simpa using h2
    cases hb : fn.body with
    | none => simp [hb] at h1
    | some c => simp [callFunc, hf, h2, hb]

/-- What stands at a call as the callee. -/
class Fun (v : AV) (f : outParam FuncId) (caps : outParam (List AV)) : Prop where
  imp : v.Imp (.clo f caps)
instance {f : Nat} {caps : List AV} : Fun (.clo f caps) f caps := ⟨AV.Imp.refl _⟩
instance {f : Nat} : Fun (.val (.func (.func f) #[] #[])) f [] := ⟨fun g u h => by rw [AV.val_holds] at h; subst h; exact AV.clo_holds.2 ⟨[], rfl, trivial⟩⟩

theorem goes_call {o : Oper} {a : Act} {w w' : World} {f : FuncId} {args : Array Value} {R : Value → World → Prop} (h : (execOp a.eval o).run P w = .ok (.enter f args) w') (hr : Calls P f args w' fun e w'' => ∃ u, e = .returned u ∧ R u w'') : Goes P o a w R := by
  unfold Goes; rw [h]; exact hr

theorem run_call {c : Operand} {args : Array Operand} {ts : Array TypeId} {a : Act} {f : FuncId} {us : List Value} (hc : callable P f = true) (e : a.eval c = .func (.func f) #[] us.toArray) :
    (execOp a.eval ⟨d, .call { callee := .value c, args := args, argTypes := ts }, ty, pos, after, gd⟩).run P w = .ok (.enter f (args.toList.map a.eval ++ us).toArray) w := by
  simp only [execOp, resolve, Deferred.ofValue, e, Sem.run_bind, Sem.run_pure, Result.andThen_ok, invoke]
  rw [run_callFunc hc]
  congr 2
  apply Array.ext'
  simp

/-- A call whose callee leaves the items alone, and yields v. -/
theorem y_call {c : Operand} {args : Array Operand} {ts : Array TypeId} {fv : AV} {f : FuncId} {caps vs : List AV} {v : AV} {st' : List Item} [hf : Fun fv f caps] (hc : Ev σ c fv) (hargs : EvL σ args.toList vs)
    (h : ACalls P f (vs ++ caps) st (fun v' st'' => v' = v ∧ st'' = st')) : Yields P ⟨d, .call { callee := .value c, args := args, argTypes := ts }, ty, pos, after, gd⟩ σ st i v st' := fun F g a w hw hi hs => by
  obtain ⟨us, e, hus⟩ := AV.clo_holds.1 (hf.imp _ _ (hc.holds hs (by simp [Op.operands, Call.operands])))
  have hv := hargs.holds hs (fun x hx => by simp [Op.operands, Call.operands]; right; simpa using hx)
  refine goes_call (run_call h.1 e) ((h.2 F g w _ hw (hv.append hus)).mono fun e' w' ⟨u, v', st'', g', he, hx, hw', hv', hq, hst⟩ => ?_)
  subst hq hst
  exact ⟨u, he, g', hx.to i, hw', hv'⟩

/-- The call's own rule: whatever the contract says of the result holds behind it. -/
theorem aops_call {n : Nat} {ops : Array Oper} {rest : List Oper} {K : Fr → List Item → Prop} {dd : Nat} {c : Operand} {args : Array Operand} {ts : Array TypeId} {fv : AV} {f : FuncId} {caps vs : List AV} [hf : Fun fv f caps] (hd : dd < n)
    (hc : Ev σ c fv) (hargs : EvL σ args.toList vs) (h : ACalls P f (vs ++ caps) st (fun v st' => AOps P n ops rest ((dd, v) :: σ) st' K)) : AOps P n ops (⟨some dd, .call { callee := .value c, args := args, argTypes := ts }, ty, pos, after, none⟩ :: rest) σ st K := by
  intro F g a w hfr hw
  have hs : Slots g σ a (opTmps ⟨some dd, .call { callee := .value c, args := args, argTypes := ts }, ty, pos, after, none⟩) := hfr.slots _
  obtain ⟨us, e, hus⟩ := AV.clo_holds.1 (hf.imp _ _ (hc.holds hs (by simp [Op.operands, Call.operands])))
  have hv := hargs.holds hs (fun x hx => by simp [Op.operands, Call.operands]; right; simpa using hx)
  unfold wpList
  rw [if_pos (by simp [Region.wanted])]
  left
  have hg : Goes P ⟨some dd, .call { callee := .value c, args := args, argTypes := ts }, ty, pos, after, none⟩ a w (fun u w' => ∃ (v : AV) (st' : List Item) (g' : Ghost), g.ext g' ∧ RelW g' (st' ++ F) w' ∧ v.holds g' u ∧ AOps P n ops rest ((dd, v) :: σ) st' K) :=
    goes_call (run_call h.1 e) ((h.2 F g w _ hw (hv.append hus)).mono fun e' w' ⟨u, v', st'', g', he, r⟩ => ⟨u, he, v', st'', g', r⟩)
  exact hg.wp fun u w' ⟨v, st', g', hx, hw', hv', hk⟩ => wpList_ext hx (hk F g' _ w' ((hfr.mono hx.le).put hd hv') hw')

/-- A call of a function without a result that is kept. -/
theorem aops_callNone {n : Nat} {ops : Array Oper} {rest : List Oper} {K : Fr → List Item → Prop} {c : Operand} {args : Array Operand} {ts : Array TypeId} {fv : AV} {f : FuncId} {caps vs : List AV} [hf : Fun fv f caps]
    (hc : Ev σ c fv) (hargs : EvL σ args.toList vs) (h : ACalls P f (vs ++ caps) st (fun v st' => AOps P n ops rest σ st' K)) : AOps P n ops (⟨none, .call { callee := .value c, args := args, argTypes := ts }, ty, pos, after, none⟩ :: rest) σ st K := by
  intro F g a w hfr hw
  have hs : Slots g σ a (opTmps ⟨none, .call { callee := .value c, args := args, argTypes := ts }, ty, pos, after, none⟩) := hfr.slots _
  obtain ⟨us, e, hus⟩ := AV.clo_holds.1 (hf.imp _ _ (hc.holds hs (by simp [Op.operands, Call.operands])))
  have hv := hargs.holds hs (fun x hx => by simp [Op.operands, Call.operands]; right; simpa using hx)
  unfold wpList
  rw [if_pos (by simp [Region.wanted])]
  left
  have hg : Goes P ⟨none, .call { callee := .value c, args := args, argTypes := ts }, ty, pos, after, none⟩ a w (fun u w' => ∃ (v : AV) (st' : List Item) (g' : Ghost), g.ext g' ∧ RelW g' (st' ++ F) w' ∧ v.holds g' u ∧ AOps P n ops rest σ st' K) :=
    goes_call (run_call h.1 e) ((h.2 F g w _ hw (hv.append hus)).mono fun e' w' ⟨u, v', st'', g', he, r⟩ => ⟨u, he, v', st'', g', r⟩)
  exact hg.wp fun u w' ⟨v, st', g', hx, hw', hv', hk⟩ => wpList_ext hx (hk F g' _ w' (hfr.mono hx.le) hw')

/-- A contract used where more items stand. -/
theorem ACalls.frame {f : FuncId} {args : List AV} {st1 st2 : List Item} {Q Q' : AV → List Item → Prop} (h : ACalls P f args st1 Q) (hp : st.Perm (st1 ++ st2)) (hq : ∀ v st', Q v st' → Q' v (st' ++ st2)) : ACalls P f args st Q' :=
  ⟨h.1, fun F g w vs hw hv => (h.2 (st2 ++ F) g w vs (by rw [← List.append_assoc]; exact hw.perm (hp.append_right F)) hv).mono fun e w' ⟨u, v, st', g', a, b, c, d', q⟩ => ⟨u, v, st' ++ st2, g', a, b, by rw [List.append_assoc]; exact c, d', hq _ _ q⟩⟩

/-- A contract that asks for no items and leaves none. -/
theorem ACalls.pure {f : FuncId} {args : List AV} {v : AV} (h : ACalls P f args [] (fun v' st' => v' = v ∧ st' = [])) : ACalls P f args st (fun v' st' => v' = v ∧ st' = st) :=
  h.frame (st2 := st) (by simp) fun v' st' ⟨a, b⟩ => ⟨a, by rw [b]; rfl⟩

/-- The same, for what follows. -/
theorem ACalls.here {f : FuncId} {args : List AV} {v : AV} {Q : AV → List Item → Prop} (h : ACalls P f args [] (fun v' st' => v' = v ∧ st' = [])) (hq : Q v st) : ACalls P f args st Q :=
  h.pure.mono fun v' st' ⟨a, b⟩ => by rw [a, b]; exact hq

/-! ### Others -/
theorem run_equal_bool {T : TypeId} {a b : Bool} (hT : P.underlying T = some .bool) : (Op.equal T (.bool a) (.bool b)).run P w = .ok (a == b) w := by
  unfold Op.equal Op.maxDepth
  exact run_equalIn_bool' w 9999 T a b hT
theorem y_eqBool {T T' : TypeId} {x y : Operand} {a b : Bool} (hT : P.underlying T = some .bool) (hx : Ev σ x (.bool a)) (hy : Ev σ y (.bool b)) : Yields P ⟨d, .binOp .eql T x y T', ty, pos, after, gd⟩ σ st i (.bool (a == b)) st := fun F g ac w hw hi hs =>
  goes_value (u := .bool (a == b)) (by
    simp only [execOp, AV.val_holds.1 (hx.holds hs (by simp [Op.operands])), AV.val_holds.1 (hy.holds hs (by simp [Op.operands])), eqGuard, binOp]
    simp [run_equal_bool hT]) ⟨g, Ghost.to.refl g i, hw, AV.val_self _⟩
theorem y_neBool {T T' : TypeId} {x y : Operand} {a b : Bool} (hT : P.underlying T = some .bool) (hx : Ev σ x (.bool a)) (hy : Ev σ y (.bool b)) : Yields P ⟨d, .binOp .neq T x y T', ty, pos, after, gd⟩ σ st i (.bool (!(a == b))) st := fun F g ac w hw hi hs =>
  goes_value (u := .bool (!(a == b))) (by
    simp only [execOp, AV.val_holds.1 (hx.holds hs (by simp [Op.operands])), AV.val_holds.1 (hy.holds hs (by simp [Op.operands])), eqGuard, binOp]
    simp [run_equal_bool hT]) ⟨g, Ghost.to.refl g i, hw, AV.val_self _⟩

/-- Two lists of cells, compared one by one. -/
inductive EqL (P : Program) : List TypeId → List AV → List AV → Bool → Prop
  | nil : EqL P [] [] [] true
  | int {T k k' ts a b cs ds r} (h : P.underlying T = some (.int k')) (q : EqL P ts cs ds r) : EqL P (T :: ts) (.val (.int k a) :: cs) (.val (.int k b) :: ds) (decide (a = b) && r)
  | bool {T ts a b cs ds r} (h : P.underlying T = some .bool) (q : EqL P ts cs ds r) : EqL P (T :: ts) (.val (.bool a) :: cs) (.val (.bool b) :: ds) ((a == b) && r)

def flatB : Nat → List Field → Option (List TypeId)
  | _, [] => some []
  | o, f :: fs => if f.offset = o ∧ f.name ≠ "_" then (flatB (o + 1) fs).map (f.type :: ·) else none
class FlatT (P : Program) (T : TypeId) (ts : outParam (List TypeId)) : Prop where
  und : P.underlying T = some (.struct (P.fieldsOf T))
  out : flatB 0 (P.fieldsOf T).toList = some ts
  stood : P.stoodInHeld T = false
  guard : P.eqGuardType P.depth T = false
  scalar : ts.all (fun t => isAggB P t == some false) = true

theorem run_eqFields {g : Ghost} : ∀ {fs : List Field} {o : Nat} {ts : List TypeId} {cs ds : List AV} {r : Bool} (he : EqL P ts cs ds r) (hf : flatB o fs = some ts) (hsc : ts.all (fun t => isAggB P t == some false) = true) {xs ys : Array Value}
    (hx : ∀ j v, cs[j]? = some v → ∃ u, xs[o + j]? = some u ∧ v.holds g u) (hy : ∀ j v, ds[j]? = some v → ∃ u, ys[o + j]? = some u ∧ v.holds g u), (Op.eqFields 9999 xs ys fs).run P w = .ok r w
  | [], o, ts, cs, ds, r, he, hf, hsc, xs, ys, hx, hy => by
    simp only [flatB, Option.some.injEq] at hf; subst hf
    cases he
    simp [Op.eqFields]
  | f :: fs, o, ts, cs, ds, r, he, hf, hsc, xs, ys, hx, hy => by
    simp only [flatB] at hf
    split at hf
    · rename_i hc
      obtain ⟨ho, hn⟩ := hc
      cases hr : flatB (o + 1) fs with
      | none => simp [hr] at hf
      | some ts' =>
        simp [hr] at hf; subst hf
        have hsc1 : isAggB P f.type = some false := by simp at hsc; exact hsc.1
        have hsc2 : ts'.all (fun t => isAggB P t == some false) = true := by simp at hsc ⊢; exact hsc.2
        have part_ok : ∀ {zs : Array Value} {u : Value}, zs[o]? = some u → (part f.type zs f.offset).run P w = .ok u w := fun {zs u} h => by
          unfold part; rw [Sem.run_bind, run_isAgg hsc1]; simp [ho, h]
        cases he with
        | int h q =>
          obtain ⟨u, hu, hv⟩ := hx 0 _ rfl
          obtain ⟨u', hu', hv'⟩ := hy 0 _ rfl
          rw [AV.val_holds] at hv hv'; subst hv hv'
          have ih := run_eqFields (g := g) q hr hsc2 (xs := xs) (ys := ys) (fun j v hj => by have := hx (j + 1) v (by simpa using hj); rwa [show o + (j + 1) = o + 1 + j by omega] at this) (fun j v hj => by have := hy (j + 1) v (by simpa using hj); rwa [show o + (j + 1) = o + 1 + j by omega] at this)
          simp only [Op.eqFields, if_pos hn]
          rw [Sem.run_bind, part_ok (by simpa using hu)]
          simp only [Result.andThen_ok]
          rw [Sem.run_bind, part_ok (by simpa using hu')]
          simp only [Result.andThen_ok]
          rw [Sem.run_bind, run_equalIn_int w 9998 _ _ _ _ _ h]
          simp only [Result.andThen_ok]
          simp only [ih, Sem.run_ite, Sem.run_pure]
          split <;> simp_all
        | bool h q =>
          obtain ⟨u, hu, hv⟩ := hx 0 _ rfl
          obtain ⟨u', hu', hv'⟩ := hy 0 _ rfl
          rw [AV.val_holds] at hv hv'; subst hv hv'
          have ih := run_eqFields (g := g) q hr hsc2 (xs := xs) (ys := ys) (fun j v hj => by have := hx (j + 1) v (by simpa using hj); rwa [show o + (j + 1) = o + 1 + j by omega] at this) (fun j v hj => by have := hy (j + 1) v (by simpa using hj); rwa [show o + (j + 1) = o + 1 + j by omega] at this)
          simp only [Op.eqFields, if_pos hn]
          rw [Sem.run_bind, part_ok (by simpa using hu)]
          simp only [Result.andThen_ok]
          rw [Sem.run_bind, part_ok (by simpa using hu')]
          simp only [Result.andThen_ok]
          rw [Sem.run_bind, run_equalIn_bool' w 9998 _ _ _ h]
          simp only [Result.andThen_ok]
          simp only [ih, Sem.run_ite, Sem.run_pure]
          split <;> simp_all
    · cases hf

theorem run_eqStruct {g : Ghost} {T : TypeId} {ts : List TypeId} [ht : FlatT P T ts] {cs ds : List AV} {xs ys : List Value} {r : Bool} (he : EqL P ts cs ds r) (hx : holdsL g cs xs) (hy : holdsL g ds ys) : (Op.equalIn 10000 T (.agg xs.toArray) (.agg ys.toArray)).run P w = .ok r w := by
  have h1 := run_equalIn_struct (P := P) w 9999 T xs.toArray ys.toArray ht.und ht.stood
  rw [h1]
  exact run_eqFields he ht.out ht.scalar (fun j v hj => by obtain ⟨u, p, q⟩ := hx.get j v hj; exact ⟨u, by simpa using p, q⟩) (fun j v hj => by obtain ⟨u, p, q⟩ := hy.get j v hj; exact ⟨u, by simpa using p, q⟩)

theorem y_eqStruct {T T' : TypeId} {ts : List TypeId} {x y : Operand} {cs ds : List AV} {r : Bool} [ht : FlatT P T ts] (hx : Ev σ x (.agg cs)) (hy : Ev σ y (.agg ds)) (he : EqL P ts cs ds r) : Yields P ⟨d, .binOp .eql T x y T', ty, pos, after, gd⟩ σ st i (.bool r) st := fun F g ac w hw hi hs => by
  obtain ⟨xs, e1, h1, _⟩ := AV.agg_holds.1 (hx.holds hs (by simp [Op.operands]))
  obtain ⟨ys, e2, h2, _⟩ := AV.agg_holds.1 (hy.holds hs (by simp [Op.operands]))
  exact goes_value (u := .bool r) (by
    simp only [execOp, e1, e2]
    rw [Sem.run_bind, Sem.run_bind, run_eqGuard_agg (hm := ht.guard)]
    simp only [Result.andThen_ok]
    rw [run_eql_struct, run_eqStruct he h1 h2]; rfl) ⟨g, Ghost.to.refl g i, hw, AV.val_self _⟩
theorem y_neStruct {T T' : TypeId} {ts : List TypeId} {x y : Operand} {cs ds : List AV} {r : Bool} [ht : FlatT P T ts] (hx : Ev σ x (.agg cs)) (hy : Ev σ y (.agg ds)) (he : EqL P ts cs ds r) : Yields P ⟨d, .binOp .neq T x y T', ty, pos, after, gd⟩ σ st i (.bool (!r)) st := fun F g ac w hw hi hs => by
  obtain ⟨xs, e1, h1, _⟩ := AV.agg_holds.1 (hx.holds hs (by simp [Op.operands]))
  obtain ⟨ys, e2, h2, _⟩ := AV.agg_holds.1 (hy.holds hs (by simp [Op.operands]))
  exact goes_value (u := .bool (!r)) (by
    simp only [execOp, e1, e2]
    rw [Sem.run_bind, Sem.run_bind, run_eqGuard_agg (hm := ht.guard)]
    simp only [Result.andThen_ok]
    rw [run_neq_struct, run_eqStruct he h1 h2]; rfl) ⟨g, Ghost.to.refl g i, hw, AV.val_self _⟩

theorem y_convert {T T' : TypeId} {x : Operand} {k k' : IntKind} {a : Int} (hT : (P.underlying T).isSome = true) (hT' : P.underlying T' = some (.int k')) (hx : Ev σ x (.val (.int k a))) : Yields P ⟨d, .convert T T' x, ty, pos, after, gd⟩ σ st i (.val (.int k' (k'.wrap a))) st := fun F g ac w hw hi hs => by
  cases hu : P.underlying T with
  | none => simp [hu] at hT
  | some dd =>
    exact goes_value (u := .int k' (k'.wrap a)) (by
      simp [execOp, AV.val_holds.1 (hx.holds hs (by simp [Op.operands])), convert, run_underlying hu, run_underlying hT', Conv.intToInt]) ⟨g, Ghost.to.refl g i, hw, AV.val_self _⟩

theorem y_min {T T' : TypeId} {x y : Operand} {k : IntKind} {a b : Int} (hx : Ev σ x (.val (.int k a))) (hy : Ev σ y (.val (.int k b))) : Yields P ⟨d, .call { callee := .builtin .min, args := #[x, y], argTypes := #[T, T'] }, ty, pos, after, gd⟩ σ st i (.val (.int k (min a b))) st := fun F g ac w hw hi hs =>
  goes_value (u := .int k (min a b)) (by
    have : min a b = if b < a then b else a := by omega
    simp [execOp, resolve, invoke, builtin, Builtin.min_, Builtin.min2, AV.val_holds.1 (hx.holds hs (by simp [Op.operands, Call.operands])), AV.val_holds.1 (hy.holds hs (by simp [Op.operands, Call.operands])), this]) ⟨g, Ghost.to.refl g i, hw, AV.val_self _⟩
theorem y_max {T T' : TypeId} {x y : Operand} {k : IntKind} {a b : Int} (hx : Ev σ x (.val (.int k a))) (hy : Ev σ y (.val (.int k b))) : Yields P ⟨d, .call { callee := .builtin .max, args := #[x, y], argTypes := #[T, T'] }, ty, pos, after, gd⟩ σ st i (.val (.int k (max a b))) st := fun F g ac w hw hi hs =>
  goes_value (u := .int k (max a b)) (by
    have : max a b = if a < b then b else a := by omega
    simp [execOp, resolve, invoke, builtin, Builtin.max_, Builtin.max2, AV.val_holds.1 (hx.holds hs (by simp [Op.operands, Call.operands])), AV.val_holds.1 (hy.holds hs (by simp [Op.operands, Call.operands])), this]) ⟨g, Ghost.to.refl g i, hw, AV.val_self _⟩

/-- make([]T, 0, n): nothing but spare room of the function's own. -/
theorem y_makeOwn {T E sz by_ : Nat} {x y : Operand} {n : Nat} {q : Int} {k k' : IntKind} {zs : List Value} [ht : SliceT P T E sz by_] [hz : ZeroT P E zs] (hzl : zs.length = sz) (hx : Ev σ x (.val (.int k 0))) (hy : Ev σ y (.val (.int k' q))) (hq : q = (n : Int)) (hn : n ≤ 1073741824) :
    Yields P ⟨d, .makeSlice T x y, ty, pos, after, gd⟩ σ st i (.own sz i []) (.tail (some i) :: st) := fun F g a w hw hi hs => by
  subst hq
  obtain ⟨inf, z, hinf, hsz, hby, hzero, hzc⟩ := info_of (P := P) ht.hsize ht.hbytes (hz := hz)
  have hbb : (inf.bytes : Int) * (n : Int) ≤ 281474976710656 := by
    have h1 : inf.bytes * n ≤ 65536 * 1073741824 := Nat.mul_le_mul (by rw [hby]; exact ht.small) hn
    have h2 : ((inf.bytes * n : Nat) : Int) ≤ ((65536 * 1073741824 : Nat) : Int) := Int.ofNat_le.2 h1
    rw [Int.natCast_mul] at h2
    exact Int.le_trans h2 (by decide)
  have hr := run_make (P := P) w T E inf z ht.und hinf hzero k k' 0 n (Int.le_refl _) (by omega) hbb (by omega)
  simp only [Int.toNat_zero, Int.toNat_natCast] at hr
  have h1 := hw.allocTail hi (vs := madeCells z.cells (n * inf.size)) E 0 (Nat.zero_le _)
  refine goes_value (u := .slice (some ⟨w.heap.size, 0, none⟩) 0 n) ?_ ⟨_, (Ghost.to_commit (fun o _ _ => hw.noCom (Nat.le_refl _))).trans (Ghost.to_setLoc hi), h1, ?_⟩
  · simp only [execOp, AV.val_holds.1 (hx.holds hs (by simp [Op.operands])), AV.val_holds.1 (hy.holds hs (by simp [Op.operands]))]
    rw [Sem.run_bind, hr]; rfl
  · rw [AV.own_holds]
    exact ⟨w.heap.size, 0, _, 0, n, Ghost.setLoc_same, rfl, Nat.zero_le _, by simp, trivial, by simp, by simp [madeCells, hsz]⟩

theorem rep_zero (zs : List Value) (n : Nat) : ((Array.range (n * zs.length)).map (zs.toArray[· % zs.toArray.size]!)).toList = (List.replicate n zs).flatten := by
  apply List.ext_getElem
  · simp [List.length_flatten]
  · intro j h1 h2
    simp only [Array.toList_map, Array.toList_range, List.length_map, List.length_range] at h1
    have hpos : 0 < zs.length := by
      rcases Nat.eq_zero_or_pos zs.length with h | h
      · rw [h] at h1; simp at h1
      · exact h
    have hlt := Nat.mod_lt j hpos
    simp only [Array.getElem_toList, Array.getElem_map, Array.getElem_range, List.size_toArray]
    rw [getElem!_pos zs.toArray (j % zs.length) (by simpa using hlt)]
    have h3 := flatten_get (xs := List.replicate n zs) (sz := zs.length) (fun x hx => by rw [List.eq_of_mem_replicate hx]) (j / zs.length) zs (by
      rw [List.getElem?_replicate, if_pos (Nat.div_lt_of_lt_mul (by rw [Nat.mul_comm]; exact h1))])
    have h4 : ((List.replicate n zs).flatten)[j]? = zs[j % zs.length]? := by
      have h5 := congrArg (fun l => l[j % zs.length]?) h3
      simp only [List.getElem?_take, if_pos hlt, List.getElem?_drop] at h5
      rw [← h5]; congr 1
      rw [Nat.mul_comm]; exact (Nat.div_add_mod j zs.length).symm
    rw [List.getElem?_eq_getElem h2, List.getElem?_eq_getElem hlt] at h4
    simpa using (Option.some.inj h4).symm

/-- make([]T, n): n zero elements, in a row of the function's own. -/
theorem y_makeArr {T E sz by_ : Nat} {x y : Operand} {n : Nat} {q : Int} {k k' : IntKind} {zs : List Value} [ht : SliceT P T E sz by_] [hz : ZeroT P E zs] (hzl : zs.length = sz) (hx : Ev σ x (.val (.int k q))) (hy : Ev σ y (.val (.int k' q))) (hq : q = (n : Int)) (hn : n ≤ 1073741824) :
    Yields P ⟨d, .makeSlice T x y, ty, pos, after, gd⟩ σ st i (.arr i 0 n) (.cells i ((List.replicate n (zs.map AV.val)).flatten) :: st) := fun F g a w hw hi hs => by
  subst hq
  obtain ⟨inf, z, hinf, hsz, hby, hzero, hzc⟩ := info_of (P := P) ht.hsize ht.hbytes (hz := hz)
  have hbb : (inf.bytes : Int) * (n : Int) ≤ 281474976710656 := by
    have h1 : inf.bytes * n ≤ 65536 * 1073741824 := Nat.mul_le_mul (by rw [hby]; exact ht.small) hn
    have h2 : ((inf.bytes * n : Nat) : Int) ≤ ((65536 * 1073741824 : Nat) : Int) := Int.ofNat_le.2 h1
    rw [Int.natCast_mul] at h2
    exact Int.le_trans h2 (by decide)
  have hr := run_make (P := P) w T E inf z ht.und hinf hzero k k' n n (by omega) (Int.le_refl _) hbb (by omega)
  simp only [Int.toNat_natCast] at hr
  have hm : (madeCells z.cells (n * inf.size)).toList = (List.replicate n zs).flatten := by
    rw [hsz, ← hzl, hzc]; exact rep_zero zs n
  have hv : holdsL g ((List.replicate n (zs.map AV.val)).flatten) (madeCells z.cells (n * inf.size)).toList := by
    rw [hm]
    clear hr hbb hm hn hx hy
    induction n with
    | zero => exact trivial
    | succ n ih => simp only [List.replicate_succ, List.flatten_cons]; exact (holdsL_vals zs).append ih
  have h1 := hw.allocCells hi (cs := (List.replicate n (zs.map AV.val)).flatten) (vs := madeCells z.cells (n * inf.size)) E hv (fun u hu => by
    rw [hm] at hu
    obtain ⟨l, hl, hu⟩ := List.mem_flatten.1 hu
    rw [List.eq_of_mem_replicate hl] at hu
    have := hz.one; rw [List.all_eq_true] at this; exact this u hu)
  refine goes_value (u := .slice (some ⟨w.heap.size, 0, none⟩) n n) ?_ ⟨_, Ghost.to_setLoc hi, h1, ?_⟩
  · simp only [execOp, AV.val_holds.1 (hx.holds hs (by simp [Op.operands])), AV.val_holds.1 (hy.holds hs (by simp [Op.operands]))]
    rw [Sem.run_bind, hr]; rfl
  · exact AV.arr_holds.2 ⟨w.heap.size, 0, 0, n, Ghost.setLoc_same, rfl, Nat.le_refl _⟩

end
end Go.Aw

/- An abstract walk: the steps as they are used. -/
namespace Go.Aw
open Go.RowKit (Below)

theorem blt_lt {a b : Nat} (h : Nat.blt a b = true) : a < b := by rw [Nat.blt_eq] at h; exact h

section ops
variable {P : Program} {n : Nat} {ops : Array Oper} {rest : List Oper} {σ : Fr} {st : List Item} {K : Fr → List Item → Prop} {op : Op} {ty : TypeId} {pos : String} {after : Array Edge}

/-- An operation without a guard that writes slot d and leaves the items alone. -/
theorem st_p {d : Nat} {v : AV} (hy : ∀ i, Yields P ⟨some d, op, ty, pos, after, none⟩ σ st i v st) (hd : Nat.blt d n = true) (h : AOps P n ops rest ((d, v) :: σ) st K) : AOps P n ops (⟨some d, op, ty, pos, after, none⟩ :: rest) σ st K :=
  aops_put (blt_lt hd) (fun i => (hy i).plain rfl) h
/-- The same with a guard. -/
theorem st_g {d : Nat} {v : AV} {j : Nat} {pol : Bool} {oj : Oper} {t : Tmp} {gv : AV} {c : Prop} (hj : ops[j]? = some oj) (hdj : oj.dst = some t) (hl : look σ t = some gv) (hs : Says gv pol c)
    (hy : c → ∀ i, Yields P ⟨some d, op, ty, pos, after, some (j, pol)⟩ σ st i v st) (hd : Nat.blt d n = true) (h : AOps P n ops rest ((d, .opt c v) :: σ) st K) : AOps P n ops (⟨some d, op, ty, pos, after, some (j, pol)⟩ :: rest) σ st K :=
  aops_put (blt_lt hd) (fun i => Yields.guarded rfl hj hdj hl hs (fun hc => hy hc i)) h
/-- A store. -/
theorem st_s {v : AV} {st' : List Item} (hy : ∀ i, Yields P ⟨none, op, ty, pos, after, none⟩ σ st i v st') (h : AOps P n ops rest σ st' K) : AOps P n ops (⟨none, op, ty, pos, after, none⟩ :: rest) σ st K :=
  aops_none (fun i => (hy i).plain rfl) h
/-- Something new. -/
theorem st_n {d : Nat} {v : Nat → AV} {st' : Nat → List Item} (hy : ∀ i, Yields P ⟨some d, op, ty, pos, after, none⟩ σ st i (v i) (st' i)) (hd : Nat.blt d n = true) (h : ∀ i, AOps P n ops rest ((d, v i) :: σ) (st' i) K) : AOps P n ops (⟨some d, op, ty, pos, after, none⟩ :: rest) σ st K :=
  aops_new (blt_lt hd) (fun i => (hy i).plain rfl) h
/-- append: the new token under a name. -/
theorem st_append {d : Nat} {T E sz by_ : Nat} {x y : Operand} {t : Option Nat} {av : AV} {xs ys : List (List AV)} {zs : List Value} [ht : SliceT P T E sz by_] [hz : ZeroT P E zs] [hr : Rd av sz ys] (hzl : zs.length = sz)
    (hx : Ev σ x (.grow sz t xs)) (hy : Ev σ y av) (hb : xs.length + ys.length ≤ 1073741824) (hd : Nat.blt d n = true) (h : ∀ t', AOps P n ops rest ((d, .grow sz t' (xs ++ ys)) :: σ) (.tail t' :: st) K) :
    AOps P n ops (⟨some d, .call { callee := .builtin .append, args := #[x, y], argTypes := #[T, T] }, ty, pos, after, none⟩ :: rest) σ (.tail t :: st) K :=
  st_n (fun i => y_append hzl hx hy hb) hd fun i => h _

theorem aops_weak {σ' : Fr} {st' : List Item} (hw : Weak n σ st σ' st') (h : AOps P n ops rest σ' st' K) : AOps P n ops rest σ st K := fun F g a w hf hr => by
  obtain ⟨g', x, y, z⟩ := hw F g a w hf hr
  exact wpList_ext x (h F g' a w y z)
end ops

/-- A slot that is put another way. -/
theorem Weak.slot {n : Nat} {σ : Fr} {st : List Item} {t : Nat} {v v' : AV} (h : look σ t = some v) (hi : v.Imp v') : Weak n σ st ((t, v') :: σ) st := fun F g a w hf hw =>
  ⟨g, Ghost.ext.refl g, ⟨hf.size, hf.defers, fun k u e => by
    rw [look_cons] at e
    split at e
    · rename_i hk; subst hk; cases e
      obtain ⟨x, p, q⟩ := hf.slot _ _ h
      exact ⟨x, p, hi _ _ q⟩
    · exact hf.slot k u e⟩, hw⟩

/-- A token that stands for nothing. -/
theorem Weak.tail0 {n : Nat} {σ : Fr} {st : List Item} : Weak n σ st σ (.tail none :: st) := fun F g a w hf hw =>
  ⟨g, Ghost.ext.refl g, hf, RelW.cons hw trivial (fun b hb => by simp [Item.blk, Item.id?] at hb)⟩

/-- The items in another order. -/
theorem Weak.perm {n : Nat} {σ : Fr} {st st' : List Item} (h : st.Perm st') : Weak n σ st σ st' := fun F g a w hf hw => ⟨g, Ghost.ext.refl g, hf, hw.perm (h.append_right F)⟩
theorem Weak.sub {n : Nat} {σ : Fr} {st st' : List Item} (h : st'.Sublist st) : Weak n σ st σ st' := fun F g a w hf hw => ⟨g, Ghost.ext.refl g, hf, hw.sub (h.append_right F)⟩
theorem VShift.sub {v v' : AV} {st st' : List Item} (h : v.Imp v') (k : st'.Sublist st) : VShift v st v' st' := fun F g u w hw hv => ⟨g, Ghost.ext.refl g, hw.sub (k.append_right F), h _ _ hv⟩
theorem VShift.perm {v v' : AV} {st st' : List Item} (h : v.Imp v') (k : st.Perm st') : VShift v st v' st' := fun F g u w hw hv => ⟨g, Ghost.ext.refl g, hw.perm (k.append_right F), h _ _ hv⟩
theorem VShift.trans {v v' v'' : AV} {st st' st'' : List Item} (h : VShift v st v' st') (k : VShift v' st' v'' st'') : VShift v st v'' st'' := fun F g u w hw hv => by
  obtain ⟨g', x, y, z⟩ := h F g u w hw hv
  obtain ⟨g'', x', y', z'⟩ := k F g' u w y z
  exact ⟨g'', x.trans x', y', z'⟩
/-- Parts of a result, one by one. -/
inductive ImpL : List AV → List AV → Prop
  | nil : ImpL [] []
  | cons {v v' vs vs'} (h : v.Imp v') (r : ImpL vs vs') : ImpL (v :: vs) (v' :: vs')
theorem ImpL.holdsL {g : Ghost} {vs vs' : List AV} (h : ImpL vs vs') : ∀ {us : List Value}, Aw.holdsL g vs us → Aw.holdsL g vs' us := by
  induction h with
  | nil => exact fun h => h
  | cons h _ ih => intro us hu; cases us with
    | nil => exact hu.elim
    | cons u us => exact ⟨h _ _ hu.1, ih hu.2⟩
theorem AV.Imp.tup {vs vs' : List AV} (h : ImpL vs vs') : (AV.tup vs).Imp (.tup vs') := fun g u hu => by
  obtain ⟨us, e, hh⟩ := AV.tup_holds.1 hu; exact AV.tup_holds.2 ⟨us, e, h.holdsL hh⟩
theorem AV.Imp.agg {vs vs' : List AV} (h : ImpL vs vs') : (AV.agg vs).Imp (.agg vs') := fun g u hu => by
  obtain ⟨us, e, hh, h1⟩ := AV.agg_holds.1 hu; exact AV.agg_holds.2 ⟨us, e, h.holdsL hh, h1⟩

theorem AV.Imp.grow_sl {sz : Nat} {t : Option Nat} {xs : List (List AV)} : (AV.grow sz t xs).Imp (.sl sz xs) := (inferInstance : Rd (.grow sz t xs) sz xs).imp
theorem AV.Imp.full_sl {sz : Nat} {xs : List (List AV)} : (AV.full sz xs).Imp (.sl sz xs) := (inferInstance : Rd (.full sz xs) sz xs).imp
theorem AV.Imp.own_sl {sz i : Nat} {xs : List (List AV)} : (AV.own sz i xs).Imp (.sl sz xs) := (inferInstance : Rd (.own sz i xs) sz xs).imp
theorem AV.Imp.nil_sl {sz : Nat} : (AV.val (.slice none 0 0)).Imp (.sl sz []) := (inferInstance : Rd (.val (.slice none 0 0)) sz []).imp
theorem AV.Imp.full_grow {sz : Nat} {xs : List (List AV)} : (AV.full sz xs).Imp (.grow sz none xs) := AV.Imp.refl _
theorem AV.Imp.own_grow {sz i : Nat} {xs : List (List AV)} : (AV.own sz i xs).Imp (.grow sz (some i) xs) := AV.Imp.refl _

theorem AV.Imp.nil_full {sz : Nat} : (AV.val (.slice none 0 0)).Imp (.full sz []) := AV.nil_full
theorem AV.Imp.nil_grow {sz : Nat} : (AV.val (.slice none 0 0)).Imp (.grow sz none []) := AV.nil_full

theorem AV.bool_congr {a b : Bool} (h : a = true ↔ b = true) : AV.bool a = AV.bool b := by rw [Bool.eq_iff_iff.2 h]

section code
variable {P : Program} {n : Nat} {σ : Fr} {st : List Item} {Q : Exit → Fr → List Item → Prop}
/-- The return of a function, in general. -/
theorem retG {rs : List ResultVar} {vs : List AV} {v : AV} {st' : List Item} {Q' : AV → List Item → Prop} {e : Exit} (he : e = .normal ∨ e = .ret) (h : ResAll P σ st rs vs) (hv : VShift (shutRes vs) st v st') (hq : Q' v st') : RetA P rs Q' e σ st :=
  ⟨he, vs, h, v, st', hv, hq⟩
/-- The return of a function with one result in a slot. -/
theorem ret1 {t : Nat} {v : AV} {Q' : AV → List Item → Prop} {e : Exit} (he : e = .normal ∨ e = .ret) (h : look σ t = some v) (hq : Q' v []) : RetA P [.tmp t] Q' e σ st :=
  ⟨he, [v], .cons (.tmp h) .nil, v, [], .drop, hq⟩
theorem ret2 {t t' : Nat} {v v' : AV} {Q' : AV → List Item → Prop} {e : Exit} (he : e = .normal ∨ e = .ret) (h : look σ t = some v) (h' : look σ t' = some v') (hq : Q' (.tup [v, v']) []) : RetA P [.tmp t, .tmp t'] Q' e σ st :=
  ⟨he, [v, v'], .cons (.tmp h) (.cons (.tmp h') .nil), _, [], .drop, hq⟩
theorem ret3 {t t' t'' : Nat} {v v' v'' : AV} {Q' : AV → List Item → Prop} {e : Exit} (he : e = .normal ∨ e = .ret) (h : look σ t = some v) (h' : look σ t' = some v') (h'' : look σ t'' = some v'') (hq : Q' (.tup [v, v', v'']) []) : RetA P [.tmp t, .tmp t', .tmp t''] Q' e σ st :=
  ⟨he, [v, v', v''], .cons (.tmp h) (.cons (.tmp h') (.cons (.tmp h'') .nil)), _, [], .drop, hq⟩
end code
end Go.Aw

/- An abstract walk: a region whose order is open. -/
namespace Go.Aw
open Go.RowKit (Below)

inductive Kd where
  | free | read | write | new
  deriving DecidableEq

def putF (σ : Fr) (d : Option Tmp) (v : AV) : Fr := match d with | some d => (d, v) :: σ | none => σ
def dstOk (n : Nat) (o : Oper) : Prop := ∀ d, o.dst = some d → d < n

/-- A: items that the region only reads. -/
def Drv (P : Program) (n : Nat) (ops : Array Oper) (K : Nat) (A : List Item) (Q : Fr → List Item → Prop) : Nat → List Oper → List Kd → Fr → List Item → Prop
  | _, [], [], σ, st => Q σ st
  | i, o :: rest, .free :: ks, σ, st => ∃ v, dstOk n o ∧ YieldsG P ops o σ A (K + i) v A ∧ Drv P n ops K A Q (i + 1) rest ks (putF σ o.dst v) st
  | i, o :: rest, .read :: ks, σ, st => ∃ v, dstOk n o ∧ YieldsG P ops o σ st (K + i) v st ∧ Drv P n ops K A Q (i + 1) rest ks (putF σ o.dst v) st
  | i, o :: rest, .write :: ks, σ, st => ∃ v st', dstOk n o ∧ YieldsG P ops o σ st (K + i) v st' ∧ Drv P n ops K A Q (i + 1) rest ks (putF σ o.dst v) st'
  | i, o :: rest, .new :: ks, σ, st => ∃ v its, dstOk n o ∧ (∀ st0, YieldsG P ops o σ st0 (K + i) v (its ++ st0)) ∧ Drv P n ops K A Q (i + 1) rest ks (putF σ o.dst v) (its ++ st)
  | _, _, _, _, _ => False

/-- Which operations surely come before which. -/
def bms : List Oper → List Nat → List Nat
  | [], acc => acc
  | o :: r, acc => bms r (acc ++ [o.after.toList.foldl (fun s e => if Region.binds .any e then s ||| 2 ^ e.on ||| acc.getD e.on 0 else s) 0])

def clash (ops : Array Oper) (x y : Oper) (kx ky : Kd) : Bool :=
  (match x.dst with | some d => (y.looksAt ops).contains d || y.dst == some d | none => false) || (match y.dst with | some d => (x.looksAt ops).contains d | none => false) ||
  (match kx, ky with | .write, .free => false | .write, _ => true | .free, .write => false | _, .write => true | .new, .read => true | .read, .new => true | _, _ => false)

def orderOk (ops : Array Oper) (ks : List Kd) : Bool :=
  let l := ops.toList
  let bm := bms l []
  let m := l.zip ks
  (l.zipIdx.all fun x => x.1.after.toList.all fun e => !Region.binds .any e || Nat.blt e.on x.2) &&
  (m.zipIdx.all fun y => m.zipIdx.all fun x => !Nat.blt x.2 y.2 || !clash ops x.1.1 y.1.1 x.1.2 y.1.2 || (bm.getD y.2 0).testBit x.2)

def Closed (l : List Oper) (S : Nat → Prop) : Prop := ∀ j o, l[j]? = some o → S j → ∀ e ∈ o.after.toList, Region.binds .any e = true → S e.on
def Dep (l : List Oper) (i j : Nat) : Prop := ∀ S, Closed l S → S j → S i

theorem fold_bit (acc : List Nat) (i : Nat) : ∀ (es : List Edge) (s : Nat), (es.foldl (fun s e => if Region.binds .any e then s ||| 2 ^ e.on ||| acc.getD e.on 0 else s) s).testBit i = true →
    s.testBit i = true ∨ ∃ e ∈ es, Region.binds .any e = true ∧ (e.on = i ∨ (acc.getD e.on 0).testBit i = true)
  | [], s, h => .inl h
  | e :: es, s, h => by
    rw [List.foldl_cons] at h
    rcases fold_bit acc i es _ h with h | ⟨e', h1, h2⟩
    · split at h
      · rename_i hb
        rw [Nat.testBit_or, Nat.testBit_or, Nat.testBit_two_pow] at h
        simp only [Bool.or_eq_true, decide_eq_true_eq] at h
        rcases h with (h | h) | h
        · exact .inl h
        · exact .inr ⟨e, by simp, hb, .inl h⟩
        · exact .inr ⟨e, by simp, hb, .inr h⟩
      · exact .inl h
    · exact .inr ⟨e', by simp [h1], h2⟩

theorem bms_dep (l : List Oper) : ∀ (r pre : List Oper) (acc : List Nat), l = pre ++ r → acc.length = pre.length → (∀ j i, (acc.getD j 0).testBit i = true → Dep l i j) → ∀ j i, ((bms r acc).getD j 0).testBit i = true → Dep l i j
  | [], pre, acc, _, _, h, j, i, hb => h j i hb
  | o :: r, pre, acc, hl, hlen, h, j, i, hb => by
    refine bms_dep l r (pre ++ [o]) _ (by simp [hl]) (by simp [hlen]) ?_ j i hb
    intro j i hji
    by_cases hj : j < acc.length
    · rw [List.getD_eq_getElem?_getD, List.getElem?_append_left hj, ← List.getD_eq_getElem?_getD] at hji
      exact h j i hji
    · by_cases hj2 : j = acc.length
      · subst hj2
        rw [List.getD_eq_getElem?_getD, List.getElem?_append_right (Nat.le_refl _)] at hji
        simp only [Nat.sub_self, List.getElem?_cons_zero, Option.getD_some] at hji
        rcases fold_bit acc i _ 0 hji with h0 | ⟨e, h1, h2, h3⟩
        · simp at h0
        · intro S hS hj
          have he := hS acc.length o (by rw [hl, hlen]; simp) hj e h1 h2
          rcases h3 with rfl | h3
          · exact he
          · exact h e.on i h3 S hS he
      · rw [List.getD_eq_getElem?_getD, List.getElem?_eq_none (by simp; omega)] at hji
        simp at hji

section any
variable {P : Program} {n : Nat} {ops : Array Oper} {K : Nat} {A : List Item}

def frOf (l : List Oper) (vals : Nat → AV) (σ0 : Fr) : Nat → Fr
  | 0 => σ0
  | i + 1 => putF (frOf l vals σ0 i) ((l[i]?).bind (·.dst)) (vals i)

/-- What the derivation holds of each operation. -/
def StepOk (P : Program) (n : Nat) (ops : Array Oper) (K : Nat) (A : List Item) (l : List Oper) (ks : List Kd) (vals : Nat → AV) (sts : Nat → List Item) (σ0 : Fr) (i : Nat) : Prop :=
  ∀ o k, l[i]? = some o → ks[i]? = some k → dstOk n o ∧ match k with
    | .free => YieldsG P ops o (frOf l vals σ0 i) A (K + i) (vals i) A ∧ sts (i + 1) = sts i
    | .read => YieldsG P ops o (frOf l vals σ0 i) (sts i) (K + i) (vals i) (sts i) ∧ sts (i + 1) = sts i
    | .write => YieldsG P ops o (frOf l vals σ0 i) (sts i) (K + i) (vals i) (sts (i + 1))
    | .new => ∃ its, sts (i + 1) = its ++ sts i ∧ ∀ st0, YieldsG P ops o (frOf l vals σ0 i) st0 (K + i) (vals i) (its ++ st0)

theorem Drv.steps {Q : Fr → List Item → Prop} : ∀ (rest pre : List Oper) (kr kp : List Kd) (vals : Nat → AV) (sts : Nat → List Item) (σ0 : Fr) (l : List Oper) (ks : List Kd), l = pre ++ rest → ks = kp ++ kr → kp.length = pre.length →
    (∀ i, i < pre.length → StepOk P n ops K A l ks vals sts σ0 i) → Drv P n ops K A Q pre.length rest kr (frOf l vals σ0 pre.length) (sts pre.length) →
    ∃ vals' sts', sts' 0 = sts 0 ∧ ks.length = l.length ∧ (∀ i, i < l.length → StepOk P n ops K A l ks vals' sts' σ0 i) ∧ Q (frOf l vals' σ0 l.length) (sts' l.length) := by
  intro rest
  induction rest with
  | nil =>
    intro pre kr kp vals sts σ0 l ks hl hk hkl hs hd
    cases kr with
    | nil =>
      simp only [List.append_nil] at hl hk
      subst hl hk
      exact ⟨vals, sts, rfl, hkl, hs, hd⟩
    | cons k kr => exact hd.elim
  | cons o rest ih =>
    intro pre kr kp vals sts σ0 l ks hl hk hkl hs hd
    cases kr with
    | nil => exact hd.elim
    | cons k kr =>
      have hget : l[pre.length]? = some o := by rw [hl]; simp
      have hkget : ks[pre.length]? = some k := by rw [hk, ← hkl]; simp
      -- turn the value at 'pre.length', the state behind it
      have key : ∀ (v : AV) (st' : List Item), (dstOk n o ∧ match k with
          | .free => YieldsG P ops o (frOf l vals σ0 pre.length) A (K + pre.length) v A ∧ st' = sts pre.length
          | .read => YieldsG P ops o (frOf l vals σ0 pre.length) (sts pre.length) (K + pre.length) v (sts pre.length) ∧ st' = sts pre.length
          | .write => YieldsG P ops o (frOf l vals σ0 pre.length) (sts pre.length) (K + pre.length) v st'
          | .new => ∃ its, st' = its ++ sts pre.length ∧ ∀ st0, YieldsG P ops o (frOf l vals σ0 pre.length) st0 (K + pre.length) v (its ++ st0)) →
          Drv P n ops K A Q (pre.length + 1) rest kr (putF (frOf l vals σ0 pre.length) o.dst v) st' →
          ∃ vals' sts', sts' 0 = sts 0 ∧ ks.length = l.length ∧ (∀ i, i < l.length → StepOk P n ops K A l ks vals' sts' σ0 i) ∧ Q (frOf l vals' σ0 l.length) (sts' l.length) := by
        intro v st' hstep hd'
        let vals2 : Nat → AV := fun i => if i = pre.length then v else vals i
        let sts2 : Nat → List Item := fun i => if i = pre.length + 1 then st' else sts i
        have hfr : ∀ i, i ≤ pre.length → frOf l vals2 σ0 i = frOf l vals σ0 i := by
          intro i
          induction i with
          | zero => intro _; rfl
          | succ i ih2 =>
            intro hi
            simp only [frOf, ih2 (by omega)]
            have : vals2 i = vals i := if_neg (by omega)
            rw [this]
        have hst : ∀ i, i ≤ pre.length → sts2 i = sts i := fun i hi => if_neg (by omega)
        have hv : vals2 pre.length = v := if_pos rfl
        have hs2 : sts2 (pre.length + 1) = st' := if_pos rfl
        have h0 : sts2 0 = sts 0 := if_neg (by omega)
        rw [← h0]
        refine ih (pre ++ [o]) kr (kp ++ [k]) vals2 sts2 σ0 l ks (by simp [hl]) (by simp [hk]) (by simp [hkl]) ?_ ?_
        · intro i hi
          simp only [List.length_append, List.length_cons, List.length_nil] at hi
          by_cases hip : i < pre.length
          · have := hs i hip
            intro o' k' ho hk'
            have h1 := this o' k' ho hk'
            have e1 : vals2 i = vals i := if_neg (by omega)
            rw [hfr i (by omega), e1, hst i (by omega), hst (i + 1) (by omega)]
            exact h1
          · obtain rfl : i = pre.length := by omega
            intro o' k' ho hk'
            rw [hget] at ho; cases ho
            rw [hkget] at hk'; cases hk'
            rw [hfr _ (Nat.le_refl _), hv, hs2, hst _ (Nat.le_refl _)]
            refine ⟨hstep.1, ?_⟩
            have := hstep.2
            cases k <;> exact this
        · simp only [List.length_append, List.length_cons, List.length_nil]
          have e2 : frOf l vals2 σ0 (pre.length + 1) = putF (frOf l vals σ0 pre.length) o.dst v := by
            simp only [frOf, hfr _ (Nat.le_refl _), hv, hget, Option.bind_some]
          show Drv P n ops K A Q (pre.length + 1) rest kr (frOf l vals2 σ0 (pre.length + 1)) (sts2 (pre.length + 1))
          rw [e2, hs2]
          exact hd'
      cases k with
      | free => obtain ⟨v, h1, h2, h3⟩ := hd; exact key v (sts pre.length) ⟨h1, h2, rfl⟩ h3
      | read => obtain ⟨v, h1, h2, h3⟩ := hd; exact key v (sts pre.length) ⟨h1, h2, rfl⟩ h3
      | write => obtain ⟨v, st', h1, h2, h3⟩ := hd; exact key v st' ⟨h1, h2⟩ h3
      | new => obtain ⟨v, its, h1, h2, h3⟩ := hd; exact key v (its ++ sts pre.length) ⟨h1, its, rfl, h2⟩ h3

/-- The frame behind those operations that L lists. -/
def frS (l : List Oper) (vals : Nat → AV) (σ0 : Fr) (L : Nat → Bool) : Nat → Fr
  | 0 => σ0
  | i + 1 => if L i then putF (frS l vals σ0 L i) ((l[i]?).bind (·.dst)) (vals i) else frS l vals σ0 L i
def newI (sts : Nat → List Item) (i : Nat) : List Item := (sts (i + 1)).take ((sts (i + 1)).length - (sts i).length)
theorem newI_eq {sts : Nat → List Item} {i : Nat} {its : List Item} (h : sts (i + 1) = its ++ sts i) : newI sts i = its := by
  unfold newI; rw [h, List.length_append, Nat.add_sub_cancel, List.take_left]
def stS (ks : List Kd) (sts : Nat → List Item) (L : Nat → Bool) : Nat → List Item
  | 0 => sts 0
  | i + 1 => if L i = true ∧ ks[i]? = some .write then sts (i + 1) else if L i = true ∧ ks[i]? = some .new then newI sts i ++ stS ks sts L i else stS ks sts L i

theorem look_putF (σ : Fr) (d : Option Tmp) (v : AV) (t : Nat) : look (putF σ d v) t = if d = some t then some v else look σ t := by
  cases d with
  | none => simp [putF]
  | some d => simp only [putF, look_cons, Option.some.injEq]

/-- What slot t holds, if of the operations that write it L lists just those ahead of j. -/
theorem look_frS {l : List Oper} {vals : Nat → AV} {σ0 : Fr} {L : Nat → Bool} {t j : Nat} : ∀ (m : Nat), (∀ i, i < m → (l[i]?).bind (·.dst) = some t → (L i = true ↔ i < j)) → look (frS l vals σ0 L m) t = look (frOf l vals σ0 (min m j)) t
  | 0, _ => by simp [frS, frOf]
  | m + 1, h => by
    have ih := look_frS (l := l) (vals := vals) (σ0 := σ0) (L := L) (t := t) (j := j) m (fun i hi => h i (by omega))
    simp only [frS]
    by_cases hd : (l[m]?).bind (·.dst) = some t
    · have hm := h m (by omega) hd
      by_cases hj : m < j
      · rw [if_pos (hm.2 hj), look_putF, if_pos hd, show min (m + 1) j = m + 1 by omega, frOf, look_putF, if_pos hd]
      · rw [if_neg (fun e => hj (hm.1 e)), ih, show min (m + 1) j = j by omega, show min m j = j by omega]
    · have hfr : look (frOf l vals σ0 (min (m + 1) j)) t = look (frOf l vals σ0 (min m j)) t := by
        by_cases hj : m < j
        · rw [show min (m + 1) j = m + 1 by omega, show min m j = m by omega, frOf, look_putF, if_neg hd]
        · rw [show min (m + 1) j = j by omega, show min m j = j by omega]
      rw [hfr, ← ih]
      split
      · rw [look_putF, if_neg hd]
      · rfl

theorem stS_eq {ks : List Kd} {sts : Nat → List Item} {L : Nat → Bool} {j : Nat} : ∀ (m : Nat), (∀ i, i < m → ks[i]? ≠ some .write → ks[i]? ≠ some .new → sts (i + 1) = sts i) → (∀ i, i < m → ks[i]? = some .new → sts (i + 1) = newI sts i ++ sts i) → (∀ i, i < m → ks[i]? = some .write ∨ ks[i]? = some .new → (L i = true ↔ i < j)) → stS ks sts L m = sts (min m j)
  | 0, _, _, _ => by simp [stS]
  | m + 1, hc, hn, h => by
    have ih := stS_eq (ks := ks) (sts := sts) (L := L) (j := j) m (fun i hi => hc i (by omega)) (fun i hi => hn i (by omega)) (fun i hi => h i (by omega))
    simp only [stS]
    by_cases hk : ks[m]? = some .write
    · have hm := h m (by omega) (.inl hk)
      by_cases hj : m < j
      · rw [if_pos ⟨hm.2 hj, hk⟩, show min (m + 1) j = m + 1 by omega]
      · rw [if_neg (fun e => hj (hm.1 e.1)), if_neg (fun e => hj (hm.1 e.1)), ih, show min (m + 1) j = j by omega, show min m j = j by omega]
    · rw [if_neg (fun e => hk e.2)]
      by_cases hk2 : ks[m]? = some .new
      · have hm := h m (by omega) (.inr hk2)
        by_cases hj : m < j
        · rw [if_pos ⟨hm.2 hj, hk2⟩, ih, show min (m + 1) j = m + 1 by omega, show min m j = m by omega, hn m (by omega) hk2]
        · rw [if_neg (fun e => hj (hm.1 e.1)), ih, show min (m + 1) j = j by omega, show min m j = j by omega]
      · rw [if_neg (fun e => hk2 e.2), ih]
        by_cases hj : m < j
        · rw [show min (m + 1) j = m + 1 by omega, show min m j = m by omega, hc m (by omega) hk hk2]
        · rw [show min (m + 1) j = j by omega, show min m j = j by omega]
/-- Where something new comes, and no write that is listed comes behind it. -/
theorem stS_new {ks : List Kd} {sts : Nat → List Item} {L L' : Nat → Bool} {j : Nat} (hj : ks[j]? = some .new) (hL : L j = false) (hL' : L' j = true) (hsame : ∀ i, i ≠ j → L' i = L i) (hno : ∀ i, j < i → ks[i]? = some .write → L i = false) : ∀ m, (stS ks sts L' m).Perm (if j < m then newI sts j ++ stS ks sts L m else stS ks sts L m)
  | 0 => by simp [stS]
  | m + 1 => by
    have ih := stS_new (sts := sts) hj hL hL' hsame hno m
    by_cases hm : m = j
    · subst hm
      rw [if_neg (Nat.lt_irrefl _)] at ih
      rw [if_pos (Nat.lt_succ_self _)]
      have e1 : stS ks sts L' (m + 1) = newI sts m ++ stS ks sts L' m := by
        simp only [stS]
        rw [if_neg (fun e => by rw [hj] at e; simp at e), if_pos ⟨hL', hj⟩]
      have e2 : stS ks sts L (m + 1) = stS ks sts L m := by
        simp only [stS]
        rw [if_neg (fun e => by rw [hL] at e; simp at e), if_neg (fun e => by rw [hL] at e; simp at e)]
      rw [e1, e2]
      exact List.Perm.append_left _ ih
    · have e := hsame m hm
      by_cases hlt : j < m
      · rw [if_pos hlt] at ih
        rw [if_pos (by omega)]
        simp only [stS, e]
        by_cases h1 : L m = true ∧ ks[m]? = some .write
        · have := hno m hlt h1.2
          rw [h1.1] at this; cases this
        · rw [if_neg h1, if_neg h1]
          split
          · refine (List.Perm.append_left _ ih).trans ?_
            rw [← List.append_assoc, ← List.append_assoc]
            exact List.Perm.append_right _ List.perm_append_comm
          · exact ih
      · rw [if_neg hlt] at ih
        rw [if_neg (by omega)]
        simp only [stS, e]
        split
        · exact List.Perm.refl _
        · split
          · exact List.Perm.append_left _ ih
          · exact ih

end any
end Go.Aw

/- An abstract walk: a region whose order is open (2). -/
namespace Go.Aw
open Go.RowKit (Below)

section any
variable {P : Program} {n : Nat} {ops : Array Oper} {K : Nat} {A : List Item}

theorem orderOk_spec {ks : List Kd} (h : orderOk ops ks = true) (hl : ks.length = ops.toList.length) :
    (∀ j o, ops.toList[j]? = some o → ∀ e ∈ o.after.toList, Region.binds .any e = true → e.on < j) ∧
    (∀ i j x y kx ky, i < j → ops.toList[i]? = some x → ops.toList[j]? = some y → ks[i]? = some kx → ks[j]? = some ky → clash ops x y kx ky = true → Dep ops.toList i j) := by
  simp only [orderOk, Bool.and_eq_true, List.all_eq_true] at h
  obtain ⟨h1, h2⟩ := h
  refine ⟨fun j o ho e he hb => ?_, fun i j x y kx ky hij hx hy hkx hky hc => ?_⟩
  · have := h1 (o, j) (List.mem_zipIdx_iff_getElem?.2 ho) e he
    simp only [hb, Bool.not_true, Bool.false_or] at this
    exact blt_lt this
  · have hx' : (ops.toList.zip ks)[i]? = some (x, kx) := by rw [List.getElem?_zip_eq_some]; exact ⟨hx, hkx⟩
    have hy' : (ops.toList.zip ks)[j]? = some (y, ky) := by rw [List.getElem?_zip_eq_some]; exact ⟨hy, hky⟩
    have := h2 ((y, ky), j) (List.mem_zipIdx_iff_getElem?.2 hy') ((x, kx), i) (List.mem_zipIdx_iff_getElem?.2 hx')
    simp only at this
    have hb : Nat.blt i j = true := by rw [Nat.blt_eq]; exact hij
    rw [hb, hc] at this
    simp only [Bool.not_true, Bool.false_or] at this
    exact bms_dep ops.toList ops.toList [] [] rfl rfl (fun j i hb => by simp at hb) j i this

/-- The state of a run in which the operations of L have come. -/
structure InvL (n : Nat) (ops : Array Oper) (K : Nat) (ks : List Kd) (vals : Nat → AV) (sts : Nat → List Item) (σ0 : Fr) (F : List Item) (g0 : Ghost) (L : Array Bool) (g : Ghost) (a : Act) (w : World) : Prop where
  size : L.size = ops.size
  closed : Closed ops.toList (fun i => L.getD i false = true)
  slots : RelF n g (frS ops.toList vals σ0 (fun i => L.getD i false) ops.size) a
  world : RelW g (stS ks sts (fun i => L.getD i false) ops.size ++ F) w
  ext : g0.ext g
  ids : ∀ i, i < ops.size → L.getD i false = false → g.loc (K + i) = none
  next : K + ops.size ≤ g.next
  old : g0.next ≤ K

theorem getD_set {L : Array Bool} {i j : Nat} (hi : i < L.size) : (L.setIfInBounds i true).getD j false = if j = i then true else L.getD j false := by
  simp only [Array.getD_eq_getD_getElem?, Array.getElem?_setIfInBounds]
  by_cases h : i = j
  · subst h; simp [hi]
  · have : ¬ j = i := fun e => h e.symm
    simp [h, this]

theorem inv_step {ks : List Kd} {vals : Nat → AV} {sts : Nat → List Item} {σ0 : Fr} {F : List Item} {g0 g : Ghost} {L : Array Bool} {a : Act} {w : World} (hks : ks.length = ops.toList.length) (hok : orderOk ops ks = true)
    (hs : ∀ i, i < ops.toList.length → StepOk P n ops K A ops.toList ks vals sts σ0 i) (h : InvL n ops K ks vals sts σ0 (A ++ F) g0 L g a w) {j : Nat} (hj : j ∈ Region.ready .any ops L)
    {Q : Exit → Act → World → Prop} {R : Act → World → Prop} (hR : ∀ g' a' w', InvL n ops K ks vals sts σ0 (A ++ F) g0 (L.setIfInBounds j true) g' a' w' → R a' w') : wpOp P ops Q j R a w := by
  obtain ⟨hedge, hdep⟩ := orderOk_spec hok hks
  unfold Region.ready at hj
  rw [List.mem_filter, List.mem_range] at hj
  obtain ⟨hjn, hj2⟩ := hj
  simp only [Bool.and_eq_true, Bool.not_eq_true'] at hj2
  obtain ⟨hjL, hjafter⟩ := hj2
  have hjL' : L.getD j false = false := by
    have : j < L.size := by rw [h.size]; exact hjn
    simp only [Array.getD_eq_getD_getElem?] at hjL ⊢
    rw [Array.getElem?_eq_getElem this] at hjL ⊢
    exact hjL
  have ho : ops[j]? = some ops[j] := Array.getElem?_eq_getElem hjn
  have hoL : ops.toList[j]? = some ops[j] := by simp [ho]
  have hjl : j < ops.toList.length := by simpa using hjn
  have hkj : ks[j]? = some ks[j] := List.getElem?_eq_getElem (by omega)
  generalize hoj : ops[j] = o at *
  generalize hkjj : ks[j] = k at *
  -- what comes before j is listed
  have hafter : ∀ e ∈ o.after.toList, Region.binds .any e = true → L.getD e.on false = true := by
    intro e he hb
    simp only [ho, Option.map_some, Option.getD_some] at hjafter
    rw [Array.all_eq_true_iff_forall_mem] at hjafter
    have := hjafter e (by simpa using he)
    simpa [hb] using this
  have hclosed' : Closed ops.toList (fun i => (L.setIfInBounds j true).getD i false = true) := by
    intro j' o' ho' hS e he hb
    have hsz : j < L.size := by rw [h.size]; exact hjn
    simp only [getD_set hsz] at hS ⊢
    by_cases hjj : j' = j
    · subst hjj
      rw [hoL] at ho'; cases ho'
      have := hafter e he hb
      split
      · rfl
      · exact this
    · rw [if_neg hjj] at hS
      have := h.closed j' o' ho' hS e he hb
      split
      · rfl
      · exact this
  have hsz : j < L.size := by rw [h.size]; exact hjn
  have before_in : ∀ i, Dep ops.toList i j → i ≠ j → L.getD i false = true := by
    intro i hd hne
    have := hd _ hclosed' (by rw [getD_set hsz]; simp)
    rw [getD_set hsz, if_neg hne] at this
    exact this
  have after_out : ∀ i, Dep ops.toList j i → L.getD i false = false := by
    intro i hd
    cases hc : L.getD i false with
    | false => rfl
    | true =>
      have := hd _ h.closed hc
      rw [hjL'] at this; cases this
  have order : ∀ i x kx, ops.toList[i]? = some x → ks[i]? = some kx → i ≠ j → (i < j → clash ops x o kx k = true) → (j < i → clash ops o x k kx = true) → (L.getD i false = true ↔ i < j) := by
    intro i x kx hx hkx hne h1 h2
    rcases Nat.lt_or_gt_of_ne hne with hlt | hgt
    · exact ⟨fun _ => hlt, fun _ => before_in i (hdep i j x o kx k hlt hx hoL hkx hkj (h1 hlt)) hne⟩
    · refine ⟨fun hc => ?_, fun hc => by omega⟩
      rw [after_out i (hdep j i o x k kx hgt hoL hx hkj hkx (h2 hgt))] at hc; cases hc
  have hget : ∀ i, i < ops.size → ∃ x kx, ops.toList[i]? = some x ∧ ks[i]? = some kx := fun i hi => ⟨ops[i], ks[i]'(by simp at hks; omega), by simp [hi], List.getElem?_eq_getElem _⟩
  -- the slots that o looks at
  have hslots : Slots g (frOf ops.toList vals σ0 j) a (o.looksAt ops) := by
    intro t ht v hv
    refine h.slots.slot t v ?_
    rw [look_frS (j := j) ops.size, show min ops.size j = j by omega]
    · exact hv
    · intro i hi hd
      obtain ⟨x, kx, hx, hkx⟩ := hget i hi
      have hdx : x.dst = some t := by simpa [hx] using hd
      by_cases hij : i = j
      · subst hij; simp [hjL']
      · refine order i x kx hx hkx hij (fun _ => ?_) (fun _ => ?_)
        · simp [clash, hdx, ht]
        · simp [clash, hdx, ht]
  have hsts_const : ∀ i, i < ops.size → ks[i]? ≠ some .write → ks[i]? ≠ some .new → sts (i + 1) = sts i := by
    intro i hi hne hne2
    obtain ⟨x, kx, hx, hkx⟩ := hget i hi
    have := (hs i (by simpa using hi) x kx hx hkx).2
    cases kx with
    | free => exact this.2
    | read => exact this.2
    | write => exact absurd hkx hne
    | new => exact absurd hkx hne2
  have hsts_new : ∀ i, i < ops.size → ks[i]? = some .new → sts (i + 1) = newI sts i ++ sts i := by
    intro i hi hne
    obtain ⟨x, kx, hx, hkx⟩ := hget i hi
    rw [hkx] at hne; cases hne
    obtain ⟨its, h1, _⟩ := (hs i (by simpa using hi) x .new hx hkx).2
    rw [newI_eq h1]; exact h1
  have hst : k ≠ .free → k ≠ .new → stS ks sts (fun i => L.getD i false) ops.size = sts j := by
    intro hk hk2
    rw [stS_eq (j := j) ops.size hsts_const hsts_new, show min ops.size j = j by omega]
    intro i hi hw'
    obtain ⟨x, kx, hx, hkx⟩ := hget i hi
    by_cases hij : i = j
    · subst hij; simp [hjL']
    · rcases hw' with hw' | hw' <;> rw [hkx] at hw' <;> cases hw' <;> refine order i x _ hx hkx hij (fun _ => ?_) (fun _ => ?_) <;> cases k <;> first | exact absurd rfl hk | exact absurd rfl hk2 | simp [clash]
  have hstep := hs j hjl o k hoL hkj
  have hidj : g.loc (K + j) = none := h.ids j hjn hjL'
  -- the state behind it
  have finish : ∀ (g' : Ghost) (u : Value) (w' : World), g.to (K + j) g' → (vals j).holds g' u → RelW g' (stS ks sts (fun i => (L.setIfInBounds j true).getD i false) ops.size ++ (A ++ F)) w' → R (a.put o.dst u) w' := by
    intro g' u w' hto hv hw'
    refine hR g' _ w' ⟨by simp [h.size], hclosed', ?_, hw', ⟨h.ext.le.trans hto.le, fun i hi => (hto.keep i (Nat.lt_of_lt_of_le hi h.ext.le.next) (by have := h.old; omega)).trans (h.ext.keep i hi)⟩, ?_, Nat.le_trans h.next hto.le.next, h.old⟩
    · refine ⟨?_, by cases o.dst <;> exact h.slots.defers, ?_⟩
      · have := h.slots.size
        cases hd : o.dst <;> simp [Act.put, this]
      · intro t v hlook
        by_cases hdt : o.dst = some t
        · -- slot t is o's own
          have : look (frS ops.toList vals σ0 (fun i => (L.setIfInBounds j true).getD i false) ops.size) t = some (vals j) := by
            rw [look_frS (j := j + 1) ops.size, show min ops.size (j + 1) = j + 1 by omega]
            · rw [frOf, look_putF, if_pos (by simp [hoL, hdt])]
            · intro i hi hd
              obtain ⟨x, kx, hx, hkx⟩ := hget i hi
              have hdx : x.dst = some t := by simpa [hx] using hd
              rw [getD_set hsz]
              by_cases hij : i = j
              · subst hij; simp
              · rw [if_neg hij]
                rw [order i x kx hx hkx hij (fun _ => by simp [clash, hdx, hdt]) (fun _ => by simp [clash, hdx, hdt])]
                omega
          rw [this] at hlook; cases hlook
          have hlt := hstep.1 t hdt
          exact ⟨u, by simp [hdt, Act.put, h.slots.size, hlt], hv⟩
        · have : look (frS ops.toList vals σ0 (fun i => (L.setIfInBounds j true).getD i false) ops.size) t = look (frS ops.toList vals σ0 (fun i => L.getD i false) ops.size) t := by
            have hgen : ∀ m, look (frS ops.toList vals σ0 (fun i => (L.setIfInBounds j true).getD i false) m) t = look (frS ops.toList vals σ0 (fun i => L.getD i false) m) t := by
              intro m
              induction m with
              | zero => rfl
              | succ m ih =>
                simp only [frS, getD_set hsz]
                by_cases hm : m = j
                · subst hm
                  have hne : ¬ ((ops.toList[m]?).bind (·.dst) = some t) := by simp [hoL, hdt]
                  simp only [hjL', if_true, look_putF, if_neg hne, Bool.false_eq_true, if_false]
                  simpa only [getD_set hsz] using ih
                · rw [if_neg hm]
                  split
                  · rw [look_putF, look_putF]
                    split
                    · rfl
                    · simpa only [getD_set hsz] using ih
                  · simpa only [getD_set hsz] using ih
            exact hgen _
          rw [this] at hlook
          obtain ⟨u', p, q⟩ := h.slots.slot t v hlook
          refine ⟨u', ?_, v.mono hto.le q⟩
          cases hd : o.dst with
          | none => simpa [Act.put] using p
          | some d =>
            have : d ≠ t := fun e => hdt (by rw [hd, e])
            simp [Act.put, Array.getElem?_setIfInBounds_ne this, p]
    · intro i hi hLi
      rw [getD_set hsz] at hLi
      by_cases hij : i = j
      · subst hij; simp at hLi
      · rw [if_neg hij] at hLi
        rw [hto.keep (K + i) (by have := h.next; omega) (by omega)]
        exact h.ids i hi hLi
  have hst_same : k ≠ .write → k ≠ .new → stS ks sts (fun i => (L.setIfInBounds j true).getD i false) ops.size = stS ks sts (fun i => L.getD i false) ops.size := by
    intro hk hk2
    have : ∀ m, stS ks sts (fun i => (L.setIfInBounds j true).getD i false) m = stS ks sts (fun i => L.getD i false) m := by
      intro m
      induction m with
      | zero => rfl
      | succ m ih =>
        simp only [stS, getD_set hsz] at ih ⊢
        by_cases hm : m = j
        · subst hm
          have : ¬ (ks[m]? = some .write) := by rw [hkj]; simpa using hk
          have h2 : ¬ (ks[m]? = some .new) := by rw [hkj]; simpa using hk2
          simp only [this, h2, and_false, if_false]; exact ih
        · rw [if_neg hm]
          split
          · rfl
          · split
            · rw [ih]
            · exact ih
    exact this _
  have hst_write : k = .write → stS ks sts (fun i => (L.setIfInBounds j true).getD i false) ops.size = sts (j + 1) := by
    intro hk
    subst hk
    rw [stS_eq (j := j + 1) ops.size hsts_const hsts_new, show min ops.size (j + 1) = j + 1 by omega]
    intro i hi hw'
    obtain ⟨x, kx, hx, hkx⟩ := hget i hi
    rw [getD_set hsz]
    by_cases hij : i = j
    · subst hij; simp
    · have := order i x kx hx hkx hij (fun _ => by rcases hw' with hw' | hw' <;> rw [hkx] at hw' <;> cases hw' <;> simp [clash]) (fun _ => by rcases hw' with hw' | hw' <;> rw [hkx] at hw' <;> cases hw' <;> simp [clash])
      rw [if_neg hij, this]
      omega
  -- carry it out
  unfold wpOp
  rw [ho]
  simp only
  have run : ∀ (st1 st2 F1 : List Item), YieldsG P ops o (frOf ops.toList vals σ0 j) st1 (K + j) (vals j) st2 → (stS ks sts (fun i => L.getD i false) ops.size ++ (A ++ F)).Perm (st1 ++ F1) → (stS ks sts (fun i => (L.setIfInBounds j true).getD i false) ops.size ++ (A ++ F)).Perm (st2 ++ F1) →
      if Region.wanted o (yielded ops a.tmps) then o.wp P a w R Q ∨ (o.asks P a w ∧ LetsOut Q) else R (a.put o.dst undef) w := by
    intro st1 st2 F1 hy e1 e2
    have := hy F1 g a w (h.world.perm e1) hidj hslots
    split
    · rename_i hwn
      rw [if_pos hwn] at this
      refine .inl (this.wp fun u w' ⟨g', hto, hw', hv⟩ => finish g' u w' hto hv (hw'.perm e2.symm))
    · rename_i hwn
      rw [if_neg hwn] at this
      obtain ⟨e, hv⟩ := this
      exact finish g undef w (Ghost.to.refl g _) hv (((h.world.perm e1)).perm (by rw [← e]; exact e2.symm))
  have swap : ∀ X : List Item, (X ++ (A ++ F)).Perm (A ++ (X ++ F)) := fun X => by
    rw [← List.append_assoc, ← List.append_assoc]; exact List.Perm.append_right F List.perm_append_comm
  cases k with
  | free => exact run A A (stS ks sts (fun i => L.getD i false) ops.size ++ F) hstep.2.1 (swap _) (by rw [hst_same (by simp) (by simp)]; exact swap _)
  | read => exact run (sts j) (sts j) (A ++ F) hstep.2.1 (by rw [hst (by simp) (by simp)]) (by rw [hst_same (by simp) (by simp), hst (by simp) (by simp)])
  | write => exact run (sts j) (sts (j + 1)) (A ++ F) hstep.2 (by rw [hst (by simp) (by simp)]) (by rw [hst_write rfl])
  | new =>
    obtain ⟨its, h1, h2⟩ := hstep.2
    refine run (stS ks sts (fun i => L.getD i false) ops.size) (its ++ stS ks sts (fun i => L.getD i false) ops.size) (A ++ F) (h2 _) (List.Perm.refl _) (List.Perm.append_right _ ?_)
    have := stS_new (sts := sts) (L := fun i => L.getD i false) (L' := fun i => (L.setIfInBounds j true).getD i false) hkj hjL' (by simp [getD_set hsz]) (fun i hi => by simp [getD_set hsz, hi]) (fun i hi hw' => by
      have hin : i < ops.size := by
        have := (List.getElem?_eq_some_iff.1 hw').1
        simp at hks; omega
      obtain ⟨x, kx, hx, hkx⟩ := hget i hin
      rw [hkx] at hw'; cases hw'
      have := order i x .write hx hkx (by omega) (fun _ => by omega) (fun _ => by simp [clash])
      cases hc : L.getD i false with
      | false => rfl
      | true => have := this.1 hc; omega) ops.size
    rw [if_pos hjn, newI_eq h1] at this
    exact this

theorem any_run {ks : List Kd} {vals : Nat → AV} {sts : Nat → List Item} {σ0 : Fr} {F : List Item} {g0 : Ghost} (hks : ks.length = ops.toList.length) (hok : orderOk ops ks = true)
    (hs : ∀ i, i < ops.toList.length → StepOk P n ops K A ops.toList ks vals sts σ0 i) {Q : Exit → Act → World → Prop}
    (hQ : ∀ g a w, g0.ext g → RelF n g (frOf ops.toList vals σ0 ops.toList.length) a → RelW g (sts ops.toList.length ++ (A ++ F)) w → Q .normal a w) :
    ∀ (fuel : Nat) (L : Array Bool) (g : Ghost) (a : Act) (w : World), InvL n ops K ks vals sts σ0 (A ++ F) g0 L g a w → L.toList.countP (fun b => !b) = fuel → wpAny P .any ops Q fuel L a w := by
  obtain ⟨hedge, _⟩ := orderOk_spec hok hks
  -- nothing is ready: all is listed
  have done : ∀ (L : Array Bool) (g : Ghost) (a : Act) (w : World), InvL n ops K ks vals sts σ0 (A ++ F) g0 L g a w → Region.ready .any ops L = [] → Q .normal a w := by
    intro L g a w h hr
    have all : ∀ i, i < ops.size → L.getD i false = true := by
      intro i
      induction i using Nat.strongRecOn with
      | _ i ih =>
        intro hi
        cases hc : L.getD i false with
        | true => rfl
        | false =>
          exfalso
          have hmem : i ∈ Region.ready .any ops L := by
            unfold Region.ready
            rw [List.mem_filter, List.mem_range]
            refine ⟨hi, ?_⟩
            have hL : L.getD i true = false := by
              have hlt : i < L.size := by rw [h.size]; exact hi
              simp only [Array.getD_eq_getD_getElem?] at hc ⊢
              rw [Array.getElem?_eq_getElem hlt] at hc ⊢
              exact hc
            simp only [hL, Bool.not_false, Bool.true_and, Array.getElem?_eq_getElem hi, Option.map_some, Option.getD_some]
            rw [Array.all_eq_true_iff_forall_mem]
            intro e he
            cases hb : Region.binds .any e with
            | false => rfl
            | true =>
              have hlt := hedge i ops[i] (by simp [hi]) e (by simpa using he) hb
              simp [ih e.on hlt (by omega)]
          rw [hr] at hmem; cases hmem
    have hN : ops.toList.length = ops.size := by simp
    have h1 : RelF n g (frOf ops.toList vals σ0 ops.toList.length) a := by
      refine ⟨h.slots.size, h.slots.defers, fun t v hv => h.slots.slot t v ?_⟩
      rw [look_frS (j := ops.size) ops.size (fun i hi _ => by simp [all i hi, hi]), Nat.min_self]
      rw [hN] at hv; exact hv
    have h2 : stS ks sts (fun i => L.getD i false) ops.size = sts ops.toList.length := by
      rw [stS_eq (j := ops.size) ops.size (fun i hi hne hne2 => ?_) (fun i hi hne => ?_) (fun i hi _ => by simp [all i hi, hi]), Nat.min_self, hN]
      · have hk : ks[i]? = some (ks[i]'(by omega)) := List.getElem?_eq_getElem _
        have := (hs i (by omega) ops[i] _ (by simp [hi]) hk).2
        generalize ks[i]'(by omega) = k at *
        cases k with
        | free => exact this.2
        | read => exact this.2
        | write => exact absurd hk hne
        | new => exact absurd hk hne2
      · obtain ⟨its, h1, _⟩ := (hs i (by omega) ops[i] .new (by simp [hi]) hne).2
        rw [newI_eq h1]; exact h1
    exact hQ g a w h.ext h1 (by rw [← h2]; exact h.world)
  intro fuel
  induction fuel with
  | zero =>
    intro L g a w h hf
    have hr : Region.ready .any ops L = [] := by
      unfold Region.ready
      rw [List.filter_eq_nil_iff]
      intro i hi
      rw [List.mem_range] at hi
      have hlt : i < L.size := by rw [h.size]; exact hi
      have := List.countP_eq_zero.1 hf L[i] (by simp)
      simp [Array.getD_eq_getD_getElem?, Array.getElem?_eq_getElem hlt, this]
    exact ⟨hr, done L g a w h hr⟩
  | succ fuel ih =>
    intro L g a w h hf
    refine ⟨fun hr => done L g a w h hr, fun j hj => inv_step hks hok hs h hj fun g' a' w' h' => ih _ g' a' w' h' ?_⟩
    have hj' := hj
    unfold Region.ready at hj'
    rw [List.mem_filter, List.mem_range] at hj'
    obtain ⟨hjn, hj2⟩ := hj'
    simp only [Bool.and_eq_true, Bool.not_eq_true'] at hj2
    have hlt : j < L.size := by rw [h.size]; exact hjn
    have hjL : L[j] = false := by
      have := hj2.1
      simpa [Array.getD_eq_getD_getElem?, Array.getElem?_eq_getElem hlt] using this
    have hset : (L.setIfInBounds j true).toList = L.toList.set j true := by simp
    rw [hset, List.countP_set (by simpa using hlt)]
    simp [hjL, hf]

/-- A region whose order is open. -/
theorem awp_any {id : Nat} {l : List Oper} {ks : List Kd} {σ : Fr} {st : List Item} {Q : Exit → Fr → List Item → Prop} (hm : P.follows .mixedOrders = true)
    (B : List Item) (hp : st.Perm (B ++ A)) (hd : ∀ K, Drv P n l.toArray K A (fun σ' B' => Q .normal σ' (B' ++ A)) 0 l ks σ B) (hok : orderOk l.toArray ks = true) : AWP P n (.region id l.toArray true) σ st Q := by
  intro F g a w hf hw0
  have hw : RelW g (B ++ (A ++ F)) w := by rw [← List.append_assoc]; exact hw0.perm (hp.append_right F)
  refine wp_region_any hm ?_
  obtain ⟨vals, sts, h0, hks, hs, hq⟩ := (Drv.steps (P := P) (n := n) (ops := l.toArray) (K := g.next) (A := A) (Q := fun σ' B' => Q .normal σ' (B' ++ A)) l [] ks [] (fun _ => .val undef) (fun _ => B) σ l ks rfl rfl rfl (fun i hi => by simp at hi) (hd g.next))
  have hbump : g.ext { g with next := g.next + l.length } := ⟨⟨rfl, rfl, fun _ _ _ h => h, fun _ _ h => h, by simp⟩, fun _ _ => rfl⟩
  have hN : l.toArray.toList = l := by simp
  have hfr : ∀ m, frS l vals σ (fun i => (Array.replicate l.toArray.size false).getD i false) m = σ := by
    intro m
    induction m with
    | zero => rfl
    | succ m ih =>
      simp only [frS]
      rw [if_neg, ih]
      simp only [Array.getD_eq_getD_getElem?, Array.getElem?_replicate]
      split <;> simp
  have hst : ∀ m, stS ks sts (fun i => (Array.replicate l.toArray.size false).getD i false) m = sts 0 := by
    intro m
    induction m with
    | zero => rfl
    | succ m ih =>
      have hno : (Array.replicate l.toArray.size false).getD m false = false := by
        simp only [Array.getD_eq_getD_getElem?, Array.getElem?_replicate]
        split <;> simp
      simp only [stS]
      rw [if_neg (by rw [hno]; simp), if_neg (by rw [hno]; simp), ih]
  refine any_run (P := P) (n := n) (ops := l.toArray) (K := g.next) (A := A) (ks := ks) (vals := vals) (sts := sts) (σ0 := σ) (F := F) (g0 := g) (by rw [hN]; exact hks) hok (by rw [hN]; exact hs) ?_ l.toArray.size _ { g with next := g.next + l.length } a _ ?_ ?_
  · intro g' a' w' hx hf' hw'
    rw [hN] at hf' hw'
    exact ⟨g', _, _, hx, hf', by rw [List.append_assoc]; exact hw', hq⟩
  · refine ⟨by simp, ?_, ?_, ?_, hbump, ?_, by simp, Nat.le_refl _⟩
    · intro j o ho hS
      simp only [Array.getD_eq_getD_getElem?, Array.getElem?_replicate] at hS
      split at hS <;> simp at hS
    · rw [hN, hfr]; exact ⟨hf.size, hf.defers, (hf.mono hbump.le).slot⟩
    · rw [hst, h0]
      exact (hw.drew).evolve (row := none) hbump.le ⟨rfl, rfl, rfl, Nat.le_refl _, fun _ _ _ => rfl⟩ (fun b hb => by cases hb) (fun b o v hv => .inl ⟨hv, by simp⟩) (fun it _ b _ => ⟨by simp, fun _ => rfl⟩) (fun i hi => hw.fresh i (by simp at hi; omega))
    · intro i hi _
      exact hw.fresh _ (Nat.le_add_right _ _)
  · simp [List.countP_replicate]

/-- Where nothing is written. -/
theorem awp_any0 {id : Nat} {l : List Oper} {ks : List Kd} {σ : Fr} {st : List Item} {Q : Exit → Fr → List Item → Prop} (hm : P.follows .mixedOrders = true)
    (hd : ∀ K, Drv P n l.toArray K st (fun σ' B' => B' = [] ∧ Q .normal σ' st) 0 l ks σ []) (hok : orderOk l.toArray ks = true) : AWP P n (.region id l.toArray true) σ st Q := by
  have hmono : ∀ (K : Nat) (Q1 Q2 : Fr → List Item → Prop), (∀ σ' B', Q1 σ' B' → Q2 σ' B') → ∀ (l1 : List Oper) (ks : List Kd) (i : Nat) (σ : Fr) (B : List Item), Drv P n l.toArray K st Q1 i l1 ks σ B → Drv P n l.toArray K st Q2 i l1 ks σ B := by
    intro K Q1 Q2 hq l1
    induction l1 with
    | nil => intro ks i σ B h; cases ks with
      | nil => exact hq _ _ h
      | cons k ks => exact h
    | cons o l1 ih => intro ks i σ B h; cases ks with
      | nil => exact h
      | cons k ks => cases k with
        | free => obtain ⟨v, h1, h2, h3⟩ := h; exact ⟨v, h1, h2, ih _ _ _ _ h3⟩
        | read => obtain ⟨v, h1, h2, h3⟩ := h; exact ⟨v, h1, h2, ih _ _ _ _ h3⟩
        | write => obtain ⟨v, st', h1, h2, h3⟩ := h; exact ⟨v, st', h1, h2, ih _ _ _ _ h3⟩
        | new => obtain ⟨v, its, h1, h2, h3⟩ := h; exact ⟨v, its, h1, h2, ih _ _ _ _ h3⟩
  exact awp_any hm [] (by simp) (fun K => hmono K _ _ (fun σ' B' ⟨h1, h2⟩ => by subst h1; exact h2) _ _ _ _ _ (hd K)) hok

/-! The derivation's steps. -/
section drv
variable {Q : Fr → List Item → Prop} {i : Nat} {rest : List Oper} {ks : List Kd} {σ : Fr} {st : List Item} {op : Op} {ty : TypeId} {pos : String} {after : Array Edge}
theorem dr_nil (h : Q σ st) : Drv P n ops K A Q i [] [] σ st := h
theorem dst_ok {d : Nat} {gd : Option (Nat × Bool)} (hd : Nat.blt d n = true) : dstOk n ⟨some d, op, ty, pos, after, gd⟩ := fun x hx => by cases hx; exact blt_lt hd
/-- An operation that does not look at the function's own memory. -/
theorem dr_p {d : Nat} {v : AV} (hy : ∀ i, Yields P ⟨some d, op, ty, pos, after, none⟩ σ A i v A) (hd : Nat.blt d n = true) (h : Drv P n ops K A Q (i + 1) rest ks ((d, v) :: σ) st) : Drv P n ops K A Q i (⟨some d, op, ty, pos, after, none⟩ :: rest) (.free :: ks) σ st :=
  ⟨v, dst_ok hd, (hy _).plain rfl, h⟩
theorem dr_g {d : Nat} {v : AV} {j : Nat} {pol : Bool} {oj : Oper} {t : Tmp} {gv : AV} {c : Prop} (hj : ops[j]? = some oj) (hdj : oj.dst = some t) (hl : look σ t = some gv) (hs : Says gv pol c)
    (hy : c → ∀ i, Yields P ⟨some d, op, ty, pos, after, some (j, pol)⟩ σ A i v A) (hd : Nat.blt d n = true) (h : Drv P n ops K A Q (i + 1) rest ks ((d, .opt c v) :: σ) st) : Drv P n ops K A Q i (⟨some d, op, ty, pos, after, some (j, pol)⟩ :: rest) (.free :: ks) σ st :=
  ⟨_, dst_ok hd, Yields.guarded rfl hj hdj hl hs (fun hc => hy hc _), h⟩
/-- One that reads it. -/
theorem dr_r {d : Nat} {v : AV} (hy : ∀ i, Yields P ⟨some d, op, ty, pos, after, none⟩ σ st i v st) (hd : Nat.blt d n = true) (h : Drv P n ops K A Q (i + 1) rest ks ((d, v) :: σ) st) : Drv P n ops K A Q i (⟨some d, op, ty, pos, after, none⟩ :: rest) (.read :: ks) σ st :=
  ⟨v, dst_ok hd, (hy _).plain rfl, h⟩
theorem dr_rg {d : Nat} {v : AV} {j : Nat} {pol : Bool} {oj : Oper} {t : Tmp} {gv : AV} {c : Prop} (hj : ops[j]? = some oj) (hdj : oj.dst = some t) (hl : look σ t = some gv) (hs : Says gv pol c)
    (hy : c → ∀ i, Yields P ⟨some d, op, ty, pos, after, some (j, pol)⟩ σ st i v st) (hd : Nat.blt d n = true) (h : Drv P n ops K A Q (i + 1) rest ks ((d, .opt c v) :: σ) st) : Drv P n ops K A Q i (⟨some d, op, ty, pos, after, some (j, pol)⟩ :: rest) (.read :: ks) σ st :=
  ⟨_, dst_ok hd, Yields.guarded rfl hj hdj hl hs (fun hc => hy hc _), h⟩
/-- A store. -/
theorem dr_s {v : AV} {st' : List Item} (hy : ∀ i, Yields P ⟨none, op, ty, pos, after, none⟩ σ st i v st') (h : Drv P n ops K A Q (i + 1) rest ks σ st') : Drv P n ops K A Q i (⟨none, op, ty, pos, after, none⟩ :: rest) (.write :: ks) σ st :=
  ⟨v, st', fun x hx => by (cases hx), (hy _).plain rfl, h⟩
/-- Something new, under the name that this place has. -/
theorem dr_n {d : Nat} {v : Nat → AV} {st' : Nat → List Item} (hy : ∀ i, Yields P ⟨some d, op, ty, pos, after, none⟩ σ st i (v i) (st' i)) (hd : Nat.blt d n = true) (h : ∀ j, Drv P n ops K A Q (i + 1) rest ks ((d, v j) :: σ) (st' j)) : Drv P n ops K A Q i (⟨some d, op, ty, pos, after, none⟩ :: rest) (.write :: ks) σ st :=
  ⟨v (K + i), st' (K + i), dst_ok hd, (hy _).plain rfl, h _⟩
/-- Something new, with no order among such. -/
theorem dr_new {d : Nat} {v : Nat → AV} {it : Nat → Item} (hy : ∀ st0 i, Yields P ⟨some d, op, ty, pos, after, none⟩ σ st0 i (v i) (it i :: st0)) (hd : Nat.blt d n = true) (h : ∀ j, Drv P n ops K A Q (i + 1) rest ks ((d, v j) :: σ) (it j :: st)) : Drv P n ops K A Q i (⟨some d, op, ty, pos, after, none⟩ :: rest) (.new :: ks) σ st :=
  ⟨v (K + i), [it (K + i)], dst_ok hd, fun st0 => (hy st0 _).plain rfl, h _⟩
/-- append -/
theorem dr_append {d : Nat} {T E sz by_ : Nat} {x y : Operand} {t : Option Nat} {av : AV} {xs ys : List (List AV)} {zs : List Value} [ht : SliceT P T E sz by_] [hz : ZeroT P E zs] [hr : Rd av sz ys] (hzl : zs.length = sz)
    (hx : Ev σ x (.grow sz t xs)) (hy : Ev σ y av) (hb : xs.length + ys.length ≤ 1073741824) (hd : Nat.blt d n = true) (h : ∀ t', Drv P n ops K A Q (i + 1) rest ks ((d, .grow sz t' (xs ++ ys)) :: σ) (.tail t' :: st)) :
    Drv P n ops K A Q i (⟨some d, .call { callee := .builtin .append, args := #[x, y], argTypes := #[T, T] }, ty, pos, after, none⟩ :: rest) (.write :: ks) σ (.tail t :: st) :=
  ⟨_, _, dst_ok hd, (y_append hzl hx hy hb).plain rfl, h _⟩
/-- An operation whose items are written otherwise. -/
theorem dr_w {d : Nat} {v : AV} {st' : List Item} (hy : ∀ i, Yields P ⟨some d, op, ty, pos, after, none⟩ σ st i v st') (hd : Nat.blt d n = true) (h : Drv P n ops K A Q (i + 1) rest ks ((d, v) :: σ) st') : Drv P n ops K A Q i (⟨some d, op, ty, pos, after, none⟩ :: rest) (.write :: ks) σ st :=
  ⟨v, st', dst_ok hd, (hy _).plain rfl, h⟩
end drv

end any
end Go.Aw

/- An abstract walk: what the arguments read as; from a law's contract to its row. -/
namespace Go.Aw
open Go.RowKit (Below)

/-- The ghost at a call's beginning: all that is there is never written. -/
def g0 (W : World) : Ghost := { B := W.heap.size, w0 := W, com := fun b o => W.cell? ⟨b, o, none⟩, loc := fun _ => none, next := 0 }
theorem relW0 (W : World) : RelW (g0 W) [] W := ⟨fun _ _ _ h => h, fun _ _ => rfl, Nat.le_refl _, Below.refl _ _, fun _ h => by simp at h, by simp⟩

theorem law_calls {P : Program} {f : FuncId} {avs : List AV} {args : Array Value} {W : World} (h : ACalls P f avs [] (fun v _ => v = .bool true)) (hv : holdsL (g0 W) avs args.toList) :
    Calls P f args W fun e W' => e = .returned (.bool true) ∧ Below W.heap.size W W' := by
  have := h.2 [] (g0 W) W args.toList (relW0 W) hv
  rw [Array.toArray_toList] at this
  exact this.mono fun e W' ⟨u, v, st', g', he, hx, hw', hh, hq⟩ => by
    subst hq
    rw [AV.val_holds] at hh; subst hh
    refine ⟨he, ?_⟩
    have hb := hw'.below
    rw [hx.le.B, hx.le.w0] at hb
    exact hb

/-- What reads as type T reads as some a, and holds what f a says. -/
def RdT (P : Program) (T : TypeId) {α : Type} (f : α → List AV) (ok : α → Prop) : Prop :=
  ∀ (H : Type) (enc : TypeId × Value → H) (W : World) (fuel : Nat) (cs : List Value) (x : DataW H × List MemPlace), DataW.trod enc P W 0 (fun _ => true) true fuel T cs = some x →
    ∃ a, ok a ∧ holdsL (g0 W) (f a) cs ∧ ∀ u ∈ cs, u.oneCell' = true

theorem RdT.i64 {P : Program} {T : TypeId} (h : P.underlying T = some (.int .i64)) : RdT P T (fun n : Int => [.int n]) (fun n => -9223372036854775808 ≤ n ∧ n ≤ 9223372036854775807) := by
  intro H enc W fuel cs x hx
  obtain ⟨n, rfl, _, hw⟩ := DataW.trod_int h hx
  exact ⟨n, by simpa [Lit.wf, IntKind.min, IntKind.max, IntKind.signed, IntKind.bits] using hw, ⟨AV.val_self _, trivial⟩, by simp; rfl⟩
theorem RdT.u8 {P : Program} {T : TypeId} (h : P.underlying T = some (.int .u8)) : RdT P T (fun n : Int => [.val (.int .u8 n)]) (fun n => 0 ≤ n ∧ n ≤ 255) := by
  intro H enc W fuel cs x hx
  obtain ⟨n, rfl, _, hw⟩ := DataW.trod_int h hx
  exact ⟨n, by simpa [Lit.wf, IntKind.min, IntKind.max, IntKind.signed, IntKind.bits] using hw, ⟨AV.val_self _, trivial⟩, by simp; rfl⟩
theorem RdT.bool {P : Program} {T : TypeId} (h : P.underlying T = some .bool) : RdT P T (fun b : Bool => [.bool b]) (fun _ => True) := by
  intro H enc W fuel cs x hx
  obtain ⟨n, rfl, _⟩ := DataW.trod_bool h hx
  exact ⟨n, trivial, ⟨AV.val_self _, trivial⟩, by simp; rfl⟩
theorem RdT.string {P : Program} {T : TypeId} (h : P.underlying T = some .string) : RdT P T (fun s : ByteArray => [.val (.string s)]) (fun _ => True) := by
  intro H enc W fuel cs x hx
  obtain ⟨n, rfl, _⟩ := DataW.trod_string h hx
  exact ⟨n, trivial, ⟨AV.val_self _, trivial⟩, by simp; rfl⟩

theorem RdT.map {P : Program} {T : TypeId} {α β : Type} {f : α → List AV} {ok : α → Prop} (h : RdT P T f ok) (φ : α → β) {f' : β → List AV} {ok' : β → Prop} (hf : ∀ a, f' (φ a) = f a) (hok : ∀ a, ok a → ok' (φ a)) : RdT P T f' ok' := by
  intro H enc W fuel cs x hx
  obtain ⟨a, h1, h2, h3⟩ := h H enc W fuel cs x hx
  exact ⟨φ a, hok a h1, by rw [hf]; exact h2, h3⟩

theorem mapM_range_some {β : Type} {n : Nat} {p : Nat → Option β} {cs : List β} (h : (List.range n).mapM p = some cs) : cs.length = n ∧ ∀ i, i < n → p i = cs[i]? := by
  have key : ∀ (l : List Nat) (cs : List β), l.mapM p = some cs → cs.length = l.length ∧ ∀ (i x : Nat), l[i]? = some x → p x = cs[i]? := by
    intro l
    induction l with
    | nil => intro cs h; simp at h; subst h; simp
    | cons a l ih =>
      intro cs h
      rw [List.mapM_cons] at h
      cases hp : p a with
      | none => simp [hp] at h
      | some b =>
        cases hr : l.mapM p with
        | none => simp [hp, hr] at h
        | some r =>
          simp [hp, hr] at h; subst h
          obtain ⟨h1, h2⟩ := ih r hr
          refine ⟨by simp [h1], fun i x hx => ?_⟩
          cases i with
          | zero => simp at hx; subst hx; simpa using hp
          | succ i => simpa using h2 i x (by simpa using hx)
  obtain ⟨h1, h2⟩ := key _ _ h
  exact ⟨by simpa using h1, fun i hi => h2 i i (by simp [hi])⟩

theorem RdT.slice {P : Program} {T E sz by_ : Nat} {α : Type} {f : α → List AV} {ok : α → Prop} (h : RdT P E f ok) (ht : SliceT P T E sz by_) : RdT P T (fun l : List α => [.sl sz (l.map f)]) (fun l => ∀ a ∈ l, ok a) := by
  intro H enc W fuel cs x hx
  have hcell : P.cellsOf E = sz := by
    have := ht.hsize; unfold sizeB at this; unfold Program.cellsOf; rw [this]; rfl
  rcases Deep.open_slice ht.und hx with ⟨rfl, _⟩ | ⟨a, len, cap, m, n, D, Pl, rfl, _, hl, hm, hmm, _, hel⟩
  · exact ⟨[], by simp, ⟨(inferInstance : Rd (.val (.slice none 0 0)) sz []).imp _ _ (AV.val_self _), trivial⟩, by simp; rfl⟩
  · simp only [if_true] at hmm
    rw [hcell] at hel
    have key : ∀ k, k ≤ len → ∃ l : List α, l.length = k ∧ (∀ a ∈ l, ok a) ∧ (∀ x ∈ l.map f, x.length = sz) ∧ (0 < k → ∃ b o, a = ⟨b, o, none⟩ ∧ comRow (g0 W) b (o + (len - k) * sz) (l.map f).flatten) := by
      intro k
      induction k with
      | zero => intro _; exact ⟨[], rfl, by simp, by simp, by omega⟩
      | succ k ih =>
        intro hk
        obtain ⟨l, h1, h2, h3, h4⟩ := ih (by omega)
        obtain ⟨cs', hc, htr⟩ := hel (len - (k + 1)) (by omega)
        obtain ⟨a0, k1, k2, k3⟩ := h H enc W n cs' _ htr
        unfold World.cells? at hc
        rw [if_pos (Nat.zero_le _)] at hc
        obtain ⟨c1, c2⟩ := mapM_range_some hc
        have hlen : (f a0).length = sz := by rw [k2.length, c1]
        have hsp : ∃ b o, a = ⟨b, o, none⟩ := by
          obtain ⟨b, o, s⟩ := a
          refine ⟨b, o, ?_⟩
          obtain ⟨cs0, hc0, _⟩ := hel 0 (by omega)
          unfold World.cells? at hc0
          rw [if_pos (Nat.zero_le _)] at hc0
          obtain ⟨e1, e2⟩ := mapM_range_some hc0
          have := e2 0 ht.pos
          rw [List.getElem?_eq_getElem (by have := ht.pos; omega)] at this
          simp only [Nat.zero_mul, Addr.add, if_pos] at this
          cases s with
          | none => rfl
          | some s =>
            unfold World.cell? at this
            split at this <;> simp at this
        obtain ⟨b, o, rfl⟩ := hsp
        refine ⟨a0 :: l, by simp [h1], fun x hx => (List.mem_cons.1 hx).elim (fun e => e ▸ k1) (h2 x), fun x hx => ?_, fun _ => ⟨b, o, rfl, ?_⟩⟩
        · rw [List.map_cons] at hx
          exact (List.mem_cons.1 hx).elim (fun e => e ▸ hlen) (h3 x)
        · rw [List.map_cons, List.flatten_cons]
          refine comRow.append (comRow.of k2 k3 (fun i v hv => ?_)) ?_
          · have hi : i < sz := by
              rcases Nat.lt_or_ge i cs'.length with hh | hh
              · omega
              · rw [List.getElem?_eq_none hh] at hv; cases hv
            have := c2 i hi
            rw [hv] at this
            simp only [Addr.add_mk] at this
            exact this
          · rw [hlen]
            rcases Nat.eq_zero_or_pos k with hk0 | hk0
            · subst hk0
              have : l = [] := List.eq_nil_of_length_eq_zero h1
              subst this; exact trivial
            · obtain ⟨b', o', e, hr⟩ := h4 hk0
              cases e
              have e2 : o + (len - (k + 1)) * sz + sz = o + (len - k) * sz := by
                rw [show len - k = (len - (k + 1)) + 1 by omega, Nat.add_mul, Nat.one_mul]; omega
              rw [e2]; exact hr
    obtain ⟨l, h1, h2, h3, h4⟩ := key len (Nat.le_refl _)
    refine ⟨l, h2, ⟨?_, trivial⟩, by simp; rfl⟩
    rw [AV.sl_holds]
    refine ⟨some a, cap, by simp [h1], by simp [h1, hl], h3, fun hne => ?_⟩
    have hpos : 0 < len := by
      rcases Nat.eq_zero_or_pos len with h0 | h0
      · rw [h0] at h1; have : l = [] := List.eq_nil_of_length_eq_zero h1; subst this; exact absurd rfl hne
      · exact h0
    obtain ⟨b, o, rfl, hr⟩ := h4 hpos
    exact ⟨b, o, rfl, by simpa using hr⟩

/-- Fields, one behind the other, from cell o on. -/
inductive RdS (P : Program) : List Field → Nat → (α : Type) → (α → List AV) → (α → Prop) → Nat → Prop
  | nil {o : Nat} : RdS P [] o Unit (fun _ => []) (fun _ => True) o
  | cons {fl : Field} {fs : List Field} {o s e : Nat} {α β : Type} {f : α → List AV} {ok : α → Prop} {F : β → List AV} {ok' : β → Prop} (h : RdT P fl.type f ok) (ho : fl.offset = o) (hs : P.cellsOf fl.type = s) (r : RdS P fs (o + s) β F ok' e) :
      RdS P (fl :: fs) o (α × β) (fun x => f x.1 ++ F x.2) (fun x => ok x.1 ∧ ok' x.2) e

theorem RdS.read {P : Program} {fs : List Field} {o e : Nat} {α : Type} {F : α → List AV} {ok : α → Prop} (h : RdS P fs o α F ok e) : ∀ {H : Type} {enc : TypeId × Value → H} {W : World} {n : Nat} {cs : List Value}, cs.length = e →
    (∀ (i : Nat) (fl : Field), fs[i]? = some fl → ∃ x, DataW.trod enc P W 0 (fun _ => true) true n fl.type ((cs.drop fl.offset).take (P.cellsOf fl.type)) = some x) → ∃ a, ok a ∧ holdsL (g0 W) (F a) (cs.drop o) ∧ ∀ u ∈ cs.drop o, u.oneCell' = true := by
  induction h with
  | nil => intro H enc W n cs hl _; exact ⟨(), trivial, by rw [List.drop_of_length_le (by omega)]; trivial, by rw [List.drop_of_length_le (by omega)]; simp⟩
  | @cons fl fs o s e α β f ok F ok' h ho hs _ ih =>
    intro H enc W n cs hl hf
    obtain ⟨x, hx⟩ := hf 0 fl rfl
    rw [ho, hs] at hx
    obtain ⟨a, k1, k2, k3⟩ := h H enc W n _ _ hx
    obtain ⟨b, m1, m2, m3⟩ := ih (enc := enc) (W := W) (n := n) hl (fun i fl' hfl => hf (i + 1) fl' (by simpa using hfl))
    have hsplit : cs.drop o = (cs.drop o).take s ++ cs.drop (o + s) := by rw [← List.drop_drop, List.take_append_drop]
    refine ⟨(a, b), ⟨k1, m1⟩, ?_, ?_⟩
    · rw [hsplit]; exact k2.append m2
    · rw [hsplit]; exact fun u hu => (List.mem_append.1 hu).elim (k3 u) (m3 u)

theorem RdT.struct {P : Program} {T e : Nat} {fs : Array Field} {α : Type} {F : α → List AV} {ok : α → Prop} (hu : P.underlying T = some (.struct fs)) (h : RdS P fs.toList 0 α F ok e) (he : P.cellsOf T = e) : RdT P T F ok := by
  intro H enc W fuel cs x hx
  obtain ⟨xs, n, _, _, hl, hlen, hf⟩ := DataW.trod_struct hu hx
  have := h.read (enc := enc) (W := W) (n := n) (cs := cs) (by rw [hl, he]) (fun i fl hfl => by
    have h1 := hf i fl (by simpa using hfl)
    have hi : i < fs.size := by
      rcases Nat.lt_or_ge i fs.toList.length with h | h
      · simpa using h
      · rw [List.getElem?_eq_none h] at hfl; cases hfl
    exact ⟨xs[i]'(by omega), by rw [h1, List.getElem?_eq_getElem (by omega)]⟩)
  simpa using this

/-! ### Arguments -/
theorem arg_scalar {P : Program} {T : TypeId} {α : Type} {F : α → AV} {ok : α → Prop} (h : RdT P T (fun a => [F a]) ok) (ha : isAggB P T = some false) {H : Type} {enc : TypeId × Value → H} {W : World} {base : Nat} {v : Value} {d : DataW H} {ps : List MemPlace}
    (hv : Value.okWide P W .any base T v) (hr : DataW.Trod enc P W 0 (fun _ => true) true T v d ps) : ∃ a, ok a ∧ (F a).holds (g0 W) v := by
  obtain ⟨fuel, hf⟩ := hr
  obtain ⟨a, k1, k2, k3⟩ := h H enc W fuel _ _ hf
  have hone : v.cells = #[v] := by
    cases v with
    | agg cs =>
      exfalso
      unfold isAggB at ha
      cases hu : P.underlying T with
      | none => simp [hu] at ha
      | some dd => cases dd <;> simp [hu] at ha <;> simp [Value.okWide, hu, Cell.okWide, Cell.ok] at hv
    | _ => rfl
  rw [hone] at k2
  exact ⟨a, k1, k2.1⟩

theorem arg_agg {P : Program} {T : TypeId} {α : Type} {f : α → List AV} {ok : α → Prop} (h : RdT P T f ok) (ha : isAggB P T = some true) {H : Type} {enc : TypeId × Value → H} {W : World} {base : Nat} {v : Value} {d : DataW H} {ps : List MemPlace}
    (hv : Value.okWide P W .any base T v) (hr : DataW.Trod enc P W 0 (fun _ => true) true T v d ps) : ∃ a, ok a ∧ (AV.agg (f a)).holds (g0 W) v := by
  obtain ⟨fuel, hf⟩ := hr
  obtain ⟨a, k1, k2, k3⟩ := h H enc W fuel _ _ hf
  have hagg : ∃ cs, v = .agg cs := by
    unfold isAggB at ha
    cases hu : P.underlying T with
    | none => simp [hu] at ha
    | some dd => cases dd <;> simp [hu] at ha <;> (simp only [Value.okWide, hu] at hv; obtain ⟨cs, e, _⟩ := hv; exact ⟨cs, e⟩)
  obtain ⟨cs, rfl⟩ := hagg
  exact ⟨a, k1, AV.agg_holds.2 ⟨cs.toList, by simp, k2, k3⟩⟩

/-- All arguments read again as they did. -/
theorem trodAll_below {P : Program} {H : Type} {enc : TypeId × Value → H} (hl : laidOutB P = true) {W W' : World} (hb : Below W.heap.size W W') : ∀ {ts : List TypeId} {vs : List Value} {ds : List (DataW H)} {ps : List MemPlace}, (∀ t ∈ ts, P.readableRec t = true ∧ t < P.types.size) →
    DataW.TrodAll enc P W 0 (fun _ => true) true ts vs ds ps → (∀ x ∈ ps, x.block < W.heap.size) → DataW.TrodAll enc P W' 0 (fun b => decide (b < W.heap.size)) true ts vs ds ps := by
  intro ts
  induction ts with
  | nil =>
    intro vs ds ps _ h _
    cases vs <;> cases ds <;> simp [DataW.TrodAll] at h ⊢ <;> exact h
  | cons t ts ih =>
    intro vs ds ps ht h hlt
    cases vs with
    | nil => simp [DataW.TrodAll] at h
    | cons v vs =>
      cases ds with
      | nil => simp [DataW.TrodAll] at h
      | cons d ds =>
        simp only [DataW.TrodAll] at h ⊢
        obtain ⟨p, q, h1, h2, rfl⟩ := h
        obtain ⟨r1, r2⟩ := ht t (by simp)
        exact ⟨p, q, RowKit.Below.trod hl r1 r2 h1 hb (fun x hx => hlt x (by simp [hx])), ih (fun t' ht' => ht t' (by simp [ht'])) h2 (fun x hx => hlt x (by simp [hx])), rfl⟩

theorem law_post {P : Program} {H : Type} {enc : TypeId × Value → H} {fn : Func} {s : ChangeSpec} {TB : TypeId} {W W' : World} {args : Array Value} {ds gs : List (DataW H)} {before : List MemPlace} (hl : laidOutB P = true) (ht : ∀ t ∈ fn.params.toList, P.readableRec t = true ∧ t < P.types.size)
    (hres : fn.resultTypes = #[TB]) (hB : P.underlying TB = some .bool) (hvars : s.vars = []) (hfn : ∀ ds' : List (DataW H), ds'.length = fn.params.toList.length → s.fn H (ds' ++ []) = { results := [.lit (.bool true)], args := ds' })
    (hW : DataW.Whole enc P fn.params.toList s.vars false W args.toList ds gs before) (hb : Below W.heap.size W W') : s.post enc P fn false true false false W args (.bool true) W' := by
  have hW0 := hW
  obtain ⟨p, q, hA, hV, rfl, hfz, hnd⟩ := hW
  have hlt := hW0.lt
  rw [hvars] at hV
  cases gs with
  | cons x gs => simp [DataW.TrodVars] at hV
  | nil =>
    have hq : q = [] := by simpa [DataW.TrodVars] using hV
    subst hq
    have hlen : ds.length = fn.params.toList.length := by
      clear hW0 hlt hfz hnd
      have key : ∀ (ts : List TypeId) (vs : List Value) (ds : List (DataW H)) (p : List MemPlace), DataW.TrodAll enc P W 0 (fun _ => true) true ts vs ds p → ds.length = ts.length := by
        intro ts
        induction ts with
        | nil => intro vs ds p h; cases vs <;> cases ds <;> simp [DataW.TrodAll] at h ⊢
        | cons t ts ih =>
          intro vs ds p h
          cases vs with
          | nil => simp [DataW.TrodAll] at h
          | cons v vs =>
            cases ds with
            | nil => simp [DataW.TrodAll] at h
            | cons d ds =>
              simp only [DataW.TrodAll] at h
              obtain ⟨_, _, _, h2, _⟩ := h
              simp [ih _ _ _ h2]
      exact key _ _ _ _ hA
    have e := hfn ds hlen
    refine ⟨ds, [], p ++ [], [], p, [], hW0, ?_, ?_, ?_, ?_, fun h => by cases h⟩
    · rw [e, hres]
      exact ChangeShapes.trodAll_mk1 (RowKit.shut_bool hB _)
    · rw [e]
      exact trodAll_below hl hb ht hA (fun x hx => hlt x (by simp [hx]))
    · rw [hvars, e]; simp [DataW.TrodVars]
    · exact hb.frame _

end Go.Aw

/- An abstract walk: calls that keep an item, items' weakening, appends with the tail anywhere. -/
namespace Go.Aw

theorem ImpL.refl : ∀ (vs : List AV), ImpL vs vs
  | [] => .nil
  | v :: vs => .cons (AV.Imp.refl v) (ImpL.refl vs)

/-- A call whose contract asks for one item and leaves it so. -/
theorem ACalls.take {P : Program} {f : FuncId} {args : List AV} {st st' : List Item} {it : Item} {v : AV} (ht : Take st it st') (h : ACalls P f args [it] (fun v' s => v' = v ∧ s = [it])) : ACalls P f args st (fun v' s => v' = v ∧ s = st) :=
  ⟨h.1, fun F g w vs hw hv => (h.2 (st' ++ F) g w vs (hw.perm (ht.perm.append_right F)) hv).mono fun e w' ⟨u, v', s, g', a, b, c, d, q⟩ => by
    obtain ⟨rfl, rfl⟩ := q
    exact ⟨u, v', st, g', a, b, c.perm (ht.perm.symm.append_right F), d, rfl, rfl⟩⟩
/-- The same, for more items. -/
theorem ACalls.takes {P : Program} {f : FuncId} {args : List AV} {st r its : List Item} {v : AV} (hp : st.Perm (its ++ r)) (h : ACalls P f args its (fun v' s => v' = v ∧ s = its)) : ACalls P f args st (fun v' s => v' = v ∧ s = st) :=
  ⟨h.1, fun F g w vs hw hv => (h.2 (r ++ F) g w vs (by rw [← List.append_assoc]; exact hw.perm (hp.append_right F)) hv).mono fun e w' ⟨u, v', s, g', a, b, c, d, q⟩ => by
    obtain ⟨rfl, rfl⟩ := q
    exact ⟨u, v', st, g', a, b, (by rw [← List.append_assoc] at c; exact c.perm (hp.symm.append_right F)), d, rfl, rfl⟩⟩
theorem ACalls.then {P : Program} {f : FuncId} {args : List AV} {st : List Item} {v : AV} {Q : AV → List Item → Prop} (h : ACalls P f args st (fun v' s => v' = v ∧ s = st)) (hq : Q v st) : ACalls P f args st Q :=
  h.mono fun v' st' ⟨a, b⟩ => by rw [a, b]; exact hq

inductive ItImp : List Item → List Item → Prop
  | nil : ItImp [] []
  | cells {i cs cs' st st'} (h : ImpL cs cs') (r : ItImp st st') : ItImp (.cells i cs :: st) (.cells i cs' :: st')
  | same {it st st'} (r : ItImp st st') : ItImp (it :: st) (it :: st')
theorem ItImp.refl : ∀ (st : List Item), ItImp st st
  | [] => .nil
  | _ :: st => .same (ItImp.refl st)
theorem ItImp.blks {g : Ghost} {st st' : List Item} (h : ItImp st st') : st'.filterMap (Item.blk g) = st.filterMap (Item.blk g) := by
  induction h with
  | nil => rfl
  | cells h r ih => simp only [List.filterMap_cons, Item.blk, Item.id?]; rw [ih]
  | same r ih => simp only [List.filterMap_cons]; rw [ih]
theorem ItImp.ok {g : Ghost} {w : World} {st st' : List Item} (h : ItImp st st') : (∀ it ∈ st, it.ok g w) → ∀ it ∈ st', it.ok g w := by
  induction h with
  | nil => exact fun h => h
  | @cells i cs cs' st st' hc r ih =>
    intro h it hm
    rcases List.mem_cons.1 hm with rfl | hm
    · obtain ⟨b, p, s, vs, E, h1, h2, h3, h4⟩ := h _ (List.mem_cons_self ..)
      exact ⟨b, p, s, vs, E, h1, h2, hc.holdsL h3, h4⟩
    · exact ih (fun x hx => h x (List.mem_cons_of_mem _ hx)) it hm
  | same r ih =>
    intro h it hm
    rcases List.mem_cons.1 hm with rfl | hm
    · exact h _ (List.mem_cons_self ..)
    · exact ih (fun x hx => h x (List.mem_cons_of_mem _ hx)) it hm
theorem ItImp.append {st st' : List Item} (h : ItImp st st') (F : List Item) : ItImp (st ++ F) (st' ++ F) := by
  induction h with
  | nil => exact ItImp.refl F
  | cells h r ih => exact .cells h ih
  | same r ih => exact .same ih
theorem ItImp.relW {st st' : List Item} (h : ItImp st st') {g : Ghost} {w : World} (hw : RelW g st w) : RelW g st' w :=
  ⟨hw.com, hw.fresh, hw.hB, hw.below, h.ok hw.items, by rw [h.blks]; exact hw.nodup⟩
theorem Weak.imp {n : Nat} {σ : Fr} {st st' : List Item} (h : ItImp st st') : Weak n σ st σ st' := fun F g a w hf hw => ⟨g, Ghost.ext.refl g, hf, (h.append F).relW hw⟩

section ops
variable {P : Program} {n : Nat} {ops : Array Oper} {rest : List Oper} {σ : Fr} {st : List Item} {K : Fr → List Item → Prop} {ty : TypeId} {pos : String} {after : Array Edge}
/-- An append; its tail may lie anywhere among the items. -/
theorem st_appendT {d : Nat} {T E sz by_ : Nat} {x y : Operand} {t : Option Nat} {av : AV} {xs ys : List (List AV)} {zs : List Value} {st1 : List Item} [ht : SliceT P T E sz by_] [hz : ZeroT P E zs] [hr : Rd av sz ys] (hzl : zs.length = sz)
    (hx : Ev σ x (.grow sz t xs)) (hy : Ev σ y av) (hT : Take st (.tail t) st1) (hb : xs.length + ys.length ≤ 1073741824) (hd : Nat.blt d n = true) (h : ∀ t', AOps P n ops rest ((d, .grow sz t' (xs ++ ys)) :: σ) (.tail t' :: st1) K) :
    AOps P n ops (⟨some d, .call { callee := .builtin .append, args := #[x, y], argTypes := #[T, T] }, ty, pos, after, none⟩ :: rest) σ st K :=
  aops_weak (Weak.perm hT.perm) (st_append hzl hx hy hb hd h)
/-- An append to a slice without spare room. -/
theorem st_append0 {d : Nat} {T E sz by_ : Nat} {x y : Operand} {av : AV} {xs ys : List (List AV)} {zs : List Value} [ht : SliceT P T E sz by_] [hz : ZeroT P E zs] [hr : Rd av sz ys] (hzl : zs.length = sz)
    (hx : Ev σ x (.grow sz none xs)) (hy : Ev σ y av) (hb : xs.length + ys.length ≤ 1073741824) (hd : Nat.blt d n = true) (h : ∀ t', AOps P n ops rest ((d, .grow sz t' (xs ++ ys)) :: σ) (.tail t' :: st) K) :
    AOps P n ops (⟨some d, .call { callee := .builtin .append, args := #[x, y], argTypes := #[T, T] }, ty, pos, after, none⟩ :: rest) σ st K :=
  aops_weak Weak.tail0 (st_append hzl hx hy hb hd h)
end ops
end Go.Aw

/- An abstract walk: from a law's contract to its row, for every list of arguments. -/
namespace Go.Aw
open Go.ChangeShapes

/-- Arguments of these types read as some a, and hold what F a says. -/
inductive ArgsR (P : Program) : List TypeId → (α : Type) → (α → List AV) → (α → Prop) → Prop
  | nil : ArgsR P [] Unit (fun _ => []) (fun _ => True)
  | scalar {T : TypeId} {ts : List TypeId} {α β : Type} {f : α → AV} {ok : α → Prop} {F : β → List AV} {ok' : β → Prop} (h : RdT P T (fun a => [f a]) ok) (ha : isAggB P T = some false) (r : ArgsR P ts β F ok') :
      ArgsR P (T :: ts) (α × β) (fun x => f x.1 :: F x.2) (fun x => ok x.1 ∧ ok' x.2)
  | agg {T : TypeId} {ts : List TypeId} {α β : Type} {f : α → List AV} {ok : α → Prop} {F : β → List AV} {ok' : β → Prop} (h : RdT P T f ok) (ha : isAggB P T = some true) (r : ArgsR P ts β F ok') :
      ArgsR P (T :: ts) (α × β) (fun x => .agg (f x.1) :: F x.2) (fun x => ok x.1 ∧ ok' x.2)

theorem ArgsR.read {P : Program} {ts : List TypeId} {α : Type} {F : α → List AV} {ok : α → Prop} (h : ArgsR P ts α F ok) {H : Type} {enc : TypeId × Value → H} {W : World} {base : Nat} :
    ∀ {vs : List Value} {ds : List (DataW H)} {ps : List MemPlace}, (∀ (j : Nat) t v, ts[j]? = some t → vs[j]? = some v → Value.okWide P W .any base t v) → DataW.TrodAll enc P W 0 (fun _ => true) true ts vs ds ps → ∃ a, ok a ∧ holdsL (g0 W) (F a) vs := by
  induction h with
  | nil =>
    intro vs ds ps _ hA
    obtain ⟨rfl, _, _⟩ := trodAll_nil hA
    exact ⟨(), trivial, trivial⟩
  | scalar h ha r ih =>
    intro vs ds ps hv hA
    obtain ⟨v, vs', d, ds', p, q, rfl, rfl, rfl, h0, hr⟩ := trodAll_cons hA
    obtain ⟨a, k1, k2⟩ := arg_scalar h ha (hv 0 _ v rfl rfl) h0
    obtain ⟨b, m1, m2⟩ := ih (fun j t v ht hv' => hv (j + 1) t v (by simpa using ht) (by simpa using hv')) hr
    exact ⟨(a, b), ⟨k1, m1⟩, k2, m2⟩
  | agg h ha r ih =>
    intro vs ds ps hv hA
    obtain ⟨v, vs', d, ds', p, q, rfl, rfl, rfl, h0, hr⟩ := trodAll_cons hA
    obtain ⟨a, k1, k2⟩ := arg_agg h ha (hv 0 _ v rfl rfl) h0
    obtain ⟨b, m1, m2⟩ := ih (fun j t v ht hv' => hv (j + 1) t v (by simpa using ht) (by simpa using hv')) hr
    exact ⟨(a, b), ⟨k1, m1⟩, k2, m2⟩

/-- THE STEP FROM A LAW'S CONTRACT TO ITS ROW. -/
theorem law_row {P : Program} {f : FuncId} {fn : Func} {s : ChangeSpec} {TB : TypeId} {α : Type} {F : α → List AV} {ok : α → Prop} {ts : List TypeId} (hts : fn.params.toList = ts) (hA : ArgsR P ts α F ok) (hlaw : ∀ a, ok a → ACalls P f (F a) [] (fun v st => v = .bool true ∧ st = []))
    (hl : laidOutB P = true) (ht : fn.params.toList.all (fun t => P.readableRec t && decide (t < P.types.size)) = true) (hres : fn.resultTypes = #[TB]) (hB : P.underlying TB = some .bool) (hvars : s.vars = [])
    {H : Type} {enc : TypeId × Value → H} (hfn : ∀ ds' : List (DataW H), ds'.length = fn.params.toList.length → s.fn H (ds' ++ []) = { results := [.lit (.bool true)], args := ds' })
    {W : World} {base : Nat} {args : Array Value} {ds gs : List (DataW H)} {before : List MemPlace}
    (hval : ∀ (j : Nat) t v, fn.params[j]? = some t → args[j]? = some v → Value.okWide P W .any base t v)
    (hW : DataW.Whole enc P fn.params.toList s.vars false W args.toList ds gs before) :
    Calls P f args W fun e W' => ∃ v, e = .returned v ∧ s.post enc P fn false true false false W args v W' := by
  subst hts
  have hW' := hW
  obtain ⟨p, q, hA0, hV, rfl, hfz, hnd⟩ := hW
  obtain ⟨a, k1, k2⟩ := hA.read (base := base) (fun j t v h1 h2 => hval j t v (by simpa using h1) (by simpa using h2)) hA0
  refine (law_calls ((hlaw a k1).mono fun v st h => h.1) k2).mono fun e W' ⟨he, hb⟩ => ⟨_, he, ?_⟩
  exact law_post hl (fun t hm => by
    have := List.all_eq_true.1 ht t hm
    rw [Bool.and_eq_true, decide_eq_true_eq] at this; exact this) hres hB hvars hfn hW' hb
end Go.Aw

/- An abstract walk: append with a make, the room of a slice that is none. -/
namespace Go.Aw
open Go.RowKit (Below)

/-- A slice of n zero elements at the head of own memory i. -/
@[irreducible] def AV.raw (sz i n : Nat) : AV :=
  ⟨fun g v => ∃ b S cap, g.loc i = some (b, 0, S) ∧ v = .slice (some ⟨b, 0, none⟩) n cap ∧ n ≤ cap ∧ cap * sz ≤ S, fun h ⟨b, S, cap, a, c, d, e⟩ => ⟨b, S, cap, h.loc _ _ a, c, d, e⟩⟩
theorem AV.raw_holds {g : Ghost} {sz i n : Nat} {v : Value} : (AV.raw sz i n).holds g v ↔ ∃ b S cap, g.loc i = some (b, 0, S) ∧ v = .slice (some ⟨b, 0, none⟩) n cap ∧ n ≤ cap ∧ cap * sz ≤ S := by unfold AV.raw; rfl

section
variable {P : Program} {σ : Fr} {st : List Item} {i : Nat} {d : Option Tmp} {ty : TypeId} {pos : String} {after : Array Edge} {gd : Option (Nat × Bool)} {w : World}

theorem run_append_make {T E U sz by_ : Nat} [ht : SliceT P T E sz by_] (tyy : TypeId) (hU : P.underlying U = some (.int .i64)) (inf : TypeInfo) (z : Value) (hi : P.info? E = some inf) (hz : inf.zero = some z) (hsz : inf.size = sz)
    (n : Nat) (h0 : 0 < n) (hn : n ≤ 1073741824) (hb : n * inf.bytes ≤ 140737488355328) :
    (Builtin.append_ #[T, U] tyy #[.slice none 0 0, .int .i64 (n : Int)]).run P w =
      .ok (.slice (some ⟨w.heap.size, 0, none⟩) n (grownCap w n 0 E)) (w.drew.alloc (.cells (Builtin.zeroCells z.cells n ++ Builtin.zeroCells z.cells (grownCap w n 0 E - n)) E)) := by
  have hn0 : n ≠ 0 := by omega
  have hw : IntKind.wrap .i64 (n : Int) = (n : Int) := wrap_in (by omega)
  have h63' : ¬ (9223372036854775807 < (n : Int)) := by omega
  have h48' : ¬ (281474976710656 < Builtin.nextslicecap n 0 * inf.bytes) := by rw [nextslicecap_zero h0]; omega
  have h48 : ¬ ((281474976710656 : Int) < (n : Int) * inf.bytes) := by
    have e : (n : Int) * (inf.bytes : Int) = ((n * inf.bytes : Nat) : Int) := (Int.natCast_mul n inf.bytes).symm
    rw [e]; omega
  have ha : (asInt (.int .i64 (n : Int))).run P w = .ok (n : Int) w := by simp [asInt, asIntOf]
  have hneg : ¬ ((n : Int) < 0) := by omega
  have hp : 0 < inf.size := by rw [hsz]; exact ht.pos
  have hms : ¬ (n * inf.size = 0) := by
    intro e; rcases Nat.mul_eq_zero.1 e with h | h <;> omega
  simp [Builtin.append_, run_underlying ht.und, run_underlying hU, sizeOf, typeInfo, zeroValue, hi, hz, Builtin.lenOf, hn0, h63', h48', h48, hms, hneg, hw, ha, Question.forced, run_firstCells_none, newRow, grownCap]

theorem y_appendMake {T E U sz by_ n : Nat} {x y : Operand} {q : Int} {zs : List Value} [ht : SliceT P T E sz by_] [hz : ZeroT P E zs] (hU : P.underlying U = some (.int .i64)) (hzl : zs.length = sz)
    (hx : Ev σ x (.val (.slice none 0 0))) (hy : Ev σ y (.val (.int .i64 q))) (hq : q = (n : Int)) (h0 : 0 < n) (hn : n ≤ 1073741824) :
    Yields P ⟨d, .call { callee := .builtin .append, args := #[x, y], argTypes := #[T, U] }, ty, pos, after, gd⟩ σ st i (.raw sz i n) (.tail (some i) :: st) := fun F g a w hw hi hs => by
  subst hq
  have ex := AV.val_holds.1 (hx.holds hs (by simp [Op.operands, Call.operands]))
  have ey := AV.val_holds.1 (hy.holds hs (by simp [Op.operands, Call.operands]))
  obtain ⟨inf, z, hinf, hsz, hby, hzero, hzc⟩ := info_of (P := P) ht.hsize ht.hbytes (hz := hz)
  have hbytes : n * inf.bytes ≤ 140737488355328 := by
    rw [hby]
    calc n * by_ ≤ 1073741824 * 65536 := Nat.mul_le_mul hn ht.small
      _ ≤ _ := by decide
  have hr := run_append_make (P := P) (w := w) (T := T) ty hU inf z hinf hzero hsz n h0 hn hbytes
  have hge := grownCap_ge w n 0 E
  generalize hvs : Builtin.zeroCells z.cells n ++ Builtin.zeroCells z.cells (grownCap w n 0 E - n) = vs at hr
  have hzsz : z.cells.size = sz := by rw [hzc]; simpa using hzl
  have hvl : vs.size = grownCap w n 0 E * sz := by
    rw [← hvs]
    simp only [Array.size_append, size_zeroCells, hzsz, ← Nat.add_mul]
    congr 1; omega
  have h1 := (hw.drew).allocTail hi (vs := vs) E 0 (Nat.zero_le _)
  refine goes_value (u := .slice (some ⟨w.heap.size, 0, none⟩) n (grownCap w n 0 E)) ?_ ⟨_, (Ghost.to_commit (fun o _ _ => hw.noCom (Nat.le_refl _))).trans (Ghost.to_setLoc hi), h1, ?_⟩
  · simp only [execOp, resolve, Sem.run_bind, Sem.run_pure, Result.andThen_ok, invoke, builtin]
    simp only [List.map_toArray, List.map_cons, List.map_nil, ex, ey, hr, Result.andThen_ok]
  · rw [AV.raw_holds]
    exact ⟨w.heap.size, vs.size, _, Ghost.setLoc_same, rfl, hge, by rw [hvl]; exact Nat.le_refl _⟩

theorem y_capNil {T E sz by_ : Nat} {x : Operand} [ht : SliceT P T E sz by_] (hx : Ev σ x (.val (.slice none 0 0))) : Yields P ⟨d, .call { callee := .builtin .cap, args := #[x], argTypes := #[T] }, ty, pos, after, gd⟩ σ st i (.int 0) st := fun F g a w hw hi hs => by
  have e := AV.val_holds.1 (hx.holds hs (by simp [Op.operands, Call.operands]))
  exact goes_value (u := .int .i64 0) (by simp [execOp, resolve, invoke, builtin, e, Builtin.cap_, run_underlying ht.und, goInt]) ⟨g, Ghost.to.refl g i, hw, AV.val_self _⟩
theorem y_lenNil {T E sz by_ : Nat} {x : Operand} [ht : SliceT P T E sz by_] (hx : Ev σ x (.val (.slice none 0 0))) : Yields P ⟨d, .call { callee := .builtin .len, args := #[x], argTypes := #[T] }, ty, pos, after, gd⟩ σ st i (.int 0) st := fun F g a w hw hi hs => by
  have e := AV.val_holds.1 (hx.holds hs (by simp [Op.operands, Call.operands]))
  exact goes_value (u := .int .i64 0) (by simp [execOp, resolve, invoke, builtin, e, Builtin.len_, run_underlying ht.und, goInt]) ⟨g, Ghost.to.refl g i, hw, AV.val_self _⟩
theorem y_sliceNil {T E sz by_ : Nat} {x hi' : Operand} {k : IntKind} [ht : SliceT P T E sz by_] (hx : Ev σ x (.val (.slice none 0 0))) (hh : Ev σ hi' (.val (.int k 0))) :
    Yields P ⟨d, .slice T x none (some hi') none, ty, pos, after, gd⟩ σ st i (.val (.slice none 0 0)) st := fun F g a w hw hi hs => by
  have e := AV.val_holds.1 (hx.holds hs (by simp [Op.operands]))
  have e2 := AV.val_holds.1 (hh.holds hs (by simp [Op.operands]))
  have hr := run_slice_hi (P := P) (T := T) (w := w) none 0 0 0 k (Nat.le_refl _)
  rw [if_pos rfl] at hr
  exact goes_value (u := .slice none 0 0) (by simp only [execOp, e, e2, Option.map_some, Option.map_none]; rw [Sem.run_bind]; exact congrArg (fun r => Result.andThen r _) hr) ⟨g, Ghost.to.refl g i, hw, AV.val_self _⟩
theorem y_sliceRaw {T E sz by_ j n : Nat} {x hi' : Operand} {k : IntKind} [ht : SliceT P T E sz by_] (hx : Ev σ x (.raw sz j n)) (hh : Ev σ hi' (.val (.int k 0))) :
    Yields P ⟨d, .slice T x none (some hi') none, ty, pos, after, gd⟩ σ st i (.own sz j []) st := fun F g a w hw hi hs => by
  obtain ⟨b, S, cap, h1, e, h2, h3⟩ := AV.raw_holds.1 (hx.holds hs (by simp [Op.operands]))
  have e2 := AV.val_holds.1 (hh.holds hs (by simp [Op.operands]))
  have hr := run_slice_hi (P := P) (T := T) (w := w) (some ⟨b, 0, none⟩) n cap 0 k (Nat.zero_le _)
  have hif : (if cap = 0 then some (⟨b, 0, none⟩ : Addr) else (some (⟨b, 0, none⟩ : Addr)).map (·.add (0 * sz))) = some ⟨b, 0, none⟩ := by split <;> simp [Addr.add_mk]
  rw [hif] at hr
  refine goes_value (u := .slice (some ⟨b, 0, none⟩) 0 cap) (by simp only [execOp, e, e2, Option.map_some, Option.map_none]; rw [Sem.run_bind]; exact congrArg (fun r => Result.andThen r _) hr) ⟨g, Ghost.to.refl g i, hw, ?_⟩
  rw [AV.own_holds]
  exact ⟨b, 0, S, 0, cap, h1, rfl, Nat.zero_le _, by simp, trivial, by simp, by omega⟩
end
/-- No room at all: a tail that is none. -/
theorem VShift.tail0 {v : AV} {st : List Item} : VShift v st v (.tail none :: st) := fun F g u w hw hv => ⟨g, Ghost.ext.refl g, RelW.cons hw trivial (fun b hb => by simp [Item.blk, Item.id?] at hb), hv⟩
end Go.Aw

/- An abstract walk: own arrays of rows (load, store, freeze), append to an own array, a slice against nil. -/
namespace Go.Aw
open Go.RowKit (Below)

/-- Some bool. -/
@[irreducible] def AV.anyB : AV := ⟨fun _ v => ∃ b, v = .bool b, fun _ h => h⟩
theorem AV.anyB_holds {g : Ghost} {v : Value} : AV.anyB.holds g v ↔ ∃ b, v = .bool b := by unfold AV.anyB; rfl

theorem flatten_set {α : Type} {sz : Nat} : ∀ {xs : List (List α)} (h : ∀ x ∈ xs, x.length = sz) (k : Nat) (r : List α) (hr : r.length = sz) (hk : k < xs.length) (pad : List α),
    setMany (xs.flatten ++ pad) (0 + k * sz) r = (xs.set k r).flatten ++ pad
  | [], _, k, _, _, hk, _ => by simp at hk
  | x :: xs, h, 0, r, hr, _, pad => by
    have hx : x.length = sz := h x (by simp)
    simp only [setMany, Nat.zero_mul, Nat.add_zero, List.take_zero, List.nil_append, Nat.zero_add, List.set_cons_zero, List.flatten_cons, List.append_assoc]
    rw [List.drop_append_of_le_length (by omega), List.drop_of_length_le (by omega), List.nil_append]
  | x :: xs, h, k + 1, r, hr, hk, pad => by
    have hx : x.length = sz := h x (by simp)
    have ih := flatten_set (xs := xs) (fun y hy => h y (List.mem_cons_of_mem _ hy)) k r hr (by simpa using hk) pad
    simp only [setMany, Nat.zero_add] at ih ⊢
    simp only [List.flatten_cons, List.set_cons_succ, List.append_assoc]
    rw [show (k + 1) * sz = x.length + k * sz by rw [Nat.add_mul, hx]; omega]
    rw [List.take_length_add_append, Nat.add_assoc x.length, List.drop_length_add_append, ← ih]
    simp only [List.append_assoc]

section
variable {P : Program} {σ : Fr} {st : List Item} {i : Nat} {d : Option Tmp} {ty : TypeId} {pos : String} {after : Array Edge} {gd : Option (Nat × Bool)} {w : World}

theorem y_loadRow {T n j k : Nat} {x : Operand} {st' : List Item} {α : Type} {L : List α} {f : α → List AV} {pad : List AV} {e : α} [AggT P T n] (hf : ∀ a, (f a).length = n) (hx : Ev σ x (.ptr j (0 + k * n))) (ht : Take st (.cells j ((L.map f).flatten ++ pad)) st') (he : ∃ h : k < L.length, L[k] = e) :
    Yields P ⟨d, .load T x, ty, pos, after, gd⟩ σ st i (.agg (f e)) st := by
  obtain ⟨hk, rfl⟩ := he
  have hl : ∀ r ∈ L.map f, r.length = n := fun r hr => by obtain ⟨a, _, rfl⟩ := List.mem_map.1 hr; exact hf a
  have hfl : (L.map f).flatten.length = L.length * n := by rw [flatten_len hl, List.length_map]
  have hle : k * n + n ≤ L.length * n := by rw [← Nat.succ_mul]; exact Nat.mul_le_mul_right n hk
  have := y_loadAgg (P := P) (T := T) (d := d) (ty := ty) (pos := pos) (after := after) (gd := gd) (i := i) hx ht (by rw [List.length_append, hfl]; omega)
  rw [Nat.zero_add, List.drop_append_of_le_length (by rw [hfl]; omega), List.take_append_of_le_length (by rw [List.length_drop, hfl]; omega), flatten_get hl k (f L[k]) (by simp [hk])] at this
  exact this

theorem y_storeRow {T n j k : Nat} {x y : Operand} {st' : List Item} {α : Type} {L : List α} {f : α → List AV} {pad : List AV} {e : α} (hT : sizeB P T = some n) (hf : ∀ a, (f a).length = n) (hx : Ev σ x (.ptr j (0 + k * n))) (hy : Ev σ y (.agg (f e))) (hk : k < L.length)
    (hu : Upd st (.cells j ((L.map f).flatten ++ pad)) (.cells j (((L.set k e).map f).flatten ++ pad)) st') :
    Yields P ⟨d, .store T x y, ty, pos, after, gd⟩ σ st i (.val undef) st' := by
  have hl : ∀ r ∈ L.map f, r.length = n := fun r hr => by obtain ⟨a, _, rfl⟩ := List.mem_map.1 hr; exact hf a
  have hfl : (L.map f).flatten.length = L.length * n := by rw [flatten_len hl, List.length_map]
  have hle : k * n + n ≤ L.length * n := by rw [← Nat.succ_mul]; exact Nat.mul_le_mul_right n hk
  refine y_store (cs := (L.map f).flatten ++ pad) hT (hf e) hx hy ?_ (by rw [List.length_append, hfl]; omega)
  rw [flatten_set hl k (f e) (hf e) (by simpa using hk) pad, ← List.map_set]
  exact hu

theorem y_eqNilF {T E sz by_ T' : Nat} {x : Operand} {av : AV} {xs : List (List AV)} [ht : SliceT P T E sz by_] [hr : Rd av sz xs] (hx : Ev σ x av) (hne : xs ≠ []) : Yields P ⟨d, .binOp .eql T x (.const (.slice none 0 0)) T', ty, pos, after, gd⟩ σ st i (.bool false) st := fun F g a w hw hi hs => by
  obtain ⟨ad, cap, e, _, hrow⟩ := AV.sl_holds.1 (hr.imp _ _ (hx.holds hs (by simp [Op.operands])))
  obtain ⟨b, o, rfl, _⟩ := hrow.2 hne
  refine goes_value (u := .bool false) ?_ ⟨g, Ghost.to.refl g i, hw, AV.val_self _⟩
  have en : a.eval (.const (.slice none 0 0)) = .slice none 0 0 := rfl
  simp only [execOp, e, en]
  simp [binOp, eqGuard, run_equal_slice_nil w T E _ _ _ ht.und]
theorem y_eqNilA {T E sz by_ T' : Nat} {x : Operand} {av : AV} {xs : List (List AV)} [ht : SliceT P T E sz by_] [hr : Rd av sz xs] (hx : Ev σ x av) : Yields P ⟨d, .binOp .eql T x (.const (.slice none 0 0)) T', ty, pos, after, gd⟩ σ st i .anyB st := fun F g a w hw hi hs => by
  obtain ⟨ad, cap, e, _, hrow⟩ := AV.sl_holds.1 (hr.imp _ _ (hx.holds hs (by simp [Op.operands])))
  refine goes_value (u := .bool ad.isNone) ?_ ⟨g, Ghost.to.refl g i, hw, AV.anyB_holds.2 ⟨_, rfl⟩⟩
  have en : a.eval (.const (.slice none 0 0)) = .slice none 0 0 := rfl
  simp only [execOp, e, en]
  simp [binOp, eqGuard, run_equal_slice_nil w T E _ _ _ ht.und]

/-- append to an empty slice without room, into an own array: what the array holds beside is some pad. -/
theorem st_appendArr {n : Nat} {ops : Array Oper} {rest : List Oper} {K : Fr → List Item → Prop} {dd : Nat} {T E sz by_ : Nat} {x y : Operand} {av : AV} {ys : List (List AV)} {zs : List Value} [ht : SliceT P T E sz by_] [hz : ZeroT P E zs] [hr : Rd av sz ys] (hzl : zs.length = sz) (hz1 : zs.all (·.oneCell') = true)
    (hx : Ev σ x (.full sz [])) (hy : Ev σ y av) (hne : ys ≠ []) (hb : ys.length ≤ 1073741824) (hd : Nat.blt dd n = true)
    (h : ∀ i pad, AOps P n ops rest ((dd, .arr i 0 ys.length) :: σ) (.cells i (ys.flatten ++ pad) :: st) K) :
    AOps P n ops (⟨some dd, .call { callee := .builtin .append, args := #[x, y], argTypes := #[T, T] }, ty, pos, after, none⟩ :: rest) σ st K := by
  intro F g a w hfr hw
  have hs : Slots g σ a (opTmps ⟨some dd, .call { callee := .builtin .append, args := #[x, y], argTypes := #[T, T] }, ty, pos, after, none⟩) := hfr.slots _
  have ex := hx.holds hs (by simp [Op.operands, Call.operands])
  obtain ⟨ad, cap, ey, hcapy, hlen, hrow⟩ := AV.sl_holds.1 (hr.imp _ _ (hy.holds hs (by simp [Op.operands, Call.operands])))
  obtain ⟨inf, z, hinf, hsz, hby, hzero, hzc⟩ := info_of (P := P) ht.hsize ht.hbytes (hz := hz)
  obtain ⟨b', o', rfl, hrow'⟩ := hrow hne
  obtain ⟨news, n1, n2, n3⟩ := hrow'.values
  have hln : news.length = ys.length * sz := by rw [← n1.length, flatten_len hlen]
  have hypos : 0 < ys.length := by cases ys with | nil => exact absurd rfl hne | cons => simp
  have hnews : ∀ j u, news[j]? = some u → w.cell? ((⟨b', o', none⟩ : Addr).add j) = some u := fun j u hj => by
    rw [Addr.add_mk]; exact hw.com _ _ _ (n3 j u hj)
  have hbytes : ys.length * inf.bytes ≤ 140737488355328 := by
    rw [hby]
    calc ys.length * by_ ≤ 1073741824 * 65536 := Nat.mul_le_mul hb ht.small
      _ ≤ _ := by decide
  have hi : g.loc g.next = none := hw.fresh _ (Nat.le_refl _)
  have hzsz : z.cells.size = sz := by rw [hzc]; simpa using hzl
  -- the value and the world of the append
  have hrun : (Builtin.append_ #[T, T] ty #[a.eval x, a.eval y]).run P w = .ok (.slice (some ⟨w.heap.size, 0, none⟩) ys.length (grownCap w ys.length 0 E)) (w.drew.alloc (.cells (news.toArray ++ Builtin.zeroCells z.cells (grownCap w ys.length 0 E - ys.length)) E)) := by
    obtain ⟨b, e, hbn, _, _⟩ := AV.full_holds.1 ex
    simp only [List.length_nil] at e
    cases b with
    | none =>
      rw [e, ey]
      exact run_append_nil (P := P) w T ty E inf z ht.und hinf hzero ⟨b', o', none⟩ ys.length cap news (by rw [hln, hsz]) hnews hypos (by omega) (by omega)
    | some ba =>
      rw [e, ey]
      have := run_append_grow (P := P) w T ty E inf z ht.und hinf hzero ba 0 0 [] (by simp) (by simp) ⟨b', o', none⟩ ys.length cap news (by rw [hln, hsz]) hnews (by omega) (by omega) (growslice_fits (by omega) (by simpa using hbytes))
      simpa using this
  generalize hpad : Builtin.zeroCells z.cells (grownCap w ys.length 0 E - ys.length) = pz at hrun
  have hp1 : ∀ u ∈ pz.toList, u.oneCell' = true := by
    intro u hu
    rw [← hpad] at hu
    unfold Builtin.zeroCells at hu
    simp only [Array.toList_map, List.mem_map, Array.toList_range, List.mem_range] at hu
    obtain ⟨k, hk, rfl⟩ := hu
    have hpos : 0 < z.cells.size := by rw [hzsz]; exact ht.pos
    have hlt := Nat.mod_lt k hpos
    rw [getElem!_pos z.cells (k % z.cells.size) hlt]
    rw [List.all_eq_true] at hz1
    refine hz1 _ ?_
    have hm : z.cells[k % z.cells.size] ∈ z.cells.toList := Array.mem_toList_iff.2 (Array.getElem_mem hlt)
    have ez : z.cells.toList = zs := by rw [hzc]
    generalize z.cells[k % z.cells.size] = q at hm ⊢
    rw [ez] at hm
    exact hm
  have h1 := (hw.drew).allocCells (i := g.next) hi (cs := ys.flatten ++ pz.toList.map AV.val) (vs := news.toArray ++ pz) E (by simpa using n1.append (holdsL_vals pz.toList)) (by
    intro u hu
    simp only [Array.toList_append, List.mem_append] at hu
    exact hu.elim (n2 u) (hp1 u))
  unfold wpList
  rw [if_pos (by simp [Region.wanted])]
  left
  have hg : Goes P ⟨some dd, .call { callee := .builtin .append, args := #[x, y], argTypes := #[T, T] }, ty, pos, after, none⟩ a w (fun u w' => ∃ (v : AV) (st' : List Item) (g' : Ghost), g.ext g' ∧ RelW g' (st' ++ F) w' ∧ v.holds g' u ∧ AOps P n ops rest ((dd, v) :: σ) st' K) := by
    refine goes_value (u := .slice (some ⟨w.heap.size, 0, none⟩) ys.length (grownCap w ys.length 0 E)) ?_ ⟨.arr g.next 0 ys.length, .cells g.next (ys.flatten ++ pz.toList.map AV.val) :: st, _, (Ghost.to_setLoc hi).ext (Nat.le_refl _), h1, ?_, h _ _⟩
    · simp only [execOp, resolve, Sem.run_bind, Sem.run_pure, Result.andThen_ok, invoke, builtin]
      simp only [List.map_toArray, List.map_cons, List.map_nil, hrun, Result.andThen_ok]
    · rw [AV.arr_holds]
      exact ⟨_, _, _, _, Ghost.setLoc_same, rfl, grownCap_ge w ys.length 0 E⟩
  exact hg.wp fun u w' ⟨v, st', g', hx, hw', hv', hk⟩ => wpList_ext hx (hk F g' _ w' ((hfr.mono hx.le).put (blt_lt hd) hv') hw')
end
/-- An own array that is never written again: a slice that all may read. -/
theorem Weak.freeze {n : Nat} {σ : Fr} {st st' : List Item} {t i sz : Nat} {xs : List (List AV)} {pad : List AV} (hl : ∀ x ∈ xs, x.length = sz) (h : look σ t = some (.arr i 0 xs.length)) (ht : Take st (.cells i (xs.flatten ++ pad)) st') : Weak n σ st ((t, .sl sz xs) :: σ) st' := fun F g a w hf hw => by
  obtain ⟨u, hu, hh⟩ := hf.slot _ _ h
  obtain ⟨b, p, s, cap, hloc, e, hcap⟩ := AV.arr_holds.1 hh
  obtain ⟨g', k1, k2, k3⟩ := RelW.freeze (hw.perm (ht.perm.append_right F)) hloc
  have hx : g.ext g' := ⟨k1.le, fun j hj => by
    rcases Classical.em (j = i) with e | e
    · subst e
      have := k1.le.loc _ _ hloc
      rw [this, hloc]
    · exact k1.keep j hj e⟩
  refine ⟨g', hx, ⟨hf.size, hf.defers, fun k v e' => ?_⟩, k2⟩
  rw [look_cons] at e'
  split at e'
  · rename_i hk
    subst hk; cases e'
    refine ⟨u, hu, ?_⟩
    rw [AV.sl_holds]
    refine ⟨_, cap, e, hcap, hl, fun hne => ⟨b, 0, rfl, ?_⟩⟩
    have := k3.take xs.flatten.length
    rwa [List.take_left] at this
  · obtain ⟨x, p, q⟩ := hf.slot _ _ e'
    exact ⟨x, p, AV.mono _ k1.le q⟩
/-- A slot that holds some bool holds one. -/
theorem awp_anyB {P : Program} {n : Nat} {c : Code} {σ : Fr} {st : List Item} {Q : Exit → Fr → List Item → Prop} {t : Nat} (h : look σ t = some .anyB) (k : ∀ b, AWP P n c ((t, .bool b) :: σ) st Q) : AWP P n c σ st Q := fun F g a w hf hw => by
  obtain ⟨u, hu, hh⟩ := hf.slot _ _ h
  obtain ⟨b, rfl⟩ := AV.anyB_holds.1 hh
  refine k b F g a w ⟨hf.size, hf.defers, fun i v e => ?_⟩ hw
  rw [look_cons] at e
  split at e
  · rename_i hk; subst hk; cases e; exact ⟨_, hu, AV.val_self _⟩
  · exact hf.slot i v e
end Go.Aw
