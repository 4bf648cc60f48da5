/- A part of the proof. No condition. -/
import Derived.Test.YtplpmodeoiklcaaGreatP0
import Derived.Test.YtplpmodeoiklcaaGreatProg
import Derived.RangeFuncLeaves
import Derived.RangeFuncRecord
import Derived.RangeFuncIn
import Derived.OrdersIn
import Derived.Laws.RangeAny
set_option linter.unusedVariables false
set_option linter.unusedSimpArgs false
namespace Go.Aw
open Go.RowKit (Below)
theorem RelW.rename {g:Ghost} {st:List Item} {w:World} {i j:Nat} (h:RelW g (.tail (some j)::st) w) (hi:g.loc i=none): ∃ x,g.loc j=some x∧RelW (g.setLoc i x) (.tail (some i)::st) w:=by
  obtain⟨b,pos,S,vs,E,k1,k2,k3,k4,k5,k6⟩:=h.items _ (List.mem_cons_self ..);refine⟨_,k1,?_⟩;have hle:=Ghost.le_setLoc (g:=g) (i:=i) (x:=(b,pos,S)) hi;have h1:RelW (g.setLoc i (b,pos,S)) (.tail (some j)::st) w:=h.evolve (row:=none) hle ⟨rfl,rfl,rfl,Nat.le_refl _,fun _ _ _=>rfl⟩ (fun b hb=>by cases hb) (fun b o v hv=> .inl ⟨hv,by simp⟩) (fun it _ b _=>⟨by simp,fun _=>rfl⟩) (h.fresh_setLoc i _);refine RelW.cons h1.tailOf ⟨b,pos,S,vs,E,Ghost.setLoc_same,k2,k3,k4,k5,k6⟩ (fun b' hb'=> ?_);have:b'=b:=by simp [Item.blk,Item.id?,Ghost.setLoc_same] at hb';exact hb'.symm
  subst this;exact h1.head_notin (by simp [Item.blk,Item.id?,hle.loc _ _ k1])
def Ghost.bump (g:Ghost) (i:Nat):Ghost:={g with next:=max g.next (i+1)}
theorem RelW.bump {g:Ghost} {st:List Item} {w:World} (h:RelW g st w) (i:Nat):RelW (g.bump i) st w:=
  h.evolve (row:=none) ⟨rfl,rfl,fun _ _ _ h=>h,fun _ _ h=>h,Nat.le_max_left _ _⟩ ⟨rfl,rfl,rfl,Nat.le_refl _,fun _ _ _=>rfl⟩ (fun b hb=>by cases hb) (fun b o v hv=> .inl ⟨hv,by simp⟩) (fun it _ b _=>⟨by simp,fun _=>rfl⟩) (fun j hj=>h.fresh j (Nat.le_trans (Nat.le_max_left _ _) hj))
section
variable {P:Program} {σ:Fr} {st:List Item} {i:Nat} {d:Option Tmp} {ty:TypeId} {pos:String} {after:Array Edge} {gd:Option (Nat×Bool)} {w:World}
theorem y_callOwn {c:Operand} {args:Array Operand} {ts:Array TypeId} {fv:AV} {f:FuncId} {caps vs:List AV} {sz:Nat} {xs:List (List AV)} [hf:Fun fv f caps] (hc:Ev σ c fv) (hargs:EvL σ args.toList vs)
  (h:ACalls P f (vs++caps) [] (fun v' st''=> ∃ j,v'= .own sz j xs∧st''=[.tail (some j)])):Yields P ⟨d,.call {callee:= .value c,args:=args,argTypes:=ts},ty,pos,after,gd⟩ σ st i (.own sz i xs) (.tail (some i)::st):=fun F g a w hw hi hs=>by
  obtain⟨us,e,hus⟩:=AV.clo_holds.1 (hf.imp _ _ (hc.holds hs (by simp [Op.operands,Call.operands])));have hv:=hargs.holds hs (fun x hx=>by simp [Op.operands,Call.operands];right;simpa using hx);have hb:=hw.bump i;have hle:g.le (g.bump i):=⟨rfl,rfl,fun _ _ _ h=>h,fun _ _ h=>h,Nat.le_max_left _ _⟩
  refine goes_call (run_call h.1 e) ((h.2 (st++F) (g.bump i) w _ hb ((hv.append hus).mono hle)).mono fun e' w' ⟨u,v',st'',g',he,hx,hw',hv',j,hq,hst⟩=> ?_);subst hq hst;have hi':g'.loc i=none:=(hx.keep i (Nat.lt_of_lt_of_le (Nat.lt_succ_self i) (Nat.le_max_right _ _))).trans hi;obtain⟨x,k1,k2⟩:=RelW.rename (st:=st++F) hw' hi';refine⟨u,he,g'.setLoc i x,?_,k2,?_⟩
  ·have h1:g.to i g':=⟨hle.trans hx.le,fun q hq hne=>hx.keep q (Nat.lt_of_lt_of_le hq (Nat.le_max_left _ _))⟩
   exact h1.trans (Ghost.to_setLoc hi')
  ·obtain⟨b,ps,S,off,cap,l1,l2,l3,l4,l5,l6,l7⟩:=AV.own_holds.1 hv';rw [k1] at l1;cases l1;exact AV.own_holds.2 ⟨b,ps,S,off,cap,Ghost.setLoc_same,l2,l3,l4,l5.mono (Ghost.le_setLoc hi'),l6,l7⟩
theorem y_appendNil {T E sz by_:Nat} {x y:Operand} {av:AV} {xs:List (List AV)} {zs:List Value} [ht:SliceT P T E sz by_] [hz:ZeroT P E zs] [hr:Rd av sz []] (hzl:zs.length=sz)
  (hx:Ev σ x (.full sz xs)) (hy:Ev σ y av) (hb:xs.length≤1073741824):
  Yields P ⟨d,.call {callee:= .builtin .append,args:= #[x,y],argTypes:= #[T,T]},ty,pos,after,gd⟩ σ st i (.full sz xs) st:=fun F g a w hw hi hs=>by
  have:=y_append0 (P:=P) (T:=T) (d:=d) (ty:=ty) (pos:=pos) (after:=after) (gd:=gd) (st:=st) (i:=i) (xs:=xs) (ys:=[]) hzl hx hy (by simpa using hb) F g a w hw hi hs;refine this.mono fun u w' ⟨g',h1,h2,h3⟩=>⟨g',h1,?_,?_⟩
  ·exact h2.tailOf
  ·have h4:(AV.grow sz none (xs++[])).holds g' u:=h3;rw [List.append_nil] at h4;exact h4
theorem y_appendNew {T E sz by_:Nat} {x y:Operand} {av:AV} {xs ys:List (List AV)} {zs:List Value} [ht:SliceT P T E sz by_] [hz:ZeroT P E zs] [hr:Rd av sz ys] (hzl:zs.length=sz)
  (hx:Ev σ x (.full sz xs)) (hy:Ev σ y av) (hne:ys≠[]) (hb:xs.length+ys.length≤1073741824):
  Yields P ⟨d,.call {callee:= .builtin .append,args:= #[x,y],argTypes:= #[T,T]},ty,pos,after,gd⟩ σ st i (.own sz i (xs++ys)) (.tail (some i)::st):=by
  have:=y_append0 (P:=P) (T:=T) (d:=d) (ty:=ty) (pos:=pos) (after:=after) (gd:=gd) (st:=st) (i:=i) (xs:=xs) (ys:=ys) hzl hx hy hb;have he:ys.isEmpty=false:=by cases ys with|nil=>exact absurd rfl hne|cons=>rfl
  rw [he] at this;exact this
end
theorem ACalls.shift {P:Program} {f:FuncId} {args:List AV} {st:List Item} {Q Q':AV→List Item→Prop} (h:ACalls P f args st Q) (hq: ∀ v st',Q v st'→ ∃ v2 st2,VShift v st' v2 st2∧Q' v2 st2):ACalls P f args st Q':=
  ⟨h.1,fun F g w vs hw hv=>(h.2 F g w vs hw hv).mono fun e w' ⟨u,v,st',g',a,b,c,d,q⟩=>by
   obtain⟨v2,st2,hs,hq2⟩:=hq v st' q;obtain⟨g2,x,y,z⟩:=hs F g' u w' c d;exact⟨u,v2,st2,g2,a,b.trans x,y,z,hq2⟩⟩
end Go.Aw
namespace Go.Aw
section
variable {P:Program} {n:Nat} {ops:Array Oper} {rest:List Oper} {σ:Fr} {st:List Item} {op:Op} {ty:TypeId} {pos:String} {after:Array Edge}
variable {K:Fr→List Item→Prop}
theorem sA {d:Nat} {x:Operand} {v:AV} (h:AOps P n ops rest ((d,v)::σ) st K) (hx:evA σ x=some v:=by exact rfl) (hd:Nat.blt d n=true:=by exact rfl) :AOps P n ops (⟨some d,.assign x,ty,pos,after,none⟩::rest) σ st K:=st_p (fun _=>y_assign (.plain hx)) hd h
theorem sM {d:Nat} {x:Operand} {v:AV} (h:AOps P n ops rest ((d,v)::σ) st K) (hx:evA σ x=some v:=by exact rfl) (hd:Nat.blt d n=true:=by exact rfl) :AOps P n ops (⟨some d,.move x,ty,pos,after,none⟩::rest) σ st K:=st_p (fun _=>y_move (.plain hx)) hd h
theorem sF {d:Nat} {T f E off sz j o:Nat} {x:Operand} [FldT P T f E off sz] (h:AOps P n ops rest ((d,(.ptr j (o+off)))::σ) st K) (hx:evA σ x=some (.ptr j o):=by exact rfl) (hd:Nat.blt d n=true:=by exact rfl) :AOps P n ops (⟨some d,.fieldAddr T x f,ty,pos,after,none⟩::rest) σ st K:=st_p (fun _=>y_fieldPtr (.plain hx)) hd h
theorem sL {d:Nat} {T j off:Nat} {x:Operand} {cs:List AV} {sx:List Item} {v:AV} [ScalarT P T] (ht:Take st (.cells j cs) sx) (h:AOps P n ops rest ((d,v)::σ) st K) (hx:evA σ x=some (.ptr j off):=by exact rfl) (hv:cs[off]?=some v:=by exact rfl) (hd:Nat.blt d n=true:=by exact rfl) :AOps P n ops (⟨some d,.load T x,ty,pos,after,none⟩::rest) σ st K:=st_p (fun _=>y_load (.plain hx) ht hv) hd h
theorem sW {d:Nat} {T m j:Nat} {x:Operand} {cs:List AV} {sx:List Item} [AggT P T m] (ht:Take st (.cells j cs) sx) (h:AOps P n ops rest ((d,(.agg cs))::σ) st K) (hx:evA σ x=some (.ptr j 0):=by exact rfl) (hv:cs.length=m:=by exact rfl) (hd:Nat.blt d n=true:=by exact rfl) :AOps P n ops (⟨some d,.load T x,ty,pos,after,none⟩::rest) σ st K:=st_p (fun _=>y_loadW (.plain hx) ht hv) hd h
theorem sV {d:Nat} {T m:Nat} {x:Operand} {cs:List AV} [AggT P T m] (h:AOps P n ops rest ((d,(.agg cs))::σ) st K) (hx:evA σ x=some (.eptr cs):=by exact rfl) (hv:cs.length=m:=by exact rfl) (hd:Nat.blt d n=true:=by exact rfl) :AOps P n ops (⟨some d,.load T x,ty,pos,after,none⟩::rest) σ st K:=st_p (fun _=>y_loadEW (.plain hx) hv) hd h
theorem sU {d:Nat} {T:Nat} {x:Operand} {cs:List AV} {v:AV} [ScalarT P T] (h:AOps P n ops rest ((d,v)::σ) st K) (hx:evA σ x=some (.eptr cs):=by exact rfl) (hv:cs[0]?=some v:=by exact rfl) (hd:Nat.blt d n=true:=by exact rfl) :AOps P n ops (⟨some d,.load T x,ty,pos,after,none⟩::rest) σ st K:=st_p (fun _=>y_loadE (.plain hx) hv) hd h
theorem sE {d:Nat} {x:Operand} {k:Nat} {vs:List AV} {v:AV} (h:AOps P n ops rest ((d,v)::σ) st K) (hx:evA σ x=some (.tup vs):=by exact rfl) (hv:vs[k]?=some v:=by exact rfl) (hd:Nat.blt d n=true:=by exact rfl) :AOps P n ops (⟨some d,.extract x k,ty,pos,after,none⟩::rest) σ st K:=st_p (fun _=>y_extract (.plain hx) hv) hd h
theorem sQ {d:Nat} {T T2:TypeId} {x y:Operand} {k:IntKind} {a b:Int} (h:AOps P n ops rest ((d,(.bool (decide (a=b))))::σ) st K) (hx:evA σ x=some (.val (.int k a)):=by exact rfl) (hy:evA σ y=some (.val (.int k b)):=by exact rfl) (hd:Nat.blt d n=true:=by exact rfl) :AOps P n ops (⟨some d,.binOp .eql T x y T2,ty,pos,after,none⟩::rest) σ st K:=st_p (fun _=>y_eql (.plain hx) (.plain hy)) hd h
theorem sR {d:Nat} {T T2:TypeId} {x y:Operand} {k:IntKind} {a b:Int} (h:AOps P n ops rest ((d,(.bool (!decide (a=b))))::σ) st K) (hx:evA σ x=some (.val (.int k a)):=by exact rfl) (hy:evA σ y=some (.val (.int k b)):=by exact rfl) (hd:Nat.blt d n=true:=by exact rfl) :AOps P n ops (⟨some d,.binOp .neq T x y T2,ty,pos,after,none⟩::rest) σ st K:=st_p (fun _=>y_neq (.plain hx) (.plain hy)) hd h
theorem sS {d:Nat} {T T2:TypeId} {x y:Operand} {k:IntKind} {a b:Int} (h:AOps P n ops rest ((d,(.bool (decide (a<b))))::σ) st K) (hx:evA σ x=some (.val (.int k a)):=by exact rfl) (hy:evA σ y=some (.val (.int k b)):=by exact rfl) (hd:Nat.blt d n=true:=by exact rfl) :AOps P n ops (⟨some d,.binOp .lss T x y T2,ty,pos,after,none⟩::rest) σ st K:=st_p (fun _=>y_lss (.plain hx) (.plain hy)) hd h
theorem sG {d:Nat} {T T2:TypeId} {x y:Operand} {k:IntKind} {a b:Int} (h:AOps P n ops rest ((d,(.bool (decide (b<a))))::σ) st K) (hx:evA σ x=some (.val (.int k a)):=by exact rfl) (hy:evA σ y=some (.val (.int k b)):=by exact rfl) (hd:Nat.blt d n=true:=by exact rfl) :AOps P n ops (⟨some d,.binOp .gtr T x y T2,ty,pos,after,none⟩::rest) σ st K:=st_p (fun _=>y_gtr (.plain hx) (.plain hy)) hd h
theorem sH {d:Nat} {T T2:TypeId} {x y:Operand} {k:IntKind} {a b:Int} (h:AOps P n ops rest ((d,(.bool (decide (a≤b))))::σ) st K) (hx:evA σ x=some (.val (.int k a)):=by exact rfl) (hy:evA σ y=some (.val (.int k b)):=by exact rfl) (hd:Nat.blt d n=true:=by exact rfl) :AOps P n ops (⟨some d,.binOp .leq T x y T2,ty,pos,after,none⟩::rest) σ st K:=st_p (fun _=>y_leq (.plain hx) (.plain hy)) hd h
theorem sY {d:Nat} {T T2:TypeId} {x y:Operand} {a b:Int} (h:AOps P n ops rest ((d,(.int (a+b)))::σ) st K) (hx:evA σ x=some (.int a):=by exact rfl) (hy:evA σ y=some (.int b):=by exact rfl) (hd:Nat.blt d n=true:=by exact rfl) (hb: -9223372036854775808≤a+b∧a+b≤9223372036854775807):AOps P n ops (⟨some d,.binOp .add T x y T2,ty,pos,after,none⟩::rest) σ st K:=st_p (fun _=>y_add (.plain hx) (.plain hy) hb) hd h
theorem sN {d:Nat} {T E sz by_:Nat} {x:Operand} {av:AV} {xs:List (List AV)} {k:Nat} [ht:SliceT P T E sz by_] [hr:Rd av sz xs] [hl:LenOf xs k] (h:AOps P n ops rest ((d,(.int (k:Int)))::σ) st K) (hx:evA σ x=some av:=by exact rfl) (hd:Nat.blt d n=true:=by exact rfl) :AOps P n ops (⟨some d,.call {callee:= .builtin .len,args:= #[x],argTypes:= #[T]},ty,pos,after,none⟩::rest) σ st K:=st_p (fun _=>y_lenN (.plain hx)) hd h
theorem sO {d:Nat} {T:TypeId} {x:Operand} {b:Bool} (h:AOps P n ops rest ((d,(.bool (!b)))::σ) st K) (hx:evA σ x=some (.bool b):=by exact rfl) (hd:Nat.blt d n=true:=by exact rfl) :AOps P n ops (⟨some d,.unOp .not T x,ty,pos,after,none⟩::rest) σ st K:=st_p (fun _=>y_not (.plain hx)) hd h
theorem sZ {d:Nat} {x:Operand} {j off:Nat} (h:AOps P n ops rest ((d,(.ptr j off))::σ) st K) (hx:evA σ x=some (.ptr j off):=by exact rfl) (hd:Nat.blt d n=true:=by exact rfl) :AOps P n ops (⟨some d,.nilCheck x,ty,pos,after,none⟩::rest) σ st K:=st_p (fun _=>y_nilPtr (.plain hx)) hd h
theorem sJ {d:Nat} {z x y:Operand} {b r:Bool} (h:AOps P n ops rest ((d,(.bool (b && r)))::σ) st K) (hx:evA σ z=some (.bool b):=by exact rfl) (h1:evA σ x=some (.opt (b=true) (.bool r)):=by exact rfl) (h2:evA σ y=some (.val (.bool false)):=by exact rfl) (hd:Nat.blt d n=true:=by exact rfl) :AOps P n ops (⟨some d,.pick z x y,ty,pos,after,none⟩::rest) σ st K:=st_p (fun _=>y_and (.plain hx) h1 h2) hd h
theorem sK {d:Nat} {z x y:Operand} {b r:Bool} (h:AOps P n ops rest ((d,(.bool (b||r)))::σ) st K) (hx:evA σ z=some (.bool b):=by exact rfl) (h1:evA σ x=some (.val (.bool true)):=by exact rfl) (h2:evA σ y=some (.opt (b=false) (.bool r)):=by exact rfl) (hd:Nat.blt d n=true:=by exact rfl) :AOps P n ops (⟨some d,.pick z x y,ty,pos,after,none⟩::rest) σ st K:=st_p (fun _=>y_or (.plain hx) h1 h2) hd h
end
section
variable {P:Program} {n:Nat} {ops:Array Oper} {rest:List Oper} {σ:Fr} {st:List Item} {op:Op} {ty:TypeId} {pos:String} {after:Array Edge}
variable {K:Fr→List Item→Prop}
theorem gM {d:Nat} {x:Operand} {v:AV} {j0:Nat} {pol:Bool} {oj:Oper} {t0:Tmp} {gv:AV} {c:Prop} (h:AOps P n ops rest ((d,.opt c v)::σ) st K) (hj:ops[j0]?=some oj:=by exact rfl) (hdj:oj.dst=some t0:=by exact rfl) (hl:look σ t0=some gv:=by exact rfl) (hs:Says gv pol c:=by exact SaysI.out) (hx:evA σ x=some v:=by exact rfl) (hd:Nat.blt d n=true:=by exact rfl) :AOps P n ops (⟨some d,.move x,ty,pos,after,some (j0,pol)⟩::rest) σ st K:=st_g hj hdj hl hs (fun hc _=>y_move (.plain hx)) hd h
theorem gM0 {d:Nat} {x:Operand} {v:AV} {j0:Nat} {pol:Bool} {oj:Oper} {t0:Tmp} {gv:AV} {c:Prop} (h:AOps P n ops rest ((d,.opt c v)::σ) st K) (hj:ops[j0]?=some oj:=by exact rfl) (hdj:oj.dst=some t0:=by exact rfl) (hl:look σ t0=some gv:=by exact rfl) (hs:Says gv pol c:=by exact SaysI.out) (hx:evA σ x=some (.opt c v):=by exact rfl) (hd:Nat.blt d n=true:=by exact rfl) :AOps P n ops (⟨some d,.move x,ty,pos,after,some (j0,pol)⟩::rest) σ st K:=st_g hj hdj hl hs (fun hc _=>y_move (.opt hx hc)) hd h
theorem gF {d:Nat} {T f E off sz j o:Nat} {x:Operand} [FldT P T f E off sz] {j0:Nat} {pol:Bool} {oj:Oper} {t0:Tmp} {gv:AV} {c:Prop} (h:AOps P n ops rest ((d,.opt c (.ptr j (o+off)))::σ) st K) (hj:ops[j0]?=some oj:=by exact rfl) (hdj:oj.dst=some t0:=by exact rfl) (hl:look σ t0=some gv:=by exact rfl) (hs:Says gv pol c:=by exact SaysI.out) (hx:evA σ x=some (.ptr j o):=by exact rfl) (hd:Nat.blt d n=true:=by exact rfl) :AOps P n ops (⟨some d,.fieldAddr T x f,ty,pos,after,some (j0,pol)⟩::rest) σ st K:=st_g hj hdj hl hs (fun hc _=>y_fieldPtr (.plain hx)) hd h
theorem gF0 {d:Nat} {T f E off sz j o:Nat} {x:Operand} [FldT P T f E off sz] {j0:Nat} {pol:Bool} {oj:Oper} {t0:Tmp} {gv:AV} {c:Prop} (h:AOps P n ops rest ((d,.opt c (.ptr j (o+off)))::σ) st K) (hj:ops[j0]?=some oj:=by exact rfl) (hdj:oj.dst=some t0:=by exact rfl) (hl:look σ t0=some gv:=by exact rfl) (hs:Says gv pol c:=by exact SaysI.out) (hx:evA σ x=some (.opt c (.ptr j o)):=by exact rfl) (hd:Nat.blt d n=true:=by exact rfl) :AOps P n ops (⟨some d,.fieldAddr T x f,ty,pos,after,some (j0,pol)⟩::rest) σ st K:=st_g hj hdj hl hs (fun hc _=>y_fieldPtr (.opt hx hc)) hd h
theorem gL {d:Nat} {T j off:Nat} {x:Operand} {cs:List AV} {sx:List Item} {v:AV} [ScalarT P T] {j0:Nat} {pol:Bool} {oj:Oper} {t0:Tmp} {gv:AV} {c:Prop} (ht:Take st (.cells j cs) sx) (h:AOps P n ops rest ((d,.opt c v)::σ) st K) (hj:ops[j0]?=some oj:=by exact rfl) (hdj:oj.dst=some t0:=by exact rfl) (hl:look σ t0=some gv:=by exact rfl) (hs:Says gv pol c:=by exact SaysI.out) (hx:evA σ x=some (.ptr j off):=by exact rfl) (hv:cs[off]?=some v:=by exact rfl) (hd:Nat.blt d n=true:=by exact rfl) :AOps P n ops (⟨some d,.load T x,ty,pos,after,some (j0,pol)⟩::rest) σ st K:=st_g hj hdj hl hs (fun hc _=>y_load (.plain hx) ht hv) hd h
theorem gL0 {d:Nat} {T j off:Nat} {x:Operand} {cs:List AV} {sx:List Item} {v:AV} [ScalarT P T] {j0:Nat} {pol:Bool} {oj:Oper} {t0:Tmp} {gv:AV} {c:Prop} (ht:Take st (.cells j cs) sx) (h:AOps P n ops rest ((d,.opt c v)::σ) st K) (hj:ops[j0]?=some oj:=by exact rfl) (hdj:oj.dst=some t0:=by exact rfl) (hl:look σ t0=some gv:=by exact rfl) (hs:Says gv pol c:=by exact SaysI.out) (hx:evA σ x=some (.opt c (.ptr j off)):=by exact rfl) (hv:cs[off]?=some v:=by exact rfl) (hd:Nat.blt d n=true:=by exact rfl) :AOps P n ops (⟨some d,.load T x,ty,pos,after,some (j0,pol)⟩::rest) σ st K:=st_g hj hdj hl hs (fun hc _=>y_load (.opt hx hc) ht hv) hd h
theorem gW {d:Nat} {T m j:Nat} {x:Operand} {cs:List AV} {sx:List Item} [AggT P T m] {j0:Nat} {pol:Bool} {oj:Oper} {t0:Tmp} {gv:AV} {c:Prop} (ht:Take st (.cells j cs) sx) (h:AOps P n ops rest ((d,.opt c (.agg cs))::σ) st K) (hj:ops[j0]?=some oj:=by exact rfl) (hdj:oj.dst=some t0:=by exact rfl) (hl:look σ t0=some gv:=by exact rfl) (hs:Says gv pol c:=by exact SaysI.out) (hx:evA σ x=some (.ptr j 0):=by exact rfl) (hv:cs.length=m:=by exact rfl) (hd:Nat.blt d n=true:=by exact rfl) :AOps P n ops (⟨some d,.load T x,ty,pos,after,some (j0,pol)⟩::rest) σ st K:=st_g hj hdj hl hs (fun hc _=>y_loadW (.plain hx) ht hv) hd h
theorem gU0 {d:Nat} {T:Nat} {x:Operand} {cs:List AV} {v:AV} [ScalarT P T] {j0:Nat} {pol:Bool} {oj:Oper} {t0:Tmp} {gv:AV} {c:Prop} (h:AOps P n ops rest ((d,.opt c v)::σ) st K) (hj:ops[j0]?=some oj:=by exact rfl) (hdj:oj.dst=some t0:=by exact rfl) (hl:look σ t0=some gv:=by exact rfl) (hs:Says gv pol c:=by exact SaysI.out) (hx:evA σ x=some (.opt c (.eptr cs)):=by exact rfl) (hv:cs[0]?=some v:=by exact rfl) (hd:Nat.blt d n=true:=by exact rfl) :AOps P n ops (⟨some d,.load T x,ty,pos,after,some (j0,pol)⟩::rest) σ st K:=st_g hj hdj hl hs (fun hc _=>y_loadE (.opt hx hc) hv) hd h
theorem gQ0 {d:Nat} {T T2:TypeId} {x y:Operand} {k:IntKind} {a b:Int} {j0:Nat} {pol:Bool} {oj:Oper} {t0:Tmp} {gv:AV} {c:Prop} (h:AOps P n ops rest ((d,.opt c (.bool (decide (a=b))))::σ) st K) (hj:ops[j0]?=some oj:=by exact rfl) (hdj:oj.dst=some t0:=by exact rfl) (hl:look σ t0=some gv:=by exact rfl) (hs:Says gv pol c:=by exact SaysI.out) (hx:evA σ x=some (.opt c (.val (.int k a))):=by exact rfl) (hy:evA σ y=some (.val (.int k b)):=by exact rfl) (hd:Nat.blt d n=true:=by exact rfl) :AOps P n ops (⟨some d,.binOp .eql T x y T2,ty,pos,after,some (j0,pol)⟩::rest) σ st K:=st_g hj hdj hl hs (fun hc _=>y_eql (.opt hx hc) (.plain hy)) hd h
theorem gQ01 {d:Nat} {T T2:TypeId} {x y:Operand} {k:IntKind} {a b:Int} {j0:Nat} {pol:Bool} {oj:Oper} {t0:Tmp} {gv:AV} {c:Prop} (h:AOps P n ops rest ((d,.opt c (.bool (decide (a=b))))::σ) st K) (hj:ops[j0]?=some oj:=by exact rfl) (hdj:oj.dst=some t0:=by exact rfl) (hl:look σ t0=some gv:=by exact rfl) (hs:Says gv pol c:=by exact SaysI.out) (hx:evA σ x=some (.opt c (.val (.int k a))):=by exact rfl) (hy:evA σ y=some (.opt c (.val (.int k b))):=by exact rfl) (hd:Nat.blt d n=true:=by exact rfl) :AOps P n ops (⟨some d,.binOp .eql T x y T2,ty,pos,after,some (j0,pol)⟩::rest) σ st K:=st_g hj hdj hl hs (fun hc _=>y_eql (.opt hx hc) (.opt hy hc)) hd h
theorem gR0 {d:Nat} {T T2:TypeId} {x y:Operand} {k:IntKind} {a b:Int} {j0:Nat} {pol:Bool} {oj:Oper} {t0:Tmp} {gv:AV} {c:Prop} (h:AOps P n ops rest ((d,.opt c (.bool (!decide (a=b))))::σ) st K) (hj:ops[j0]?=some oj:=by exact rfl) (hdj:oj.dst=some t0:=by exact rfl) (hl:look σ t0=some gv:=by exact rfl) (hs:Says gv pol c:=by exact SaysI.out) (hx:evA σ x=some (.opt c (.val (.int k a))):=by exact rfl) (hy:evA σ y=some (.val (.int k b)):=by exact rfl) (hd:Nat.blt d n=true:=by exact rfl) :AOps P n ops (⟨some d,.binOp .neq T x y T2,ty,pos,after,some (j0,pol)⟩::rest) σ st K:=st_g hj hdj hl hs (fun hc _=>y_neq (.opt hx hc) (.plain hy)) hd h
theorem gR01 {d:Nat} {T T2:TypeId} {x y:Operand} {k:IntKind} {a b:Int} {j0:Nat} {pol:Bool} {oj:Oper} {t0:Tmp} {gv:AV} {c:Prop} (h:AOps P n ops rest ((d,.opt c (.bool (!decide (a=b))))::σ) st K) (hj:ops[j0]?=some oj:=by exact rfl) (hdj:oj.dst=some t0:=by exact rfl) (hl:look σ t0=some gv:=by exact rfl) (hs:Says gv pol c:=by exact SaysI.out) (hx:evA σ x=some (.opt c (.val (.int k a))):=by exact rfl) (hy:evA σ y=some (.opt c (.val (.int k b))):=by exact rfl) (hd:Nat.blt d n=true:=by exact rfl) :AOps P n ops (⟨some d,.binOp .neq T x y T2,ty,pos,after,some (j0,pol)⟩::rest) σ st K:=st_g hj hdj hl hs (fun hc _=>y_neq (.opt hx hc) (.opt hy hc)) hd h
theorem gS0 {d:Nat} {T T2:TypeId} {x y:Operand} {k:IntKind} {a b:Int} {j0:Nat} {pol:Bool} {oj:Oper} {t0:Tmp} {gv:AV} {c:Prop} (h:AOps P n ops rest ((d,.opt c (.bool (decide (a<b))))::σ) st K) (hj:ops[j0]?=some oj:=by exact rfl) (hdj:oj.dst=some t0:=by exact rfl) (hl:look σ t0=some gv:=by exact rfl) (hs:Says gv pol c:=by exact SaysI.out) (hx:evA σ x=some (.opt c (.val (.int k a))):=by exact rfl) (hy:evA σ y=some (.val (.int k b)):=by exact rfl) (hd:Nat.blt d n=true:=by exact rfl) :AOps P n ops (⟨some d,.binOp .lss T x y T2,ty,pos,after,some (j0,pol)⟩::rest) σ st K:=st_g hj hdj hl hs (fun hc _=>y_lss (.opt hx hc) (.plain hy)) hd h
theorem gS01 {d:Nat} {T T2:TypeId} {x y:Operand} {k:IntKind} {a b:Int} {j0:Nat} {pol:Bool} {oj:Oper} {t0:Tmp} {gv:AV} {c:Prop} (h:AOps P n ops rest ((d,.opt c (.bool (decide (a<b))))::σ) st K) (hj:ops[j0]?=some oj:=by exact rfl) (hdj:oj.dst=some t0:=by exact rfl) (hl:look σ t0=some gv:=by exact rfl) (hs:Says gv pol c:=by exact SaysI.out) (hx:evA σ x=some (.opt c (.val (.int k a))):=by exact rfl) (hy:evA σ y=some (.opt c (.val (.int k b))):=by exact rfl) (hd:Nat.blt d n=true:=by exact rfl) :AOps P n ops (⟨some d,.binOp .lss T x y T2,ty,pos,after,some (j0,pol)⟩::rest) σ st K:=st_g hj hdj hl hs (fun hc _=>y_lss (.opt hx hc) (.opt hy hc)) hd h
theorem gG0 {d:Nat} {T T2:TypeId} {x y:Operand} {k:IntKind} {a b:Int} {j0:Nat} {pol:Bool} {oj:Oper} {t0:Tmp} {gv:AV} {c:Prop} (h:AOps P n ops rest ((d,.opt c (.bool (decide (b<a))))::σ) st K) (hj:ops[j0]?=some oj:=by exact rfl) (hdj:oj.dst=some t0:=by exact rfl) (hl:look σ t0=some gv:=by exact rfl) (hs:Says gv pol c:=by exact SaysI.out) (hx:evA σ x=some (.opt c (.val (.int k a))):=by exact rfl) (hy:evA σ y=some (.val (.int k b)):=by exact rfl) (hd:Nat.blt d n=true:=by exact rfl) :AOps P n ops (⟨some d,.binOp .gtr T x y T2,ty,pos,after,some (j0,pol)⟩::rest) σ st K:=st_g hj hdj hl hs (fun hc _=>y_gtr (.opt hx hc) (.plain hy)) hd h
theorem gG01 {d:Nat} {T T2:TypeId} {x y:Operand} {k:IntKind} {a b:Int} {j0:Nat} {pol:Bool} {oj:Oper} {t0:Tmp} {gv:AV} {c:Prop} (h:AOps P n ops rest ((d,.opt c (.bool (decide (b<a))))::σ) st K) (hj:ops[j0]?=some oj:=by exact rfl) (hdj:oj.dst=some t0:=by exact rfl) (hl:look σ t0=some gv:=by exact rfl) (hs:Says gv pol c:=by exact SaysI.out) (hx:evA σ x=some (.opt c (.val (.int k a))):=by exact rfl) (hy:evA σ y=some (.opt c (.val (.int k b))):=by exact rfl) (hd:Nat.blt d n=true:=by exact rfl) :AOps P n ops (⟨some d,.binOp .gtr T x y T2,ty,pos,after,some (j0,pol)⟩::rest) σ st K:=st_g hj hdj hl hs (fun hc _=>y_gtr (.opt hx hc) (.opt hy hc)) hd h
theorem gH0 {d:Nat} {T T2:TypeId} {x y:Operand} {k:IntKind} {a b:Int} {j0:Nat} {pol:Bool} {oj:Oper} {t0:Tmp} {gv:AV} {c:Prop} (h:AOps P n ops rest ((d,.opt c (.bool (decide (a≤b))))::σ) st K) (hj:ops[j0]?=some oj:=by exact rfl) (hdj:oj.dst=some t0:=by exact rfl) (hl:look σ t0=some gv:=by exact rfl) (hs:Says gv pol c:=by exact SaysI.out) (hx:evA σ x=some (.opt c (.val (.int k a))):=by exact rfl) (hy:evA σ y=some (.val (.int k b)):=by exact rfl) (hd:Nat.blt d n=true:=by exact rfl) :AOps P n ops (⟨some d,.binOp .leq T x y T2,ty,pos,after,some (j0,pol)⟩::rest) σ st K:=st_g hj hdj hl hs (fun hc _=>y_leq (.opt hx hc) (.plain hy)) hd h
theorem gH01 {d:Nat} {T T2:TypeId} {x y:Operand} {k:IntKind} {a b:Int} {j0:Nat} {pol:Bool} {oj:Oper} {t0:Tmp} {gv:AV} {c:Prop} (h:AOps P n ops rest ((d,.opt c (.bool (decide (a≤b))))::σ) st K) (hj:ops[j0]?=some oj:=by exact rfl) (hdj:oj.dst=some t0:=by exact rfl) (hl:look σ t0=some gv:=by exact rfl) (hs:Says gv pol c:=by exact SaysI.out) (hx:evA σ x=some (.opt c (.val (.int k a))):=by exact rfl) (hy:evA σ y=some (.opt c (.val (.int k b))):=by exact rfl) (hd:Nat.blt d n=true:=by exact rfl) :AOps P n ops (⟨some d,.binOp .leq T x y T2,ty,pos,after,some (j0,pol)⟩::rest) σ st K:=st_g hj hdj hl hs (fun hc _=>y_leq (.opt hx hc) (.opt hy hc)) hd h
theorem gN0 {d:Nat} {T E sz by_:Nat} {x:Operand} {av:AV} {xs:List (List AV)} {k:Nat} [ht:SliceT P T E sz by_] [hr:Rd av sz xs] [hl:LenOf xs k] {j0:Nat} {pol:Bool} {oj:Oper} {t0:Tmp} {gv:AV} {c:Prop} (h:AOps P n ops rest ((d,.opt c (.int (k:Int)))::σ) st K) (hj:ops[j0]?=some oj:=by exact rfl) (hdj:oj.dst=some t0:=by exact rfl) (hl:look σ t0=some gv:=by exact rfl) (hs:Says gv pol c:=by exact SaysI.out) (hx:evA σ x=some (.opt c av):=by exact rfl) (hd:Nat.blt d n=true:=by exact rfl) :AOps P n ops (⟨some d,.call {callee:= .builtin .len,args:= #[x],argTypes:= #[T]},ty,pos,after,some (j0,pol)⟩::rest) σ st K:=st_g hj hdj hl hs (fun hc _=>y_lenN (.opt hx hc)) hd h
theorem gO0 {d:Nat} {T:TypeId} {x:Operand} {b:Bool} {j0:Nat} {pol:Bool} {oj:Oper} {t0:Tmp} {gv:AV} {c:Prop} (h:AOps P n ops rest ((d,.opt c (.bool (!b)))::σ) st K) (hj:ops[j0]?=some oj:=by exact rfl) (hdj:oj.dst=some t0:=by exact rfl) (hl:look σ t0=some gv:=by exact rfl) (hs:Says gv pol c:=by exact SaysI.out) (hx:evA σ x=some (.opt c (.bool b)):=by exact rfl) (hd:Nat.blt d n=true:=by exact rfl) :AOps P n ops (⟨some d,.unOp .not T x,ty,pos,after,some (j0,pol)⟩::rest) σ st K:=st_g hj hdj hl hs (fun hc _=>y_not (.opt hx hc)) hd h
theorem gZ0 {d:Nat} {x:Operand} {j off:Nat} {j0:Nat} {pol:Bool} {oj:Oper} {t0:Tmp} {gv:AV} {c:Prop} (h:AOps P n ops rest ((d,.opt c (.ptr j off))::σ) st K) (hj:ops[j0]?=some oj:=by exact rfl) (hdj:oj.dst=some t0:=by exact rfl) (hl:look σ t0=some gv:=by exact rfl) (hs:Says gv pol c:=by exact SaysI.out) (hx:evA σ x=some (.opt c (.ptr j off)):=by exact rfl) (hd:Nat.blt d n=true:=by exact rfl) :AOps P n ops (⟨some d,.nilCheck x,ty,pos,after,some (j0,pol)⟩::rest) σ st K:=st_g hj hdj hl hs (fun hc _=>y_nilPtr (.opt hx hc)) hd h
end
section
variable {P:Program} {n:Nat} {ops:Array Oper} {rest:List Oper} {σ:Fr} {st:List Item} {op:Op} {ty:TypeId} {pos:String} {after:Array Edge}
variable {K:Nat} {A:List Item} {Q:Fr→List Item→Prop} {i:Nat} {ks:List Kd}
theorem rA {d:Nat} {x:Operand} {v:AV} (h:Drv P n ops K A Q (i+1) rest ks ((d,v)::σ) st) (hx:evA σ x=some v:=by exact rfl) (hd:Nat.blt d n=true:=by exact rfl) :Drv P n ops K A Q i (⟨some d,.assign x,ty,pos,after,none⟩::rest) (.free::ks) σ st:=dr_p (fun _=>y_assign (.plain hx)) hd h
theorem rM {d:Nat} {x:Operand} {v:AV} (h:Drv P n ops K A Q (i+1) rest ks ((d,v)::σ) st) (hx:evA σ x=some v:=by exact rfl) (hd:Nat.blt d n=true:=by exact rfl) :Drv P n ops K A Q i (⟨some d,.move x,ty,pos,after,none⟩::rest) (.free::ks) σ st:=dr_p (fun _=>y_move (.plain hx)) hd h
theorem rF {d:Nat} {T f E off sz j o:Nat} {x:Operand} [FldT P T f E off sz] (h:Drv P n ops K A Q (i+1) rest ks ((d,(.ptr j (o+off)))::σ) st) (hx:evA σ x=some (.ptr j o):=by exact rfl) (hd:Nat.blt d n=true:=by exact rfl) :Drv P n ops K A Q i (⟨some d,.fieldAddr T x f,ty,pos,after,none⟩::rest) (.free::ks) σ st:=dr_p (fun _=>y_fieldPtr (.plain hx)) hd h
theorem rL {d:Nat} {T j off:Nat} {x:Operand} {cs:List AV} {sx:List Item} {v:AV} [ScalarT P T] (ht:Take A (.cells j cs) sx) (h:Drv P n ops K A Q (i+1) rest ks ((d,v)::σ) st) (hx:evA σ x=some (.ptr j off):=by exact rfl) (hv:cs[off]?=some v:=by exact rfl) (hd:Nat.blt d n=true:=by exact rfl) :Drv P n ops K A Q i (⟨some d,.load T x,ty,pos,after,none⟩::rest) (.free::ks) σ st:=dr_p (fun _=>y_load (.plain hx) ht hv) hd h
theorem rW {d:Nat} {T m j:Nat} {x:Operand} {cs:List AV} {sx:List Item} [AggT P T m] (ht:Take A (.cells j cs) sx) (h:Drv P n ops K A Q (i+1) rest ks ((d,(.agg cs))::σ) st) (hx:evA σ x=some (.ptr j 0):=by exact rfl) (hv:cs.length=m:=by exact rfl) (hd:Nat.blt d n=true:=by exact rfl) :Drv P n ops K A Q i (⟨some d,.load T x,ty,pos,after,none⟩::rest) (.free::ks) σ st:=dr_p (fun _=>y_loadW (.plain hx) ht hv) hd h
theorem rV {d:Nat} {T m:Nat} {x:Operand} {cs:List AV} [AggT P T m] (h:Drv P n ops K A Q (i+1) rest ks ((d,(.agg cs))::σ) st) (hx:evA σ x=some (.eptr cs):=by exact rfl) (hv:cs.length=m:=by exact rfl) (hd:Nat.blt d n=true:=by exact rfl) :Drv P n ops K A Q i (⟨some d,.load T x,ty,pos,after,none⟩::rest) (.free::ks) σ st:=dr_p (fun _=>y_loadEW (.plain hx) hv) hd h
theorem rU {d:Nat} {T:Nat} {x:Operand} {cs:List AV} {v:AV} [ScalarT P T] (h:Drv P n ops K A Q (i+1) rest ks ((d,v)::σ) st) (hx:evA σ x=some (.eptr cs):=by exact rfl) (hv:cs[0]?=some v:=by exact rfl) (hd:Nat.blt d n=true:=by exact rfl) :Drv P n ops K A Q i (⟨some d,.load T x,ty,pos,after,none⟩::rest) (.free::ks) σ st:=dr_p (fun _=>y_loadE (.plain hx) hv) hd h
theorem rE {d:Nat} {x:Operand} {k:Nat} {vs:List AV} {v:AV} (h:Drv P n ops K A Q (i+1) rest ks ((d,v)::σ) st) (hx:evA σ x=some (.tup vs):=by exact rfl) (hv:vs[k]?=some v:=by exact rfl) (hd:Nat.blt d n=true:=by exact rfl) :Drv P n ops K A Q i (⟨some d,.extract x k,ty,pos,after,none⟩::rest) (.free::ks) σ st:=dr_p (fun _=>y_extract (.plain hx) hv) hd h
theorem rQ {d:Nat} {T T2:TypeId} {x y:Operand} {k:IntKind} {a b:Int} (h:Drv P n ops K A Q (i+1) rest ks ((d,(.bool (decide (a=b))))::σ) st) (hx:evA σ x=some (.val (.int k a)):=by exact rfl) (hy:evA σ y=some (.val (.int k b)):=by exact rfl) (hd:Nat.blt d n=true:=by exact rfl) :Drv P n ops K A Q i (⟨some d,.binOp .eql T x y T2,ty,pos,after,none⟩::rest) (.free::ks) σ st:=dr_p (fun _=>y_eql (.plain hx) (.plain hy)) hd h
theorem rR {d:Nat} {T T2:TypeId} {x y:Operand} {k:IntKind} {a b:Int} (h:Drv P n ops K A Q (i+1) rest ks ((d,(.bool (!decide (a=b))))::σ) st) (hx:evA σ x=some (.val (.int k a)):=by exact rfl) (hy:evA σ y=some (.val (.int k b)):=by exact rfl) (hd:Nat.blt d n=true:=by exact rfl) :Drv P n ops K A Q i (⟨some d,.binOp .neq T x y T2,ty,pos,after,none⟩::rest) (.free::ks) σ st:=dr_p (fun _=>y_neq (.plain hx) (.plain hy)) hd h
theorem rS {d:Nat} {T T2:TypeId} {x y:Operand} {k:IntKind} {a b:Int} (h:Drv P n ops K A Q (i+1) rest ks ((d,(.bool (decide (a<b))))::σ) st) (hx:evA σ x=some (.val (.int k a)):=by exact rfl) (hy:evA σ y=some (.val (.int k b)):=by exact rfl) (hd:Nat.blt d n=true:=by exact rfl) :Drv P n ops K A Q i (⟨some d,.binOp .lss T x y T2,ty,pos,after,none⟩::rest) (.free::ks) σ st:=dr_p (fun _=>y_lss (.plain hx) (.plain hy)) hd h
theorem rG {d:Nat} {T T2:TypeId} {x y:Operand} {k:IntKind} {a b:Int} (h:Drv P n ops K A Q (i+1) rest ks ((d,(.bool (decide (b<a))))::σ) st) (hx:evA σ x=some (.val (.int k a)):=by exact rfl) (hy:evA σ y=some (.val (.int k b)):=by exact rfl) (hd:Nat.blt d n=true:=by exact rfl) :Drv P n ops K A Q i (⟨some d,.binOp .gtr T x y T2,ty,pos,after,none⟩::rest) (.free::ks) σ st:=dr_p (fun _=>y_gtr (.plain hx) (.plain hy)) hd h
theorem rY {d:Nat} {T T2:TypeId} {x y:Operand} {a b:Int} (h:Drv P n ops K A Q (i+1) rest ks ((d,(.int (a+b)))::σ) st) (hx:evA σ x=some (.int a):=by exact rfl) (hy:evA σ y=some (.int b):=by exact rfl) (hd:Nat.blt d n=true:=by exact rfl) (hb: -9223372036854775808≤a+b∧a+b≤9223372036854775807):Drv P n ops K A Q i (⟨some d,.binOp .add T x y T2,ty,pos,after,none⟩::rest) (.free::ks) σ st:=dr_p (fun _=>y_add (.plain hx) (.plain hy) hb) hd h
theorem rN {d:Nat} {T E sz by_:Nat} {x:Operand} {av:AV} {xs:List (List AV)} {k:Nat} [ht:SliceT P T E sz by_] [hr:Rd av sz xs] [hl:LenOf xs k] (h:Drv P n ops K A Q (i+1) rest ks ((d,(.int (k:Int)))::σ) st) (hx:evA σ x=some av:=by exact rfl) (hd:Nat.blt d n=true:=by exact rfl) :Drv P n ops K A Q i (⟨some d,.call {callee:= .builtin .len,args:= #[x],argTypes:= #[T]},ty,pos,after,none⟩::rest) (.free::ks) σ st:=dr_p (fun _=>y_lenN (.plain hx)) hd h
theorem rO {d:Nat} {T:TypeId} {x:Operand} {b:Bool} (h:Drv P n ops K A Q (i+1) rest ks ((d,(.bool (!b)))::σ) st) (hx:evA σ x=some (.bool b):=by exact rfl) (hd:Nat.blt d n=true:=by exact rfl) :Drv P n ops K A Q i (⟨some d,.unOp .not T x,ty,pos,after,none⟩::rest) (.free::ks) σ st:=dr_p (fun _=>y_not (.plain hx)) hd h
theorem rZ {d:Nat} {x:Operand} {j off:Nat} (h:Drv P n ops K A Q (i+1) rest ks ((d,(.ptr j off))::σ) st) (hx:evA σ x=some (.ptr j off):=by exact rfl) (hd:Nat.blt d n=true:=by exact rfl) :Drv P n ops K A Q i (⟨some d,.nilCheck x,ty,pos,after,none⟩::rest) (.free::ks) σ st:=dr_p (fun _=>y_nilPtr (.plain hx)) hd h
theorem rJ {d:Nat} {z x y:Operand} {b r:Bool} (h:Drv P n ops K A Q (i+1) rest ks ((d,(.bool (b && r)))::σ) st) (hx:evA σ z=some (.bool b):=by exact rfl) (h1:evA σ x=some (.opt (b=true) (.bool r)):=by exact rfl) (h2:evA σ y=some (.val (.bool false)):=by exact rfl) (hd:Nat.blt d n=true:=by exact rfl) :Drv P n ops K A Q i (⟨some d,.pick z x y,ty,pos,after,none⟩::rest) (.free::ks) σ st:=dr_p (fun _=>y_and (.plain hx) h1 h2) hd h
theorem rK {d:Nat} {z x y:Operand} {b r:Bool} (h:Drv P n ops K A Q (i+1) rest ks ((d,(.bool (b||r)))::σ) st) (hx:evA σ z=some (.bool b):=by exact rfl) (h1:evA σ x=some (.val (.bool true)):=by exact rfl) (h2:evA σ y=some (.opt (b=false) (.bool r)):=by exact rfl) (hd:Nat.blt d n=true:=by exact rfl) :Drv P n ops K A Q i (⟨some d,.pick z x y,ty,pos,after,none⟩::rest) (.free::ks) σ st:=dr_p (fun _=>y_or (.plain hx) h1 h2) hd h
end
section
variable {P:Program} {n:Nat} {ops:Array Oper} {rest:List Oper} {σ:Fr} {st:List Item} {op:Op} {ty:TypeId} {pos:String} {after:Array Edge}
variable {K:Nat} {A:List Item} {Q:Fr→List Item→Prop} {i:Nat} {ks:List Kd}
theorem qM {d:Nat} {x:Operand} {v:AV} {j0:Nat} {pol:Bool} {oj:Oper} {t0:Tmp} {gv:AV} {c:Prop} (h:Drv P n ops K A Q (i+1) rest ks ((d,.opt c v)::σ) st) (hj:ops[j0]?=some oj:=by exact rfl) (hdj:oj.dst=some t0:=by exact rfl) (hl:look σ t0=some gv:=by exact rfl) (hs:Says gv pol c:=by exact SaysI.out) (hx:evA σ x=some v:=by exact rfl) (hd:Nat.blt d n=true:=by exact rfl) :Drv P n ops K A Q i (⟨some d,.move x,ty,pos,after,some (j0,pol)⟩::rest) (.free::ks) σ st:=dr_g hj hdj hl hs (fun hc _=>y_move (.plain hx)) hd h
theorem qM0 {d:Nat} {x:Operand} {v:AV} {j0:Nat} {pol:Bool} {oj:Oper} {t0:Tmp} {gv:AV} {c:Prop} (h:Drv P n ops K A Q (i+1) rest ks ((d,.opt c v)::σ) st) (hj:ops[j0]?=some oj:=by exact rfl) (hdj:oj.dst=some t0:=by exact rfl) (hl:look σ t0=some gv:=by exact rfl) (hs:Says gv pol c:=by exact SaysI.out) (hx:evA σ x=some (.opt c v):=by exact rfl) (hd:Nat.blt d n=true:=by exact rfl) :Drv P n ops K A Q i (⟨some d,.move x,ty,pos,after,some (j0,pol)⟩::rest) (.free::ks) σ st:=dr_g hj hdj hl hs (fun hc _=>y_move (.opt hx hc)) hd h
theorem qF {d:Nat} {T f E off sz j o:Nat} {x:Operand} [FldT P T f E off sz] {j0:Nat} {pol:Bool} {oj:Oper} {t0:Tmp} {gv:AV} {c:Prop} (h:Drv P n ops K A Q (i+1) rest ks ((d,.opt c (.ptr j (o+off)))::σ) st) (hj:ops[j0]?=some oj:=by exact rfl) (hdj:oj.dst=some t0:=by exact rfl) (hl:look σ t0=some gv:=by exact rfl) (hs:Says gv pol c:=by exact SaysI.out) (hx:evA σ x=some (.ptr j o):=by exact rfl) (hd:Nat.blt d n=true:=by exact rfl) :Drv P n ops K A Q i (⟨some d,.fieldAddr T x f,ty,pos,after,some (j0,pol)⟩::rest) (.free::ks) σ st:=dr_g hj hdj hl hs (fun hc _=>y_fieldPtr (.plain hx)) hd h
theorem qL0 {d:Nat} {T j off:Nat} {x:Operand} {cs:List AV} {sx:List Item} {v:AV} [ScalarT P T] {j0:Nat} {pol:Bool} {oj:Oper} {t0:Tmp} {gv:AV} {c:Prop} (ht:Take A (.cells j cs) sx) (h:Drv P n ops K A Q (i+1) rest ks ((d,.opt c v)::σ) st) (hj:ops[j0]?=some oj:=by exact rfl) (hdj:oj.dst=some t0:=by exact rfl) (hl:look σ t0=some gv:=by exact rfl) (hs:Says gv pol c:=by exact SaysI.out) (hx:evA σ x=some (.opt c (.ptr j off)):=by exact rfl) (hv:cs[off]?=some v:=by exact rfl) (hd:Nat.blt d n=true:=by exact rfl) :Drv P n ops K A Q i (⟨some d,.load T x,ty,pos,after,some (j0,pol)⟩::rest) (.free::ks) σ st:=dr_g hj hdj hl hs (fun hc _=>y_load (.opt hx hc) ht hv) hd h
theorem qW {d:Nat} {T m j:Nat} {x:Operand} {cs:List AV} {sx:List Item} [AggT P T m] {j0:Nat} {pol:Bool} {oj:Oper} {t0:Tmp} {gv:AV} {c:Prop} (ht:Take A (.cells j cs) sx) (h:Drv P n ops K A Q (i+1) rest ks ((d,.opt c (.agg cs))::σ) st) (hj:ops[j0]?=some oj:=by exact rfl) (hdj:oj.dst=some t0:=by exact rfl) (hl:look σ t0=some gv:=by exact rfl) (hs:Says gv pol c:=by exact SaysI.out) (hx:evA σ x=some (.ptr j 0):=by exact rfl) (hv:cs.length=m:=by exact rfl) (hd:Nat.blt d n=true:=by exact rfl) :Drv P n ops K A Q i (⟨some d,.load T x,ty,pos,after,some (j0,pol)⟩::rest) (.free::ks) σ st:=dr_g hj hdj hl hs (fun hc _=>y_loadW (.plain hx) ht hv) hd h
theorem qV0 {d:Nat} {T m:Nat} {x:Operand} {cs:List AV} [AggT P T m] {j0:Nat} {pol:Bool} {oj:Oper} {t0:Tmp} {gv:AV} {c:Prop} (h:Drv P n ops K A Q (i+1) rest ks ((d,.opt c (.agg cs))::σ) st) (hj:ops[j0]?=some oj:=by exact rfl) (hdj:oj.dst=some t0:=by exact rfl) (hl:look σ t0=some gv:=by exact rfl) (hs:Says gv pol c:=by exact SaysI.out) (hx:evA σ x=some (.opt c (.eptr cs)):=by exact rfl) (hv:cs.length=m:=by exact rfl) (hd:Nat.blt d n=true:=by exact rfl) :Drv P n ops K A Q i (⟨some d,.load T x,ty,pos,after,some (j0,pol)⟩::rest) (.free::ks) σ st:=dr_g hj hdj hl hs (fun hc _=>y_loadEW (.opt hx hc) hv) hd h
theorem qU0 {d:Nat} {T:Nat} {x:Operand} {cs:List AV} {v:AV} [ScalarT P T] {j0:Nat} {pol:Bool} {oj:Oper} {t0:Tmp} {gv:AV} {c:Prop} (h:Drv P n ops K A Q (i+1) rest ks ((d,.opt c v)::σ) st) (hj:ops[j0]?=some oj:=by exact rfl) (hdj:oj.dst=some t0:=by exact rfl) (hl:look σ t0=some gv:=by exact rfl) (hs:Says gv pol c:=by exact SaysI.out) (hx:evA σ x=some (.opt c (.eptr cs)):=by exact rfl) (hv:cs[0]?=some v:=by exact rfl) (hd:Nat.blt d n=true:=by exact rfl) :Drv P n ops K A Q i (⟨some d,.load T x,ty,pos,after,some (j0,pol)⟩::rest) (.free::ks) σ st:=dr_g hj hdj hl hs (fun hc _=>y_loadE (.opt hx hc) hv) hd h
theorem qR0 {d:Nat} {T T2:TypeId} {x y:Operand} {k:IntKind} {a b:Int} {j0:Nat} {pol:Bool} {oj:Oper} {t0:Tmp} {gv:AV} {c:Prop} (h:Drv P n ops K A Q (i+1) rest ks ((d,.opt c (.bool (!decide (a=b))))::σ) st) (hj:ops[j0]?=some oj:=by exact rfl) (hdj:oj.dst=some t0:=by exact rfl) (hl:look σ t0=some gv:=by exact rfl) (hs:Says gv pol c:=by exact SaysI.out) (hx:evA σ x=some (.opt c (.val (.int k a))):=by exact rfl) (hy:evA σ y=some (.val (.int k b)):=by exact rfl) (hd:Nat.blt d n=true:=by exact rfl) :Drv P n ops K A Q i (⟨some d,.binOp .neq T x y T2,ty,pos,after,some (j0,pol)⟩::rest) (.free::ks) σ st:=dr_g hj hdj hl hs (fun hc _=>y_neq (.opt hx hc) (.plain hy)) hd h
theorem qR01 {d:Nat} {T T2:TypeId} {x y:Operand} {k:IntKind} {a b:Int} {j0:Nat} {pol:Bool} {oj:Oper} {t0:Tmp} {gv:AV} {c:Prop} (h:Drv P n ops K A Q (i+1) rest ks ((d,.opt c (.bool (!decide (a=b))))::σ) st) (hj:ops[j0]?=some oj:=by exact rfl) (hdj:oj.dst=some t0:=by exact rfl) (hl:look σ t0=some gv:=by exact rfl) (hs:Says gv pol c:=by exact SaysI.out) (hx:evA σ x=some (.opt c (.val (.int k a))):=by exact rfl) (hy:evA σ y=some (.opt c (.val (.int k b))):=by exact rfl) (hd:Nat.blt d n=true:=by exact rfl) :Drv P n ops K A Q i (⟨some d,.binOp .neq T x y T2,ty,pos,after,some (j0,pol)⟩::rest) (.free::ks) σ st:=dr_g hj hdj hl hs (fun hc _=>y_neq (.opt hx hc) (.opt hy hc)) hd h
theorem qS01 {d:Nat} {T T2:TypeId} {x y:Operand} {k:IntKind} {a b:Int} {j0:Nat} {pol:Bool} {oj:Oper} {t0:Tmp} {gv:AV} {c:Prop} (h:Drv P n ops K A Q (i+1) rest ks ((d,.opt c (.bool (decide (a<b))))::σ) st) (hj:ops[j0]?=some oj:=by exact rfl) (hdj:oj.dst=some t0:=by exact rfl) (hl:look σ t0=some gv:=by exact rfl) (hs:Says gv pol c:=by exact SaysI.out) (hx:evA σ x=some (.opt c (.val (.int k a))):=by exact rfl) (hy:evA σ y=some (.opt c (.val (.int k b))):=by exact rfl) (hd:Nat.blt d n=true:=by exact rfl) :Drv P n ops K A Q i (⟨some d,.binOp .lss T x y T2,ty,pos,after,some (j0,pol)⟩::rest) (.free::ks) σ st:=dr_g hj hdj hl hs (fun hc _=>y_lss (.opt hx hc) (.opt hy hc)) hd h
theorem qG0 {d:Nat} {T T2:TypeId} {x y:Operand} {k:IntKind} {a b:Int} {j0:Nat} {pol:Bool} {oj:Oper} {t0:Tmp} {gv:AV} {c:Prop} (h:Drv P n ops K A Q (i+1) rest ks ((d,.opt c (.bool (decide (b<a))))::σ) st) (hj:ops[j0]?=some oj:=by exact rfl) (hdj:oj.dst=some t0:=by exact rfl) (hl:look σ t0=some gv:=by exact rfl) (hs:Says gv pol c:=by exact SaysI.out) (hx:evA σ x=some (.opt c (.val (.int k a))):=by exact rfl) (hy:evA σ y=some (.val (.int k b)):=by exact rfl) (hd:Nat.blt d n=true:=by exact rfl) :Drv P n ops K A Q i (⟨some d,.binOp .gtr T x y T2,ty,pos,after,some (j0,pol)⟩::rest) (.free::ks) σ st:=dr_g hj hdj hl hs (fun hc _=>y_gtr (.opt hx hc) (.plain hy)) hd h
theorem qG01 {d:Nat} {T T2:TypeId} {x y:Operand} {k:IntKind} {a b:Int} {j0:Nat} {pol:Bool} {oj:Oper} {t0:Tmp} {gv:AV} {c:Prop} (h:Drv P n ops K A Q (i+1) rest ks ((d,.opt c (.bool (decide (b<a))))::σ) st) (hj:ops[j0]?=some oj:=by exact rfl) (hdj:oj.dst=some t0:=by exact rfl) (hl:look σ t0=some gv:=by exact rfl) (hs:Says gv pol c:=by exact SaysI.out) (hx:evA σ x=some (.opt c (.val (.int k a))):=by exact rfl) (hy:evA σ y=some (.opt c (.val (.int k b))):=by exact rfl) (hd:Nat.blt d n=true:=by exact rfl) :Drv P n ops K A Q i (⟨some d,.binOp .gtr T x y T2,ty,pos,after,some (j0,pol)⟩::rest) (.free::ks) σ st:=dr_g hj hdj hl hs (fun hc _=>y_gtr (.opt hx hc) (.opt hy hc)) hd h
theorem qH01 {d:Nat} {T T2:TypeId} {x y:Operand} {k:IntKind} {a b:Int} {j0:Nat} {pol:Bool} {oj:Oper} {t0:Tmp} {gv:AV} {c:Prop} (h:Drv P n ops K A Q (i+1) rest ks ((d,.opt c (.bool (decide (a≤b))))::σ) st) (hj:ops[j0]?=some oj:=by exact rfl) (hdj:oj.dst=some t0:=by exact rfl) (hl:look σ t0=some gv:=by exact rfl) (hs:Says gv pol c:=by exact SaysI.out) (hx:evA σ x=some (.opt c (.val (.int k a))):=by exact rfl) (hy:evA σ y=some (.opt c (.val (.int k b))):=by exact rfl) (hd:Nat.blt d n=true:=by exact rfl) :Drv P n ops K A Q i (⟨some d,.binOp .leq T x y T2,ty,pos,after,some (j0,pol)⟩::rest) (.free::ks) σ st:=dr_g hj hdj hl hs (fun hc _=>y_leq (.opt hx hc) (.opt hy hc)) hd h
theorem qN0 {d:Nat} {T E sz by_:Nat} {x:Operand} {av:AV} {xs:List (List AV)} {k:Nat} [ht:SliceT P T E sz by_] [hr:Rd av sz xs] [hl:LenOf xs k] {j0:Nat} {pol:Bool} {oj:Oper} {t0:Tmp} {gv:AV} {c:Prop} (h:Drv P n ops K A Q (i+1) rest ks ((d,.opt c (.int (k:Int)))::σ) st) (hj:ops[j0]?=some oj:=by exact rfl) (hdj:oj.dst=some t0:=by exact rfl) (hl:look σ t0=some gv:=by exact rfl) (hs:Says gv pol c:=by exact SaysI.out) (hx:evA σ x=some (.opt c av):=by exact rfl) (hd:Nat.blt d n=true:=by exact rfl) :Drv P n ops K A Q i (⟨some d,.call {callee:= .builtin .len,args:= #[x],argTypes:= #[T]},ty,pos,after,some (j0,pol)⟩::rest) (.free::ks) σ st:=dr_g hj hdj hl hs (fun hc _=>y_lenN (.opt hx hc)) hd h
theorem qO0 {d:Nat} {T:TypeId} {x:Operand} {b:Bool} {j0:Nat} {pol:Bool} {oj:Oper} {t0:Tmp} {gv:AV} {c:Prop} (h:Drv P n ops K A Q (i+1) rest ks ((d,.opt c (.bool (!b)))::σ) st) (hj:ops[j0]?=some oj:=by exact rfl) (hdj:oj.dst=some t0:=by exact rfl) (hl:look σ t0=some gv:=by exact rfl) (hs:Says gv pol c:=by exact SaysI.out) (hx:evA σ x=some (.opt c (.bool b)):=by exact rfl) (hd:Nat.blt d n=true:=by exact rfl) :Drv P n ops K A Q i (⟨some d,.unOp .not T x,ty,pos,after,some (j0,pol)⟩::rest) (.free::ks) σ st:=dr_g hj hdj hl hs (fun hc _=>y_not (.opt hx hc)) hd h
end
section
variable {P:Program} {n:Nat} {σ:Fr} {st:List Item} {K:Fr→List Item→Prop} {Q:Exit→Fr→List Item→Prop} {ops:Array Oper} {rest:List Oper} {ty:TypeId} {pos:String} {after:Array Edge}
theorem asr {id:Nat} {l:List Oper} {y:Code} (h:AOps P n l.toArray l σ st (fun σ' st'=>AWP P n y σ' st' Q)):AWP P n (.seq (.region id l.toArray false) y) σ st Q:=awp_seq (awp_region h)
theorem sB {d T:Nat} {x:Operand} {v:AV} {cs:List AV} [hc:Cells v cs] (h: ∀ i,AOps P n ops rest ((d,.ptr i 0)::σ) (.cells i cs::st) K) (hx:evA σ x=some v:=by exact rfl) (hd:Nat.blt d n=true:=by exact rfl):AOps P n ops (⟨some d,.box T x,ty,pos,after,none⟩::rest) σ st K:=st_n (fun _=>y_box (.plain hx)) hd h
theorem sC {d T:Nat} {zs:List Value} [hz:ZeroT P T zs] (h: ∀ i,AOps P n ops rest ((d,.ptr i 0)::σ) (.cells i (zs.map .val)::st) K) (hd:Nat.blt d n=true:=by exact rfl):AOps P n ops (⟨some d,.alloc T,ty,pos,after,none⟩::rest) σ st K:=st_n (fun _=>y_alloc) hd h
end
theorem nf:(∀ (p:Prop) [Decidable p],(decide p=true)=p)∧(∀ (p:Prop) [Decidable p],decide p=false↔ ¬p)∧(∀ b:Bool,((!b)=true)=(b=false))∧(∀ b:Bool,((!b)=false)=(b=true))∧(∀ b:Bool,(¬b=true)=(b=false))∧(∀ b:Bool,(¬b=false)=(b=true))∧(∀ (α β:Type) (f:α→β) (l:List α),(l.map f).length=l.length)∧(∀ a b:Nat,(a:Int)<b↔a<b)∧(∀ a b:Nat,(a:Int)≤b↔a≤b)∧(∀ a b:Bool,((a||b)=true)=(a=true∨b=true))∧(∀ a b:Bool,((a && b)=true)=(a=true∧b=true))∧(∀ a b:Bool,(a||b)=false↔a=false∧b=false)∧(∀ a b:Bool,(a && b)=false↔a=false∨b=false):=
  ⟨fun p _=>decide_eq_true_eq,fun p _=>decide_eq_false_iff_not,fun b=>by simp,fun b=>by simp,fun b=>by simp,fun b=>by simp,fun _ _ f l=>List.length_map ..,fun _ _=>Int.ofNat_lt,fun _ _=>Int.ofNat_le,fun a b=>Bool.or_eq_true a b,fun a b=>Bool.and_eq_true a b,fun a b=>Bool.or_eq_false_iff,fun a b=>Bool.and_eq_false_iff⟩
end Go.Aw
namespace Go.Proofs
open Go.Aw
instance :ScalarT Tryz.prog 3:=⟨by kernel_rfl,by kernel_rfl⟩
instance :ZeroT Tryz.prog 3 [.int .i64 0]:=⟨by kernel_rfl,by kernel_rfl⟩
instance :ScalarT Tryz.prog 4:=⟨by kernel_rfl,by kernel_rfl⟩
instance :ScalarT Tryz.prog 9:=⟨by kernel_rfl,by kernel_rfl⟩
instance :ZeroT Tryz.prog 9 [.string ⟨#[]⟩]:=⟨by kernel_rfl,by kernel_rfl⟩
instance :ScalarT Tryz.prog 22:=⟨by kernel_rfl,by kernel_rfl⟩
instance :SliceT Tryz.prog 22 53 8 104:=⟨by kernel_rfl,by kernel_rfl,by kernel_rfl,by decide,by decide⟩
instance :ScalarT Tryz.prog 23:=⟨by kernel_rfl,by kernel_rfl⟩
instance :SliceT Tryz.prog 23 43 5 40:=⟨by kernel_rfl,by kernel_rfl,by kernel_rfl,by decide,by decide⟩
instance :AggT Tryz.prog 25 2:=⟨by kernel_rfl,by kernel_rfl⟩
instance :ZeroT Tryz.prog 25 [.slice none 0 0,.slice none 0 0]:=⟨by kernel_rfl,by kernel_rfl⟩
instance :FldT Tryz.prog 25 0 22 0 1:=⟨by kernel_rfl,by decide⟩
instance :FldT Tryz.prog 25 1 23 1 1:=⟨by kernel_rfl,by decide⟩
instance :StructT Tryz.prog 25 [(0,1),(1,1)]:=⟨by kernel_rfl⟩
instance :ScalarT Tryz.prog 26:=⟨by kernel_rfl,by kernel_rfl⟩
instance :ZeroT Tryz.prog 26 [.slice none 0 0]:=⟨by kernel_rfl,by kernel_rfl⟩
instance :SliceT Tryz.prog 26 3 1 8:=⟨by kernel_rfl,by kernel_rfl,by kernel_rfl,by decide,by decide⟩
instance :ScalarT Tryz.prog 29:=⟨by kernel_rfl,by kernel_rfl⟩
instance :SliceT Tryz.prog 29 78 3 40:=⟨by kernel_rfl,by kernel_rfl,by kernel_rfl,by decide,by decide⟩
instance :ScalarT Tryz.prog 30:=⟨by kernel_rfl,by kernel_rfl⟩
instance :SliceT Tryz.prog 30 41 6 64:=⟨by kernel_rfl,by kernel_rfl,by kernel_rfl,by decide,by decide⟩
instance :ScalarT Tryz.prog 31:=⟨by kernel_rfl,by kernel_rfl⟩
instance :SliceT Tryz.prog 31 26 1 24:=⟨by kernel_rfl,by kernel_rfl,by kernel_rfl,by decide,by decide⟩
instance :AggT Tryz.prog 33 4:=⟨by kernel_rfl,by kernel_rfl⟩
instance :ZeroT Tryz.prog 33 [.slice none 0 0,.slice none 0 0,.slice none 0 0,.bool false]:=⟨by kernel_rfl,by kernel_rfl⟩
instance :FldT Tryz.prog 33 0 29 0 1:=⟨by kernel_rfl,by decide⟩
instance :FldT Tryz.prog 33 1 30 1 1:=⟨by kernel_rfl,by decide⟩
instance :FldT Tryz.prog 33 2 31 2 1:=⟨by kernel_rfl,by decide⟩
instance :FldT Tryz.prog 33 3 4 3 1:=⟨by kernel_rfl,by decide⟩
instance :StructT Tryz.prog 33 [(0,1),(1,1),(2,1),(3,1)]:=⟨by kernel_rfl⟩
instance :ScalarT Tryz.prog 34:=⟨by kernel_rfl,by kernel_rfl⟩
instance :ZeroT Tryz.prog 34 [.int .i64 0]:=⟨by kernel_rfl,by kernel_rfl⟩
instance :AggT Tryz.prog 41 6:=⟨by kernel_rfl,by kernel_rfl⟩
instance :ZeroT Tryz.prog 41 [.int .i64 0,.int .i64 0,.int .i64 0,.int .i64 0,.slice none 0 0,.bool false]:=⟨by kernel_rfl,by kernel_rfl⟩
instance :FldT Tryz.prog 41 0 3 0 1:=⟨by kernel_rfl,by decide⟩
instance :FldT Tryz.prog 41 1 3 1 1:=⟨by kernel_rfl,by decide⟩
instance :FldT Tryz.prog 41 2 3 2 1:=⟨by kernel_rfl,by decide⟩
instance :FldT Tryz.prog 41 3 3 3 1:=⟨by kernel_rfl,by decide⟩
instance :FldT Tryz.prog 41 4 26 4 1:=⟨by kernel_rfl,by decide⟩
instance :FldT Tryz.prog 41 5 4 5 1:=⟨by kernel_rfl,by decide⟩
instance :StructT Tryz.prog 41 [(0,1),(1,1),(2,1),(3,1),(4,1),(5,1)]:=⟨by kernel_rfl⟩
instance :AggT Tryz.prog 43 5:=⟨by kernel_rfl,by kernel_rfl⟩
instance :ZeroT Tryz.prog 43 [.int .i64 0,.int .i64 0,.int .i64 0,.int .i64 0,.int .i64 0]:=⟨by kernel_rfl,by kernel_rfl⟩
instance :FldT Tryz.prog 43 0 3 0 1:=⟨by kernel_rfl,by decide⟩
instance :FldT Tryz.prog 43 1 3 1 1:=⟨by kernel_rfl,by decide⟩
instance :FldT Tryz.prog 43 2 3 2 1:=⟨by kernel_rfl,by decide⟩
instance :FldT Tryz.prog 43 3 3 3 1:=⟨by kernel_rfl,by decide⟩
instance :FldT Tryz.prog 43 4 3 4 1:=⟨by kernel_rfl,by decide⟩
instance :StructT Tryz.prog 43 [(0,1),(1,1),(2,1),(3,1),(4,1)]:=⟨by kernel_rfl⟩
instance :ScalarT Tryz.prog 49:=⟨by kernel_rfl,by kernel_rfl⟩
instance :SliceT Tryz.prog 49 51 5 64:=⟨by kernel_rfl,by kernel_rfl,by kernel_rfl,by decide,by decide⟩
instance :AggT Tryz.prog 51 5:=⟨by kernel_rfl,by kernel_rfl⟩
instance :ZeroT Tryz.prog 51 [.int .i64 0,.int .i64 0,.string ⟨#[]⟩,.int .i64 0,.slice none 0 0]:=⟨by kernel_rfl,by kernel_rfl⟩
instance :FldT Tryz.prog 51 0 3 0 1:=⟨by kernel_rfl,by decide⟩
instance :FldT Tryz.prog 51 1 3 1 1:=⟨by kernel_rfl,by decide⟩
instance :FldT Tryz.prog 51 2 9 2 1:=⟨by kernel_rfl,by decide⟩
instance :FldT Tryz.prog 51 3 3 3 1:=⟨by kernel_rfl,by decide⟩
instance :FldT Tryz.prog 51 4 49 4 1:=⟨by kernel_rfl,by decide⟩
instance :AggT Tryz.prog 53 8:=⟨by kernel_rfl,by kernel_rfl⟩
instance :ZeroT Tryz.prog 53 [.int .i64 0,.int .i64 0,.int .i64 0,.int .i64 0,.string ⟨#[]⟩,.int .i64 0,.slice none 0 0,.slice none 0 0]:=⟨by kernel_rfl,by kernel_rfl⟩
instance :FldT Tryz.prog 53 0 3 0 1:=⟨by kernel_rfl,by decide⟩
instance :FldT Tryz.prog 53 1 3 1 1:=⟨by kernel_rfl,by decide⟩
instance :FldT Tryz.prog 53 2 51 2 5:=⟨by kernel_rfl,by decide⟩
instance :FldT Tryz.prog 53 3 26 7 1:=⟨by kernel_rfl,by decide⟩
instance :StructT Tryz.prog 53 [(0,1),(1,1),(2,5),(7,1)]:=⟨by kernel_rfl⟩
instance :ScalarT Tryz.prog 68:=⟨by kernel_rfl,by kernel_rfl⟩
instance :ZeroT Tryz.prog 70 [.slice none 0 0,.slice none 0 0,.slice none 0 0,.slice none 0 0,.slice none 0 0,.bool false,.int .i64 0]:=⟨by kernel_rfl,by kernel_rfl⟩
instance :FldT Tryz.prog 70 0 25 0 2:=⟨by kernel_rfl,by decide⟩
instance :FldT Tryz.prog 70 1 33 2 4:=⟨by kernel_rfl,by decide⟩
instance :FldT Tryz.prog 70 2 34 6 1:=⟨by kernel_rfl,by decide⟩
instance :StructT Tryz.prog 70 [(0,2),(2,4),(6,1)]:=⟨by kernel_rfl⟩
instance :ScalarT Tryz.prog 75:=⟨by kernel_rfl,by kernel_rfl⟩
instance :AggT Tryz.prog 78 3:=⟨by kernel_rfl,by kernel_rfl⟩
instance :ZeroT Tryz.prog 78 [.slice none 0 0,.int .i64 0,.bool false]:=⟨by kernel_rfl,by kernel_rfl⟩
instance :FldT Tryz.prog 78 0 26 0 1:=⟨by kernel_rfl,by decide⟩
instance :FldT Tryz.prog 78 1 3 1 1:=⟨by kernel_rfl,by decide⟩
instance :FldT Tryz.prog 78 2 4 2 1:=⟨by kernel_rfl,by decide⟩
instance :StructT Tryz.prog 78 [(0,1),(1,1),(2,1)]:=⟨by kernel_rfl⟩
instance :ZeroT Tryz.prog 93 [.int .i64 0]:=⟨by kernel_rfl,by kernel_rfl⟩
instance :FldT Tryz.prog 93 0 3 0 1:=⟨by kernel_rfl,by decide⟩
instance :StructT Tryz.prog 93 [(0,1)]:=⟨by kernel_rfl⟩
instance :SliceT Tryz.prog 98 100 2 16:=⟨by kernel_rfl,by kernel_rfl,by kernel_rfl,by decide,by decide⟩
instance :AggT Tryz.prog 100 2:=⟨by kernel_rfl,by kernel_rfl⟩
instance :ZeroT Tryz.prog 100 [.int .i64 0,.int .i64 0]:=⟨by kernel_rfl,by kernel_rfl⟩
instance :FldT Tryz.prog 100 0 3 0 1:=⟨by kernel_rfl,by decide⟩
instance :FldT Tryz.prog 100 1 3 1 1:=⟨by kernel_rfl,by decide⟩
instance :StructT Tryz.prog 100 [(0,1),(1,1)]:=⟨by kernel_rfl⟩
instance :FlatT Tryz.prog 100 [3,3]:=⟨by kernel_rfl,by kernel_rfl,by kernel_rfl,by kernel_rfl,by kernel_rfl⟩
instance :ScalarT Tryz.prog 106:=⟨by kernel_rfl,by kernel_rfl⟩
instance :ZeroT Tryz.prog 106 [.slice none 0 0]:=⟨by kernel_rfl,by kernel_rfl⟩
instance :SliceT Tryz.prog 106 9 1 16:=⟨by kernel_rfl,by kernel_rfl,by kernel_rfl,by decide,by decide⟩
instance :ScalarT Tryz.prog 107:=⟨by kernel_rfl,by kernel_rfl⟩
instance :ZeroT Tryz.prog 107 [.nilFunc]:=⟨by kernel_rfl,by kernel_rfl⟩
instance :ScalarT Tryz.prog 108:=⟨by kernel_rfl,by kernel_rfl⟩
instance :AggT Tryz.prog 110 8:=⟨by kernel_rfl,by kernel_rfl⟩
instance :ZeroT Tryz.prog 110 [.int .i64 0,.int .i64 0,.int .i64 0,.int .i64 0,.int .i64 0,.slice none 0 0,.nilFunc,.nilFunc]:=⟨by kernel_rfl,by kernel_rfl⟩
instance :FldT Tryz.prog 110 0 3 0 1:=⟨by kernel_rfl,by decide⟩
instance :FldT Tryz.prog 110 1 3 1 1:=⟨by kernel_rfl,by decide⟩
instance :FldT Tryz.prog 110 2 3 2 1:=⟨by kernel_rfl,by decide⟩
instance :FldT Tryz.prog 110 3 3 3 1:=⟨by kernel_rfl,by decide⟩
instance :FldT Tryz.prog 110 4 3 4 1:=⟨by kernel_rfl,by decide⟩
instance :FldT Tryz.prog 110 5 106 5 1:=⟨by kernel_rfl,by decide⟩
instance :FldT Tryz.prog 110 6 107 6 1:=⟨by kernel_rfl,by decide⟩
instance :FldT Tryz.prog 110 7 108 7 1:=⟨by kernel_rfl,by decide⟩
instance :StructT Tryz.prog 110 [(0,1),(1,1),(2,1),(3,1),(4,1),(5,1),(6,1),(7,1)]:=⟨by kernel_rfl⟩
instance :ZeroT Tryz.prog 120 [.int .i64 0,.int .i64 0,.int .i64 0,.int .i64 0,.string ⟨#[]⟩,.int .i64 0,.slice none 0 0,.slice none 0 0,.slice none 0 0,.int .i64 0,.bool false,.slice none 0 0,.int .i64 0,.int .i64 0]:=⟨by kernel_rfl,by kernel_rfl⟩
instance :FldT Tryz.prog 120 0 53 0 8:=⟨by kernel_rfl,by decide⟩
instance :FldT Tryz.prog 120 1 78 8 3:=⟨by kernel_rfl,by decide⟩
instance :FldT Tryz.prog 120 2 31 11 1:=⟨by kernel_rfl,by decide⟩
instance :FldT Tryz.prog 120 3 34 12 1:=⟨by kernel_rfl,by decide⟩
instance :StructT Tryz.prog 120 [(0,8),(8,3),(11,1),(12,1),(13,1)]:=⟨by kernel_rfl⟩
instance :AggT Tryz.prog 128 9:=⟨by kernel_rfl,by kernel_rfl⟩
instance :ZeroT Tryz.prog 128 [.slice none 0 0,.int .i64 0,.bool false,.slice none 0 0,.bool false,.bool false,.int .i64 0,.int .i64 0,.int .i64 0]:=⟨by kernel_rfl,by kernel_rfl⟩
instance :FldT Tryz.prog 128 0 78 0 3:=⟨by kernel_rfl,by decide⟩
instance :FldT Tryz.prog 128 1 31 3 1:=⟨by kernel_rfl,by decide⟩
instance :FldT Tryz.prog 128 2 4 4 1:=⟨by kernel_rfl,by decide⟩
instance :FldT Tryz.prog 128 3 4 5 1:=⟨by kernel_rfl,by decide⟩
instance :FldT Tryz.prog 128 4 3 6 1:=⟨by kernel_rfl,by decide⟩
instance :FldT Tryz.prog 128 5 3 7 1:=⟨by kernel_rfl,by decide⟩
instance :FldT Tryz.prog 128 6 34 8 1:=⟨by kernel_rfl,by decide⟩
instance :StructT Tryz.prog 128 [(0,3),(3,1),(4,1),(5,1),(6,1),(7,1),(8,1)]:=⟨by kernel_rfl⟩
instance :AggT Tryz.prog 141 2:=⟨by kernel_rfl,by kernel_rfl⟩
instance :ZeroT Tryz.prog 141 [.int .i64 0,.slice none 0 0]:=⟨by kernel_rfl,by kernel_rfl⟩
instance :FldT Tryz.prog 141 1 31 1 1:=⟨by kernel_rfl,by decide⟩
instance :StructT Tryz.prog 141 [(0,1),(1,1)]:=⟨by kernel_rfl⟩
instance :AggT Tryz.prog 146 88:=⟨by kernel_rfl,by kernel_rfl⟩
instance :ZeroT Tryz.prog 146 [.int .i64 0,.int .i64 0,.int .i64 0,.int .i64 0,.int .i64 0,.slice none 0 0,.nilFunc,.nilFunc,.int .i64 0,.int .i64 0,.int .i64 0,.int .i64 0,.int .i64 0,.slice none 0 0,.nilFunc,.nilFunc,.int .i64 0,.int .i64 0,.int .i64 0,.int .i64 0,.int .i64 0,.slice none 0 0,.nilFunc,.nilFunc,.int .i64 0,.int .i64 0,.int .i64 0,.int .i64 0,.int .i64 0,.slice none 0 0,.nilFunc,.nilFunc,.int .i64 0,.int .i64 0,.int .i64 0,.int .i64 0,.int .i64 0,.slice none 0 0,.nilFunc,.nilFunc,.int .i64 0,.int .i64 0,.int .i64 0,.int .i64 0,.int .i64 0,.slice none 0 0,.nilFunc,.nilFunc,.int .i64 0,.int .i64 0,.int .i64 0,.int .i64 0,.int .i64 0,.slice none 0 0,.nilFunc,.nilFunc,.int .i64 0,.int .i64 0,.int .i64 0,.int .i64 0,.int .i64 0,.slice none 0 0,.nilFunc,.nilFunc,.int .i64 0,.int .i64 0,.int .i64 0,.int .i64 0,.int .i64 0,.slice none 0 0,.nilFunc,.nilFunc,.int .i64 0,.int .i64 0,.int .i64 0,.int .i64 0,.int .i64 0,.slice none 0 0,.nilFunc,.nilFunc,.int .i64 0,.int .i64 0,.int .i64 0,.int .i64 0,.int .i64 0,.slice none 0 0,.nilFunc,.nilFunc]:=⟨by kernel_rfl,by kernel_rfl⟩
instance :ArrayT Tryz.prog 146 11 110 8:=⟨by kernel_rfl,by kernel_rfl⟩
instance :SliceT Tryz.prog 157 188 3 32:=⟨by kernel_rfl,by kernel_rfl,by kernel_rfl,by decide,by decide⟩
instance :AggT Tryz.prog 188 3:=⟨by kernel_rfl,by kernel_rfl⟩
instance :ZeroT Tryz.prog 188 [.string ⟨#[]⟩,.int .i64 0,.int .i64 0]:=⟨by kernel_rfl,by kernel_rfl⟩
instance :FldT Tryz.prog 188 0 9 0 1:=⟨by kernel_rfl,by decide⟩
instance :FldT Tryz.prog 188 1 3 1 1:=⟨by kernel_rfl,by decide⟩
instance :FldT Tryz.prog 188 2 3 2 1:=⟨by kernel_rfl,by decide⟩
instance :StructT Tryz.prog 188 [(0,1),(1,1),(2,1)]:=⟨by kernel_rfl⟩
instance :ScalarT Tryz.prog 205:=⟨by kernel_rfl,by kernel_rfl⟩
instance :ZeroT Tryz.prog 207 [.string ⟨#[]⟩,.int .i64 0,.int .i64 0,.int .i64 0,.nilFunc]:=⟨by kernel_rfl,by kernel_rfl⟩
instance :FldT Tryz.prog 207 2 3 2 1:=⟨by kernel_rfl,by decide⟩
instance :FldT Tryz.prog 207 3 3 3 1:=⟨by kernel_rfl,by decide⟩
instance :FldT Tryz.prog 207 4 205 4 1:=⟨by kernel_rfl,by decide⟩
instance :StructT Tryz.prog 207 [(0,1),(1,1),(2,1),(3,1),(4,1)]:=⟨by kernel_rfl⟩
instance :ScalarT Tryz.prog 224:=⟨by kernel_rfl,by kernel_rfl⟩
end Go.Proofs
namespace Go.Aw
theorem Weak.items2 {n:Nat} {σ:Fr} {st st':List Item} (k:ItLe2 st st'):Weak n σ st σ st':=fun F g a w hf hw=>⟨g,Ghost.ext.refl g,hf,k.relW hw⟩
theorem ACalls.keep {P:Program} {f:FuncId} {args:List AV} {st its r:List Item} {v:AV} (hp:Takes st its r) (h:ACalls P f args its (fun v' s=>v'=v∧s=its)):ACalls P f args st (fun v' s=>v'=v∧s=st):=
  (h.frame (Q':=fun v' s=>v'=v∧s=its++r) hp.perm fun v' s ⟨a,b⟩=>⟨a,by rw [b]⟩).shift fun v' s ⟨a,b⟩=>⟨v',st,fun F g u w hw hv=>⟨g,Ghost.ext.refl g,(by rw [b] at hw;exact hw.perm (hp.perm.symm.append_right F)),hv⟩,a,rfl⟩
end Go.Aw
namespace Go.Aw
open Go.RowKit (Below)
def wd (ro:Option Nat):Fence:={Fence.wide with round:=ro}
theorem callsIn_wd {ro:Option Nat} {n:Nat} {P:Program} {f:FuncId} {args:Array Value} {w:World} {R:Ending→World→Prop} (h:Calls P f args w R):CallsIn (wd ro) n P f args w R:=by
  have:=(callsIn_wide (n:=n)).2 h;exact⟨trivial,fun cs _=>this.2 cs (room_wide _)⟩
theorem rowsIn_wd {ro:Option Nat} {n:Nat} {P:Program} {row:String} {args:Array Value} {w:World} {R:Value→World→Prop} (h:Rows P row args w R):RowsIn (wd ro) n P row args w R:=fun c cs _=>by
  obtain⟨v,w',r,s⟩:=h c cs;exact⟨v,w',r,stepsIn_wide.2 s⟩
def Marks (g:Ghost):List Nat→List Deferred→Prop
  | [],[]=>True
  |m::ms,d::ds=>(∃ b p s,g.loc m=some (b,p,s)∧d={target:= .collected b,args:= #[]})∧Marks g ms ds
  |_,_=>False
theorem Marks.mono {g g':Ghost} (h:g.le g'): ∀ {ms:List Nat} {ds:List Deferred},Marks g ms ds→Marks g' ms ds
  | [],[],_=>trivial
  |m::ms,d::ds,⟨⟨b,p,s,e,k⟩,r⟩=>⟨⟨b,p,s,h.loc _ _ e,k⟩,Marks.mono h r⟩
  | [],_::_,h=>h.elim
  |_::_,[],h=>h.elim
def AWX (ro:Option Nat) (P:Program) (n:Nat) (c:Code) (ms:List Nat) (σ:Fr) (st:List Item) (Q:Exit→List Nat→Fr→List Item→Prop):Prop:=
  ∀ F g a w,RelF n g σ {a with defers:=[]}→Marks g ms a.defers→RelW g (st++F) w→
   c.wpIn (wd ro) 0 P (fun e a' w'=> ∃ g' σ' st' ms',g.ext g'∧RelF n g' σ' {a' with defers:=[]}∧Marks g' ms' a'.defers∧RelW g' (st'++F) w'∧Q e ms' σ' st') a w
def thenX (next:List Nat→Fr→List Item→Prop) (Q:Exit→List Nat→Fr→List Item→Prop):Exit→List Nat→Fr→List Item→Prop
  | .normal=>next
  |e=>Q e
def inBlockX (id:Nat) (Q:Exit→List Nat→Fr→List Item→Prop):Exit→List Nat→Fr→List Item→Prop
  | .exit j=>match Nat.beq j id with|true=>Q .normal|false=>Q (.exit j)
  |e=>Q e
section code
variable {ro:Option Nat} {P:Program} {n:Nat} {σ:Fr} {st:List Item} {ms:List Nat} {Q:Exit→List Nat→Fr→List Item→Prop}
theorem wpx_ext {F:List Item} {g g1:Ghost} {c:Code} {a:Act} {w:World} (hx:g.ext g1)
  (h:c.wpIn (wd ro) 0 P (fun e a' w'=> ∃ g' σ' st' ms',g1.ext g'∧RelF n g' σ' {a' with defers:=[]}∧Marks g' ms' a'.defers∧RelW g' (st'++F) w'∧Q e ms' σ' st') a w):
  c.wpIn (wd ro) 0 P (fun e a' w'=> ∃ g' σ' st' ms',g.ext g'∧RelF n g' σ' {a' with defers:=[]}∧Marks g' ms' a'.defers∧RelW g' (st'++F) w'∧Q e ms' σ' st') a w:=
  wpIn_mono h fun e a' w' ⟨g',σ',st',ms',x,y⟩=>⟨g',σ',st',ms',hx.trans x,y⟩
theorem awx_weak {c:Code} {σ':Fr} {st':List Item} (hw:Weak n σ st σ' st') (h:AWX ro P n c ms σ' st' Q):AWX ro P n c ms σ st Q:=fun F g a w hf hm hr=>by
  obtain⟨g',x,y,z⟩:=hw F g _ w hf hr;exact wpx_ext x (h F g' a w y (hm.mono x.le) z)
theorem awx_skip (h:Q .normal ms σ st):AWX ro P n .skip ms σ st Q:=fun F g a w hf hm hw=>wpIn_skip ⟨g,σ,st,ms,Ghost.ext.refl g,hf,hm,hw,h⟩
theorem awx_ret (h:Q .ret ms σ st):AWX ro P n .ret ms σ st Q:=fun F g a w hf hm hw=>wpIn_ret ⟨g,σ,st,ms,Ghost.ext.refl g,hf,hm,hw,h⟩
theorem awx_exit {id:Nat} (h:Q (.exit id) ms σ st):AWX ro P n (.exit id) ms σ st Q:=fun F g a w hf hm hw=>wpIn_exit ⟨g,σ,st,ms,Ghost.ext.refl g,hf,hm,hw,h⟩
theorem awx_seq {x y:Code} (h:AWX ro P n x ms σ st (thenX (fun ms' σ' st'=>AWX ro P n y ms' σ' st' Q) Q)):AWX ro P n (.seq x y) ms σ st Q:=fun F g a w hf hm hw=>
  wpIn_seq (wpIn_mono (h F g a w hf hm hw) fun e a' w' ⟨g',σ',st',ms',hx,hf',hm',hw',hq⟩=>by
   cases e with
   |normal=>exact wpx_ext hx (hq F g' a' w' hf' hm' hw')
   |_=>exact⟨g',σ',st',ms',hx,hf',hm',hw',hq⟩)
theorem awx_block {id:Nat} {c:Code} (h:AWX ro P n c ms σ st (inBlockX id Q)):AWX ro P n (.block id c) ms σ st Q:=fun F g a w hf hm hw=>
  wpIn_block (wpIn_mono (h F g a w hf hm hw) fun e a' w' ⟨g',σ',st',ms',hx,hf',hm',hw',hq⟩=>by
   cases e with
   |exit j=>
    simp only [inBlockX] at hq;simp only [Exit.inBlock];cases e:Nat.beq j id with
    |true=>rw [e] at hq;rw [if_pos (Nat.eq_of_beq_eq_true e)];exact⟨g',σ',st',ms',hx,hf',hm',hw',hq⟩
    |false=>rw [e] at hq;rw [if_neg (Nat.ne_of_beq_eq_false e)];exact⟨g',σ',st',ms',hx,hf',hm',hw',hq⟩
   |_=>exact⟨g',σ',st',ms',hx,hf',hm',hw',hq⟩)
theorem awx_cond {c:Operand} {x y:Code} {b:Bool} (hc:evA σ c=some (.bool b)) (ht:b=true→AWX ro P n x ms σ st Q) (hf:b=false→AWX ro P n y ms σ st Q):AWX ro P n (.cond c x y) ms σ st Q:=fun F g a w hfr hm hw=>by
  have hv:=evA_slot (ts:=match c with| .tmp t=>[t]|_=>[]) (hfr.slots _) (fun t e=>by subst e;simp) hc;rw [AV.val_holds] at hv;have hv':a.eval c= .bool b:=hv;exact wpIn_cond_split hv' (fun e=>ht e F g a w hfr hm hw) (fun e=>hf e F g a w hfr hm hw)
theorem upon_defers {ops:Array Oper} {R:Act→World→Prop} (hR: ∀ a w,R a w→a.defers=[]): ∀ (l:List Oper) (a:Act) (w:World),a.defers≠[]→wpList P ops (fun e a' w'=>e= .normal∧R a' w') l a w→False
  | [],a,w,hd,h=>hd (hR _ _ h.2)
  |o::l,a,w,hd,h=>by
   have ih:=upon_defers (ops:=ops) (R:=R) hR l;unfold wpList at h;split at h
   ·rcases h with h|⟨_,a0,w0,e,_⟩
    ·unfold Oper.wp at h;generalize (execOp a.eval o).run P w=r at h;have hput: ∀ (a:Act) (d:Option Tmp) (v:Value),a.defers≠[]→(a.put d v).defers≠[]:=fun a d v h=>by cases d<;>exact h
     cases r with
     |halt x w'=>cases x<;>simp only [Oper.upon] at h<;>first|exact h| (obtain⟨e,_⟩:=h;cases e)
     |ok x w'=>
      cases x<;>simp only [Oper.upon] at h<;>first
       |exact h
       |exact ih _ _ (hput _ _ _ hd) h
       |exact ih _ _ (hput _ _ _ (by simp)) h
       | (
        obtain⟨e,w2,fr,hr,_⟩:=h [];cases e with
        |returned v=>exact ih _ _ (hput _ _ _ hd) hr
        |panicked c=>obtain⟨e,_⟩:=hr;cases e
        |outgrown=>obtain⟨_,_,e,_⟩:=hr;cases e)
       | (
        obtain⟨v,w2,hr,_⟩:=h default [];exact ih _ _ (hput _ _ _ hd) hr)
    ·cases e
   ·exact ih _ _ (by cases o.dst<;>exact hd) h
def plainOp (o:Oper):Bool:=match o.op with| .defer _=>false|_=>true
theorem semAt_plain {o:Oper} (h:plainOp o=true) (ρ:Operand→Value):Oper.semAt ro ρ o=execOp ρ o:=
  Oper.semAt_eq _ _ _ fun c e=>by simp [plainOp,e] at h
theorem list_in {ops:Array Oper} {R:Act→World→Prop} {Qx:Exit→Act→World→Prop} {l2:List Oper} {ds:List Deferred} (hR: ∀ a w,R a w→a.defers=[]): ∀ (l:List Oper),(∀ o∈l,plainOp o=true)→ ∀ (t:Array Value) (w:World),
  wpList P ops (fun e a' w'=>e= .normal∧R a' w') l ⟨t,[]⟩ w→
  (∀ t' w',R ⟨t',[]⟩ w'→wpListIn (wd ro) 0 P ops Qx l2 ⟨t',ds⟩ w')→wpListIn (wd ro) 0 P ops Qx (l++l2) ⟨t,ds⟩ w
  | [],_,t,w,h,hk=>hk t w h.2
  |o::l,hp,t,w,h,hk=>by
   have ih:=list_in (ops:=ops) (R:=R) (Qx:=Qx) (l2:=l2) (ds:=ds) hR l (fun x hx=>hp x (by simp [hx]));have ho:=hp o (by simp);have hput: ∀ (v:Value),∃ t',(⟨t,[]⟩:Act).put o.dst v=⟨t',[]⟩∧(⟨t,ds⟩:Act).put o.dst v=⟨t',ds⟩:=fun v=>by
    cases o.dst with
    |none=>exact⟨t,rfl,rfl⟩
    |some d=>exact⟨t.setIfInBounds d v,rfl,rfl⟩
   show wpListIn (wd ro) 0 P ops Qx (o::(l++l2)) ⟨t,ds⟩ w;unfold wpList at h;unfold wpListIn;split at h
   ·rename_i hwn;rw [if_pos hwn];refine⟨fun f _=>trivial,?_⟩;rcases h with h|⟨_,a0,w0,e,_⟩
    ·unfold Oper.wp at h;rw [semAt_plain ho];have hev:(⟨t,ds⟩:Act).eval=(⟨t,[]⟩:Act).eval:=by funext x;cases x<;>rfl
     rw [hev];generalize (execOp (⟨t,[]⟩:Act).eval o).run P w=r at h;cases r with
     |halt x w'=>cases x<;>simp only [Oper.upon] at h<;>first|exact h.elim| (obtain⟨e,_⟩:=h;cases e)
     |ok x w'=>
      cases x with
      |value v=>
       obtain⟨t',e1,e2⟩:=hput v;simp only [Oper.upon,e1] at h;simp only [Oper.uponIn,e2];exact ih _ _ h hk
      |skip=>
       obtain⟨t',e1,e2⟩:=hput undef;simp only [Oper.upon,e1] at h;simp only [Oper.uponIn,e2];exact ih _ _ h hk
      |defer d=>
       simp only [Oper.upon] at h;exact (upon_defers hR l _ _ (by cases o.dst<;>simp [Act.put]) h).elim
      |enter f args=>
       simp only [Oper.upon] at h;simp only [Oper.uponIn];refine⟨fun e=>by simp [wd,Fence.wide] at e,callsIn_wd (h.mono fun e w2 he=> ?_)⟩;cases e with
       |returned v=>
        obtain⟨t',e1,e2⟩:=hput v;have he':wpList P ops _ l ((⟨t,[]⟩:Act).put o.dst v) w2:=he;rw [e1] at he';show wpListIn (wd ro) 0 P ops Qx (l++l2) ((⟨t,ds⟩:Act).put o.dst v) w2;rw [e2];exact ih _ _ he' hk
       |panicked c=>obtain⟨e,_⟩:=he;cases e
       |outgrown=>obtain⟨_,_,e,_⟩:=he;cases e
      |row r args=>
       simp only [Oper.upon] at h;simp only [Oper.uponIn];refine⟨fun e=>by simp [wd,Fence.wide] at e,rowsIn_wd (h.mono fun v w2 he=> ?_)⟩;obtain⟨t',e1,e2⟩:=hput v;rw [e1] at he;rw [e2];exact ih _ _ he hk
      |_=>simp only [Oper.upon] at h
    ·cases e
   ·rename_i hwn;rw [if_neg hwn];obtain⟨t',e1,e2⟩:=hput undef;rw [e1] at h;rw [e2];exact⟨fun f _=>trivial,ih _ _ h hk⟩
theorem awx_region {id:Nat} {l:List Oper} (hp:l.all plainOp=true) (h:AOps P n l.toArray l σ st (fun σ' st'=>Q .normal ms σ' st')):AWX ro P n (.region id l.toArray false) ms σ st Q:=fun F g a w hf hm hw=>by
  refine wpIn_region_lit ?_;have h2:=h F g {a with defers:=[]} w hf hw;have:=list_in (ro:=ro) (P:=P) (ops:=l.toArray) (l2:=[]) (ds:=a.defers) (Qx:=fun e a' w'=> ∃ g' σ' st' ms',g.ext g'∧RelF n g' σ' {a' with defers:=[]}∧Marks g' ms' a'.defers∧RelW g' (st'++F) w'∧Q e ms' σ' st')
   (fun a w ⟨_,_,_,_,hf',_⟩=>hf'.defers) l (List.all_eq_true.1 hp) a.tmps w h2 (fun t' w' ⟨g',σ',st',hx,hf',hw',hq⟩=>⟨g',σ',st',ms,hx,hf',hm.mono hx.le,hw',hq⟩)
  rw [List.append_nil] at this;exact this
@[irreducible] def AV.yld (i n:Nat) (σ:Fr) (T:Array Value):AV:=⟨fun g v=> ∃ b p s,g.loc i=some (b,p,s)∧v= .func (.yield b) #[] #[]∧RelF n g σ ⟨T,[]⟩,fun h ⟨b,p,s,a,c,d⟩=>⟨b,p,s,h.loc _ _ a,c,d.mono h⟩⟩
theorem AV.yld_holds {i n:Nat} {σ:Fr} {T:Array Value} {g:Ghost} {v:Value}:(AV.yld i n σ T).holds g v↔ ∃ b p s,g.loc i=some (b,p,s)∧v= .func (.yield b) #[] #[]∧RelF n g σ ⟨T,[]⟩:=by unfold AV.yld;rfl
def AYields (P:Program) (yv:AV) (args:List AV) (st:List Item) (Q:AV→List Item→Prop):Prop:=
  ∀ F g w u vs,RelW g (st++F) w→yv.holds g u→holdsL g args vs→ ∃ l r,u= .func (.yield l) #[] #[]∧w.heap[l]?=some (.loop r)∧vs.length=r.params.size∧
   RoundIn Fence.wide 0 P l r.fn ((r.params.zip vs.toArray).foldl (fun tmps (t,a)=>tmps.setIfInBounds t a) r.tmps) r.assign r.body w
    (fun e w'=> ∃ u' v st' g',e= .returned u'∧g.ext g'∧RelW g' (st'++F) w'∧v.holds g' u'∧Q v st')
theorem AYields.frame {yv:AV} {args:List AV} {st1 st2:List Item} {Q Q':AV→List Item→Prop} (h:AYields P yv args st1 Q) (hp:st.Perm (st1++st2)) (hq: ∀ v st',Q v st'→Q' v (st'++st2)):AYields P yv args st Q':=fun F g w u vs hw hu hv=>by
  obtain⟨l,r,a,b,c,d⟩:=h (st2++F) g w u vs (by rw [←List.append_assoc];exact hw.perm (hp.append_right F)) hu hv;exact⟨l,r,a,b,c,d.mono fun e w' ⟨u',v,st',g',x1,x2,x3,x4,x5⟩=>⟨u',v,st'++st2,g',x1,x2,by rw [List.append_assoc];exact x3,x4,hq _ _ x5⟩⟩
theorem run_yieldCall {c:Operand} {args:Array Operand} {ts:Array TypeId} {a:Act} {l:Nat} {r:Loop} {w:World} {d:Option Tmp} {ty:TypeId} {pos:String} {after:Array Edge} {gd:Option (Nat×Bool)}
  (e:a.eval c= .func (.yield l) #[] #[]) (h:w.heap[l]?=some (.loop r)) (hs:args.size=r.params.size):
  (execOp a.eval ⟨d,.call {callee:= .value c,args:=args,argTypes:=ts},ty,pos,after,gd⟩).run P w= .ok (.round l r.fn ((r.params.zip (args.toList.map a.eval).toArray).foldl (fun tmps (t,a)=>tmps.setIfInBounds t a) r.tmps) r.assign r.body) w:=by
  have he:(#[]++args.map a.eval)=(args.toList.map a.eval).toArray:=by apply Array.ext';simp
  have:=run_yield (P:=P) (args:=(args.toList.map a.eval).toArray) h (by simpa using hs);simp only [execOp,resolve,Deferred.ofValue,e,Sem.run_bind,Sem.run_pure,Result.andThen_ok,invoke];rw [he,this]
theorem awx_regionY {id:Nat} {l l1 l2:List Oper} {d t:Nat} {args:Array Operand} {ts:Array TypeId} {ty:TypeId} {pos:String} {after:Array Edge}
  (hl:l=l1++⟨some d,.call {callee:= .value (.tmp t),args:=args,argTypes:=ts},ty,pos,after,none⟩::l2) (hp1:l1.all plainOp=true) (hp2:l2.all plainOp=true) (hd:Nat.blt d n=true)
  (h:AOps P n l.toArray l1 σ st (fun σ1 st1=> ∃ yv vs,look σ1 t=some yv∧EvL σ1 args.toList vs∧AYields P yv vs st1 (fun v st2=>AOps P n l.toArray l2 ((d,v)::σ1) st2 (fun σ' st'=>Q .normal ms σ' st')))):
  AWX ro P n (.region id l.toArray false) ms σ st Q:=fun F g a w hf hm hw=>by
  refine wpIn_region_lit ?_;have h2:=h F g {a with defers:=[]} w hf hw;have:=list_in (ro:=ro) (P:=P) (ops:=l.toArray) (l2:=⟨some d,.call {callee:= .value (.tmp t),args:=args,argTypes:=ts},ty,pos,after,none⟩::l2) (ds:=a.defers) (Qx:=fun e a' w'=> ∃ g' σ' st' ms',g.ext g'∧RelF n g' σ' {a' with defers:=[]}∧Marks g' ms' a'.defers∧RelW g' (st'++F) w'∧Q e ms' σ' st')
   (fun a w ⟨_,_,_,_,hf',_⟩=>hf'.defers) l1 (List.all_eq_true.1 hp1) a.tmps w h2 ?_
  ·have e:l1++⟨some d,.call {callee:= .value (.tmp t),args:=args,argTypes:=ts},ty,pos,after,none⟩::l2=l:=hl.symm;rw [e] at this;exact this
  ·rintro t' w' ⟨g1,σ1,st1,hx1,hf1,hw1,yv,vs,hy,hev,hY⟩;obtain⟨u,hu1,hu2⟩:=hf1.slot _ _ hy;have hus:holdsL g1 vs (args.toList.map (⟨t',a.defers⟩:Act).eval):=
    hev.holds (o:=⟨some d,.call {callee:= .value (.tmp t),args:=args,argTypes:=ts},ty,pos,after,none⟩) (a:=⟨t',[]⟩) (hf1.slots _) (fun x hx=>by simp [Op.operands,Call.operands];right;simpa using hx)
   obtain⟨lb,r,e1,e2,e3,e4⟩:=hY F g1 w' u _ hw1 hu2 hus;have hte:(⟨t',a.defers⟩:Act).eval (.tmp t)= .func (.yield lb) #[] #[]:=by
    show t'.getD t undef=_;have hu1':t'[t]?=some u:=hu1;rw [Array.getD_eq_getD_getElem?,hu1',←e1];rfl
   unfold wpListIn;rw [if_pos (by simp [Region.wanted])];refine⟨fun _ _=>trivial,?_⟩;rw [semAt_plain rfl,run_yieldCall hte e2 (by rw [←e3];simp)];refine⟨fun e=>by simp [wd,Fence.wide] at e,trivial,fun c cs _=> ?_⟩;obtain⟨e,w2,⟨u',v,st2,g2,he,hx2,hw2,hv2,hK⟩,hc⟩:=e4.2 c cs (room_wide _);subst he;refine⟨.returned u',w2,?_,hc⟩;have hf2:RelF n g2 ((d,v)::σ1) (({tmps:=t',defers:=[]}:Act).put (some d) u'):=(hf1.mono hx2.le).put (blt_lt hd) hv2;have:=list_in (ro:=ro) (P:=P) (ops:=l.toArray) (l2:=[]) (ds:=a.defers) (Qx:=fun e a' w'=> ∃ g' σ' st' ms',g.ext g'∧RelF n g' σ' {a' with defers:=[]}∧Marks g' ms' a'.defers∧RelW g' (st'++F) w'∧Q e ms' σ' st')
    (fun a w ⟨_,_,_,_,hf',_⟩=>hf'.defers) l2 (List.all_eq_true.1 hp2) (t'.setIfInBounds d u') w2 (hK F g2 _ w2 hf2 hw2) (fun t' w' ⟨g',σ',st',hx,hf',hw',hq⟩=>⟨g',σ',st',ms,(hx1.trans hx2).trans hx,hf',(hm.mono (hx1.trans (hx2.trans hx)).le),hw',hq⟩)
   rw [List.append_nil] at this;exact this
end code
end Go.Aw
namespace Go.Aw
open Go.RowKit (Below)
def psFr:List Tmp→List AV→Fr→Fr
  |p::ps,v::vs,σ=>psFr ps vs ((p,v)::σ)
  |_,_,σ=>σ
theorem psFr_rel {n:Nat} {g:Ghost}: ∀ (ps:List Tmp) (avs:List AV) (vs:List Value) (σ:Fr) (T:Array Value),RelF n g σ ⟨T,[]⟩→(∀ p∈ps,p<n)→avs.length=ps.length→holdsL g avs vs→
  RelF n g (psFr ps avs σ) ⟨(ps.zip vs).foldl (fun t (p,v)=>t.setIfInBounds p v) T,[]⟩
  | [],[],[],σ,T,h,_,_,_=>h
  |p::ps,a::avs,v::vs,σ,T,h,hp,hl,⟨h1,h2⟩=>
   psFr_rel ps avs vs ((p,a)::σ) (T.setIfInBounds p v) (h.put (a:=⟨T,[]⟩) (hp p (by simp)) h1) (fun q hq=>hp q (by simp [hq])) (by simpa using hl) h2
  | [],[],_::_,_,_,_,_,_,h=>h.elim
  | [],_::_,_,_,_,_,_,hl,_=>by simp at hl
  |_::_,[],_,_,_,_,_,hl,_=>by simp at hl
  |_::_,_::_,[],_,_,_,_,_,h=>h.elim
theorem grownBy_put (W:World) (l:Nat) (o:Obj):W.grownBy (W.putObj l o) (some l):=
  ⟨rfl,rfl,rfl,by simp,fun k _ hk=>World.putObj_heap_other (fun e=>hk (by rw [e]))⟩
theorem RelW.putRaw {g:Ghost} {st:List Item} {w:World} {i:Nat} {o o':Obj} (h:RelW g (.raw i o::st) w) {b p s:Nat} (hl:g.loc i=some (b,p,s)):RelW g (.raw i o'::st) (w.putObj b o'):=by
  have ho:=h.items _ (List.mem_cons_self ..);obtain⟨b',p',s',e1,e2,e3,e4⟩:=ho;rw [hl] at e1;cases e1;have hb:(Item.raw i o).blk g=some b:=by simp [Item.blk,Item.id?,hl]
  have hlt:b<w.heap.size:=(Array.getElem?_eq_some_iff.1 e2).1;refine RelW.cons (h.tailOf.evolve (row:=some b) (Ghost.le.refl g) (grownBy_put w b o') (fun c hc=>by cases hc;exact e4) (fun c k v hv=> .inl ⟨hv,fun e=>by cases e;rw [e3] at hv;cases hv⟩)
   (fun it hi c hc=>⟨fun e=>by cases e;exact h.head_notin hb it hi hc,fun _=>rfl⟩) h.fresh) ⟨b,p,s,hl,World.putObj_heap_same hlt,e3,e4⟩ ?_
  intro c hc x hx e;have:(Item.raw i o').blk g=some b:=by simp [Item.blk,Item.id?,hl]
  rw [this] at hc;cases hc;exact h.head_notin hb x hx e
theorem RelW.rawAt {g:Ghost} {st:List Item} {w:World} {i:Nat} {o:Obj} (h:RelW g (.raw i o::st) w) {b p s:Nat} (hl:g.loc i=some (b,p,s)):w.heap[b]?=some o:=by
  obtain⟨b',p',s',e1,e2,_⟩:=h.items _ (List.mem_cons_self ..);rw [hl] at e1;cases e1;exact e2
theorem RelW.allocRaw {g:Ghost} {st:List Item} {w:World} (h:RelW g st w) {i:Nat} (hi:g.loc i=none) (o:Obj):
  RelW (g.setLoc i (w.heap.size,0,0)) (.raw i o::st) (w.alloc o):=by
  have hle:=Ghost.le_setLoc (g:=g) (i:=i) (x:=(w.heap.size,0,0)) hi;refine RelW.cons (h.evolve (row:=none) hle (World.grownBy_alloc w _ none) (fun b hb=>by cases hb) (fun b o v hv=> .inl ⟨hv,by simp⟩) (fun it _ b _=>⟨by simp,fun _=>rfl⟩) (h.fresh_setLoc i _)) ?_ ?_
  ·exact⟨w.heap.size,0,0,Ghost.setLoc_same,heap_alloc_new w _,fun o=>h.noCom (Nat.le_refl _),h.hB⟩
  ·intro b hb x hx e;simp [Item.blk,Item.id?,Ghost.setLoc_same] at hb;subst hb;rw [Item.blk_le (h.items x hx) hle] at e;exact absurd (h.blk_ne hx e).1 (Nat.lt_irrefl _)
abbrev lrec (fn:FuncId) (T:Array Value) (ps:Array Tmp) (assign body:Code) (D:Nat) (s:LoopState) (j:Option Code):Obj:= .loop {state:=s,pending:=j,fn,tmps:=T,params:=ps,assign,body,defers:=D}
def roundX (i:Nat) (rec:LoopState→Option Code→Obj) (Qy:AV→List Item→Prop):Exit→List Nat→Fr→List Item→Prop
  | .normal,ms,_,st=>Qy (.bool true) (.raw i (rec .ready none)::st)
  | .ret,ms,_,st=>Qy (.bool false) (.raw i (rec .done (some .ret))::st)
  | .exit id,ms,_,st=>Qy (.bool false) (.raw i (rec .done (some (.exit id)))::st)
  |_,_,_,_=>False
section
variable {P:Program} {n:Nat} {σ:Fr} {st:List Item}
theorem AYields.round {i:Nat} {T:Array Value} {fn:FuncId} {ps:Array Tmp} {assign body:Code} {D:Nat} {RS:LoopState→Option Code→Obj} (hRS:RS=lrec fn T ps assign body D) {avs:List AV} {Qy:AV→List Item→Prop} (hps: ∀ p∈ps.toList,p<n) (hlen:avs.length=ps.toList.length)
  (h: ∀ l,AWX (some l) P n assign [] (psFr ps.toList avs σ) st (thenX (fun ms σ1 st1=>ms=[]∧AWX (some l) P n body [] σ1 st1 (roundX i RS Qy)) (fun _ _ _ _=>False))):
  AYields P (.yld i n σ T) avs (.raw i (RS .ready none)::st) Qy:=fun F g w u vs hw hu hv=>by
  subst hRS;obtain⟨b,p,s,hl,rfl,hf⟩:=AV.yld_holds.1 hu;have hw0:RelW g (.raw i (lrec fn T ps assign body D .ready none)::(st++F)) w:=hw;have hat:=hw0.rawAt hl;refine⟨b,_,rfl,hat,by rw [←hv.length,hlen];simp,?_⟩;have hfr:=psFr_rel ps.toList avs vs σ T hf hps hlen hv;have hfold:(ps.zip vs.toArray).foldl (fun t (x:Tmp×Value)=>t.setIfInBounds x.1 x.2) T=(ps.toList.zip vs).foldl (fun t (x:Tmp×Value)=>t.setIfInBounds x.1 x.2) T:=by
   rw [←Array.foldl_toList,Array.toList_zip]
  refine roundIn_of_wpIn (F:=Fence.wide) (n:=0) trivial ?_;have hw1:RelW g (st++(.raw i (lrec fn T ps assign body D .ready none)::F)) w:=hw0.perm List.perm_middle.symm;have h1:=h b (.raw i (lrec fn T ps assign body D .ready none)::F) g ⟨(ps.zip vs.toArray).foldl (fun t (x:Tmp×Value)=>t.setIfInBounds x.1 x.2) T,[]⟩ w (by rw [hfold];exact hfr) trivial hw1;refine wpIn_mono h1 ?_;rintro e a1 w1 ⟨g1,σ1,st1,ms1,hx1,hf1,hm1,hw1,hq⟩;cases e with
  |normal=>
   obtain⟨rfl,hb⟩:=hq;have hl1:=hx1.le.loc _ _ hl;have hw2:RelW g1 (.raw i (lrec fn T ps assign body D .ready none)::(st1++F)) w1:=hw1.perm List.perm_middle;refine⟨_,run_beginRound (hw2.rawAt hl1) rfl,?_⟩;have hw3:=hw2.putRaw (o':=lrec fn T ps assign body D .busy none) hl1;have hw4:RelW g1 (st1++(.raw i (lrec fn T ps assign body D .busy none)::F)) (w1.putObj b (lrec fn T ps assign body D .busy none)):=hw3.perm List.perm_middle.symm;refine wpIn_mono (hb (.raw i (lrec fn T ps assign body D .busy none)::F) g1 a1 _ hf1 hm1 hw4) ?_;rintro e2 a2 w2 ⟨g2,σ2,st2,ms2,hx2,hf2,hm2,hw5,hq2⟩;have hl2:=hx2.le.loc _ _ hl1;have hw6:RelW g2 (.raw i (lrec fn T ps assign body D .busy none)::(st2++F)) w2:=hw5.perm List.perm_middle;cases e2 with
   |normal=>exact⟨_,_,run_endRound none (hw6.rawAt hl2),_,.bool true,_,g2,rfl,hx1.trans hx2,hw6.putRaw hl2,AV.val_self _,hq2⟩
   |ret=>exact⟨_,_,run_endRound (some .ret) (hw6.rawAt hl2),_,.bool false,_,g2,rfl,hx1.trans hx2,hw6.putRaw hl2,AV.val_self _,hq2⟩
   |exit id=>exact⟨_,_,run_endRound (some (.exit id)) (hw6.rawAt hl2),_,.bool false,_,g2,rfl,hx1.trans hx2,hw6.putRaw hl2,AV.val_self _,hq2⟩
   |goto t=>exact hq2.elim
   |panic c=>exact hq2.elim
   |outgrown=>exact hq2.elim
  |_=>exact hq.elim
def afterX (P:Program) (n:Nat) (ms:List Nat) (σ:Fr) (st:List Item) (Q:Exit→List Nat→Fr→List Item→Prop):Option Code→Prop
  |none=>Q .normal ms σ st
  |some c=>AWX none P n c ms σ st Q
theorem awx_rangeFunc {t:Tmp} {ps:Array Tmp} {assign body:Code} {fv:AV} {G:FuncId} {caps:List AV} [hF:Fun fv G caps] {ms:List Nat} {Q:Exit→List Nat→Fr→List Item→Prop} (hf:look σ t=some fv)
  (h: ∀ (iL iD:Nat) (T:Array Value) (fn:FuncId) (D:Nat) (RS:LoopState→Option Code→Obj) (hRS:RS=lrec fn T ps assign body D),ACalls P G ([AV.yld iL n σ T]++caps) (.raw iL (RS .ready none):: .raw iD (.deferred (some []))::st)
   (fun v st'=> ∃ s j stx,st'.Perm (.raw iL (RS s j)::stx)∧s≠ .busy∧afterX P n (iD::ms) σ stx Q j)):
  AWX none P n (.rangeFunc (.tmp t) ps assign body) ms σ st Q:=fun F g a w hfr hm hw=>by
  refine wpIn_rangeFunc fun fn _=> ?_;obtain⟨u,hu1,hu2⟩:=hfr.slot _ _ hf;obtain⟨us,hu3,hus⟩:=AV.clo_holds.1 (hF.imp _ _ hu2);have hu1':a.tmps[t]?=some u:=hu1;have hev:a.eval (.tmp t)= .func (.func G) #[] us.toArray:=by
   show a.tmps.getD t undef=_;rw [Array.getD_eq_getD_getElem?,hu1',hu3];rfl
  have hw0:RelW g (st++F) w:=hw;have hD:=hw0.fresh g.next (Nat.le_refl _);have hw1:=hw0.allocRaw hD (.deferred (some []));have hx1:g.ext (g.setLoc g.next (w.heap.size,0,0)):=(Ghost.to_setLoc hD).ext (Nat.le_refl _);generalize hg1:g.setLoc g.next (w.heap.size,0,0)=g1 at hw1 hx1;have hlD:g1.loc g.next=some (w.heap.size,0,0):=by rw [←hg1];exact Ghost.setLoc_same
  have hL:=hw1.fresh g1.next (Nat.le_refl _);have hw2:=hw1.allocRaw hL (lrec fn a.tmps ps assign body w.heap.size .ready none);have hx2:=(Ghost.to_setLoc (x:=((w.alloc (.deferred (some []))).heap.size,0,0)) hL).ext (Nat.le_refl _);have hlL:=Ghost.setLoc_same (g:=g1) (i:=g1.next) (x:=((w.alloc (.deferred (some []))).heap.size,0,0));generalize hg2:g1.setLoc g1.next ((w.alloc (.deferred (some []))).heap.size,0,0)=g2 at hw2 hx2 hlL;rw [World.size_alloc] at hlL;have hx:=hx1.trans hx2;have hlD2:=hx2.le.loc _ _ hlD;generalize hW:(w.alloc (.deferred (some []))).alloc (lrec fn a.tmps ps assign body w.heap.size .ready none)=W at hw2;refine⟨w.heap.size+1,[{target:= .collected w.heap.size,args:= #[]}],W,{target:= .fn (.func G) us.toArray,args:= #[.func (.yield (w.heap.size+1)) #[] #[]]},W,G,
   #[.func (.yield (w.heap.size+1)) #[] #[]]++us.toArray,W,by rw [←hW];exact run_enterLoop_outer _ _ _ _ _,?_,fun _ _=>trivial,?_,fun e=>by simp [wd,Fence.wide] at e,?_⟩
  ·simp only [resolve,hev];simp [go_sem]
  ·simp only [invoke];rw [run_callFunc (h 0 0 #[] 0 0 _ rfl).1]
  ·have hH:=(h g1.next g.next a.tmps fn w.heap.size _ rfl).2 F g2 _ (.func (.yield (w.heap.size+1)) #[] #[]::us) (by simpa using hw2) (by
    refine⟨AV.yld_holds.2 ⟨_,_,_,hlL,rfl,hfr.mono hx.le⟩,hus.mono hx.le⟩)
   have hargs:(#[.func (.yield (w.heap.size+1)) #[] #[]]++us.toArray:Array Value)=(.func (.yield (w.heap.size+1)) #[] #[]::us).toArray:=by apply Array.ext';simp
   rw [hargs];refine callsIn_wd (hH.mono ?_);rintro e w3 ⟨u',v,st',g3,rfl,hx3,hw3,_,s,j,stx,hpm,hs,hj⟩;have hl3:=hx3.le.loc _ _ hlL;have hw3':RelW g3 (.raw g1.next (lrec fn a.tmps ps assign body w.heap.size s j)::(stx++F)) w3:=hw3.perm (hpm.append_right F);have hw4:=(hw3'.putRaw (o':=lrec fn a.tmps ps assign body w.heap.size .exhausted j) hl3).tailOf;have hxx:=hx.trans hx3;have hmk:Marks g3 (g.next::ms) ([{target:= .collected w.heap.size,args:= #[]}]++a.defers):=⟨⟨_,_,_,hx3.le.loc _ _ hlD2,rfl⟩,hm.mono hxx.le⟩
   have hfr3:RelF n g3 σ {a with defers:=[]}:=hfr.mono hxx.le;refine⟨j,_,run_endLoop (hw3'.rawAt hl3) hs,?_⟩;cases j with
   |none=>exact⟨g3,σ,stx,_,hxx,hfr3,hmk,hw4,hj⟩
   |some c=>exact wpx_ext hxx (hj F g3 {a with defers:=[{target:= .collected w.heap.size,args:= #[]}]++a.defers} _ hfr3 hmk hw4)
theorem awx_loop2 {ro:Option Nat} {c:Code} {ms:List Nat} {Q:Exit→List Nat→Fr→List Item→Prop} {X:Type} (ts:List Nat) {σk:Fr} (hk:Keeps σ ts σk) {rest:List Item} (mod:Fr→X→Fr) (mit:List Item→X→List Item) (dom:X→Prop) (μ:X→Nat) (x0:X) (hstart:Weak n σ st (mod σk x0) (mit rest x0)) (h0:dom x0)
  (hround: ∀ x,dom x→AWX ro P n c ms (mod σk x) (mit rest x) (thenX (fun ms' σ' st'=>ms'=ms∧ ∃ x',dom x'∧μ x'<μ x∧Weak n σ' st' (mod σk x') (mit rest x')) Q)):AWX ro P n (.loop c) ms σ st Q:=by
  intro F g a w hf hm hw;obtain⟨g0,hx0,hf0,hw0⟩:=hstart F g _ w hf hw;let I:Act→World→Nat→Prop:=fun a w m=> ∃ x g1,dom x∧μ x=m∧g.ext g1∧RelF n g1 (mod σk x) {a with defers:=[]}∧Marks g1 ms a.defers∧RelW g1 (mit rest x++F) w;have key: ∀ m a w,I a w m→ ∀ (b:Frame) (k:List Go.Item) (cs:List Frame),b.roundOf=(wd ro).round→(wd ro).fn b.fn→(wd ro).room (cs.length+1+0)→
   ∃ e a' w',(∃ g' σ' st' ms',g.ext g'∧RelF n g' σ' {a' with defers:=[]}∧Marks g' ms' a'.defers∧RelW g' (st'++F) w'∧Q e ms' σ' st')∧ArrivesIn (Machine.fenced P (wd ro)) P (lone (b.atR a (.code c:: .inLoop c::k)) cs w) b k cs e a' w':=by
   intro m;induction m using Nat.strongRecOn with
   |_ m ih=>
    rintro a w ⟨x,g1,hd,hmx,hx1,hf1,hm1,hw1⟩ b k cs hro hb hr;obtain⟨e,a₁,w₁,⟨g',σ',st',ms',hx,hf',hm',hw',hq⟩,harr⟩:=hround x hd F g1 a w hf1 hm1 hw1 b (.inLoop c::k) cs hro hb hr;cases e with
    |normal=>
     obtain⟨rfl,x',hd',hlt,hwk⟩:=hq;obtain⟨g2,hx2,hf2,hw2⟩:=hwk F g' _ w₁ hf' hw';obtain⟨e₂,a₂,w₂,hq₂,harr₂⟩:=ih (μ x') (hmx ▸ hlt) a₁ w₁ ⟨x',g2,hd',rfl,(hx1.trans hx).trans hx2,hf2,hm'.mono hx2.le,hw2⟩ b k cs hro hb hr;exact⟨e₂,a₂,w₂,hq₂,.of_steps (StepsIn.trans harr (.one (fenced_calm hb hr rfl) stepR_inLoop)) harr₂⟩
    |exit id=>exact⟨_,a₁,w₁,⟨g',σ',st',ms',hx1.trans hx,hf',hm',hw',hq⟩,.pass (x:= .inLoop c) rfl (fun _ _=> .inl (by simp)) harr⟩
    |goto l=>exact⟨_,a₁,w₁,⟨g',σ',st',ms',hx1.trans hx,hf',hm',hw',hq⟩,.pass (x:= .inLoop c) rfl (fun _ _=> .inl (by simp)) harr⟩
    |ret=>exact⟨_,a₁,w₁,⟨g',σ',st',ms',hx1.trans hx,hf',hm',hw',hq⟩,.pass (x:= .inLoop c) rfl (fun _ _=> .inl (by simp)) harr⟩
    |panic ch=>exact⟨_,a₁,w₁,⟨g',σ',st',ms',hx1.trans hx,hf',hm',hw',hq⟩,.pass (x:= .inLoop c) rfl (fun _ _=> .inl (by simp)) harr⟩
    |outgrown=>exact⟨_,a₁,w₁,⟨g',σ',st',ms',hx1.trans hx,hf',hm',hw',hq⟩,.pass (x:= .inLoop c) rfl (fun _ _=> .inl (by simp)) harr⟩
  intro b k cs hro hb hr;obtain⟨e,a',w',hq,harr⟩:=key _ a w ⟨x0,g0,h0,rfl,hx0,hf0,hm.mono hx0.le,hw0⟩ b k cs hro hb hr;exact⟨e,a',w',hq,.of_steps (.one (fenced_calm hb hr rfl) stepR_loop) harr⟩
def markIts (ms:List Nat):List Item:=ms.map fun m=> .raw m (.deferred (some []))
def RetX (P:Program) (rs:List ResultVar) (Q:AV→List Item→Prop) (e:Exit) (ms:List Nat) (σ:Fr) (st:List Item):Prop:=
  (e= .normal∨e= .ret)∧ ∃ st1,st.Perm (markIts ms++st1)∧ ∃ vs,ResAll P σ st1 rs vs∧ ∃ v st',VShift (shutRes vs) st1 v st'∧Q v st'
theorem leaves_marks {fn:Func} {tmps:Array Value} {R:Ending→World→Prop} {g:Ghost} {rest:List Item} (hend: ∀ w,RelW g rest w→ ∃ v,(results fn tmps).run P w= .ok v w∧R (.returned v) w):
  ∀ (ms:List Nat) (ds:List Deferred) (w:World),Marks g ms ds→RelW g (markIts ms++rest) w→LeavesInM (wd none) 0 P fn tmps R ds .returning w
  | [],[],w,_,hw=>hend w hw
  |m::ms,d::ds,w,⟨⟨b,p,s,hl,hd⟩,hm⟩,hw=>by
   have hw':RelW g (.raw m (.deferred (some []))::(markIts ms++rest)) w:=hw;refine⟨by simp,.inl ⟨b,_,by rw [hd],run_takeDeferred (hw'.rawAt hl),?_⟩⟩;exact leaves_marks hend ms ds _ hm (hw'.putRaw (o':= .deferred none) hl).tailOf
  | [],_::_,_,h,_=>h.elim
  |_::_,[],_,h,_=>h.elim
theorem acallsX_body {f:FuncId} {fn:Func} {c:Code} {args:List AV} {Q:AV→List Item→Prop}
  (hf:P.funcs[f]?=some fn) (hc:callable P f=true) (hb:fn.body=some c) (hn:fn.ntmps=n) (hl:args.length≤n)
  (h:AWX none P n c [] (initFr 0 args) st (RetX P fn.results.toList Q)):ACalls P f args st Q:=by
  refine⟨hc,fun F g w vs hw hv=>(callsIn_wide (n:=0)).1 (callsIn_of_wp_marks (F:=Fence.wide) hf hb trivial (wpIn_mono (h F g _ w ?_ trivial hw) ?_))⟩
  ·have hlen:=hv.length;refine⟨by simp;omega,rfl,fun t v e=> ?_⟩;obtain⟨_,h2⟩:=look_initFr args 0 t v e;obtain⟨u,p,q⟩:=hv.get _ _ h2;refine⟨u,?_,q⟩;simp only [Nat.sub_zero] at p;have hlt:t<vs.length:=by
    rcases Nat.lt_or_ge t vs.length with h|h
    ·exact h
    ·simp [List.getElem?_eq_none h] at p
   simp only [List.size_toArray,Array.getElem?_append,if_pos hlt];simpa using p
  ·rintro e a' w' ⟨g',σ',st',ms',hx,hf',hm',hw',he,st1,hp,avs,hres,v,st'',hsh,hq⟩;have key:LeavesInM (wd none) 0 P fn a'.tmps (fun e w'=> ∃ u v st' g',e=Ending.returned u∧g.ext g'∧RelW g' (st'++F) w'∧v.holds g' u∧Q v st') a'.defers .returning w':=by
    refine leaves_marks (rest:=st1++F) (fun w2 hw2=> ?_) ms' a'.defers w' hm' (by rw [←List.append_assoc];exact hw'.perm (hp.append_right F));obtain⟨us,k1,k2⟩:=run_results hf' hw2 hres;have hrun:(results fn a'.tmps).run P w2= .ok (if h:us.toArray.size=1 then us.toArray[0] else .tuple us.toArray) w2:=by
     unfold results;rw [←Array.toArray_toList (xs:=fn.results),List.mapM_toArray,Sem.run_bind];change Result.andThen (Sem.run P (List.mapM _ fn.results.toList>>=fun x=>pure x.toArray) w2) _=_;rw [Sem.run_bind];exact congrArg (fun r=>Result.andThen (Result.andThen r (fun a w'=>Sem.run P (pure a.toArray) w')) (fun a w'=>Sem.run P (pure (if h:a.size=1 then a[0] else Value.tuple a)) w')) k2
    obtain⟨g'',hx'',hw'',hv''⟩:=hsh F g' _ w2 hw2 (shutRes_holds k1);exact⟨_,hrun,_,v,st'',g'',rfl,hx.trans hx'',hw'',hv'',hq⟩
   rcases he with rfl|rfl
   ·exact key
   ·exact key
end
end Go.Aw
namespace Go.Aw
theorem retX {P:Program} {rs:List ResultVar} {Q:AV→List Item→Prop} {e:Exit} {ms:List Nat} {σ:Fr} {st st1:List Item} {vs:List AV} {v:AV} {st':List Item} (he:e= .normal∨e= .ret) (hp:st.Perm (markIts ms++st1)) (h:ResAll P σ st1 rs vs) (hs:VShift (shutRes vs) st1 v st') (hq:Q v st'):RetX P rs Q e ms σ st:=
  ⟨he,st1,hp,vs,h,v,st',hs,hq⟩
end Go.Aw
namespace Go.Aw
section
variable {ro:Option Nat} {P:Program} {n:Nat} {σ:Fr} {st:List Item} {ms:List Nat} {Q:Exit→List Nat→Fr→List Item→Prop}
theorem awx_regionYk {id:Nat} {l:List Oper} (k:Nat) {d t:Nat} {args:Array Operand} {ts:Array TypeId} {ty:TypeId} {pos:String} {after:Array Edge}
  (hk:l[k]?=some ⟨some d,.call {callee:= .value (.tmp t),args:=args,argTypes:=ts},ty,pos,after,none⟩) (hp:l.all plainOp=true) (hd:Nat.blt d n=true)
  (h:AOps P n l.toArray (l.take k) σ st (fun σ1 st1=> ∃ yv vs,look σ1 t=some yv∧EvL σ1 args.toList vs∧AYields P yv vs st1 (fun v st2=>AOps P n l.toArray (l.drop (k+1)) ((d,v)::σ1) st2 (fun σ' st'=>Q .normal ms σ' st')))):
  AWX ro P n (.region id l.toArray false) ms σ st Q:=by
  have hlt:k<l.length:=by
   rcases Nat.lt_or_ge k l.length with h|h
   ·exact h
   ·rw [List.getElem?_eq_none h] at hk;cases hk
  have hg:l[k]=⟨some d,.call {callee:= .value (.tmp t),args:=args,argTypes:=ts},ty,pos,after,none⟩:=by
   rw [List.getElem?_eq_getElem hlt] at hk;exact Option.some.inj hk
  have hp':=List.all_eq_true.1 hp;refine awx_regionY (l1:=l.take k) (l2:=l.drop (k+1)) (d:=d) (t:=t) (args:=args) (ts:=ts) (ty:=ty) (pos:=pos) (after:=after) ?_ (List.all_eq_true.2 fun o ho=>hp' o (List.mem_of_mem_take ho)) (List.all_eq_true.2 fun o ho=>hp' o (List.mem_of_mem_drop ho)) hd h;rw [←hg,←List.drop_eq_getElem_cons hlt,List.take_append_drop]
end
end Go.Aw
namespace Wl
structure W where
  task:Int
  op:Int
  value:Int
  prio:Int
  case_:Int
  deriving DecidableEq,Inhabited
def valid (w:W):Bool:= !(decide (w.task<0)||decide (16≤w.task)||decide (w.op<1)||decide (99<w.op)||decide (w.value< -1099511627776)||decide (1099511627776<w.value)) && (decide (0≤w.prio) && decide (w.prio≤9) && decide (-1≤w.case_) && decide (w.case_<6))
def chk (d:Int):Option W→List W→Int
  |_,[]=>0
  |p,w::r=>if valid w=false then 2 else if d=2∧(∃ q∈p,q.prio<w.prio) then 9 else chk d (some w) r
def find (l:List W) (t:Int):Option Nat:=l.findIdx? (fun w=>decide (w.task=t))
def findI (l:List W) (t:Int):Int:=match find l t with|some i=>i|none=>0
def findB (l:List W) (t:Int):Bool:=(find l t).isSome
theorem toNat_pred (k:Nat):((k:Int) - 1).toNat=k - 1:=by omega
def place (d:Int) (l:List W) (p:Int):Nat→Nat
  |0=>0
  |k+1=>if d=2∧(l.getD k default).prio<p then place d l p k else k+1
def kp (l:List W) (p:Nat→Bool):Nat→List W
  |0=>[]
  |k+1=>if p k then kp l p k++[l.getD k default] else kp l p k
structure G where
  g:List W
  o:List W
  u:Int
  s:Bool
def ix {α:Type} (l:List α) (q:α→Bool):Int:=match l.findIdx? q with|some i=>i|none=> -1
def flatK {α:Type} (L:List (List α)) (k:Nat):List α:=(L.take k).flatten
def ins (q:List W) (x:W):List W:=q.take (place 2 q x.prio q.length)++x::q.drop (place 2 q x.prio q.length)
end Wl
namespace Wl
structure Cur where
  task:Int
  backlog:List Int
  deriving DecidableEq,Inhabited
structure St where
  owner:Int
  count:Int
  time:Int
  holders:List Int
  queue:List W
  buffer:List Int
  cursors:List Cur
  closed:Bool
  value:Int
  deriving DecidableEq,Inhabited
structure Wk where
  task:Int
  op:Int
  value:Int
  ok:Bool
  case_:Int
  deriving DecidableEq,Inhabited
def S0:St:=⟨0,0,0,[],[],[],[],false,0⟩
def smN (n:Nat) (s:St):Prop:=s.holders.length≤n∧s.queue.length≤n∧s.buffer.length≤n∧s.cursors.length≤n∧ ∀ c∈s.cursors,c.backlog.length≤n
class Sm (s:St) (n:outParam Nat):Prop where
  sm:smN n s
end Wl
namespace Go.Aw
open Wl
end Go.Aw
namespace Wl
def idxI (l:List Int) (t:Int):Int:=match l.findIdx? (fun n=>decide (n=t)) with|some i=>i|none=> -1
theorem idxI_at (l:List Int) (t:Int) (k:Nat) (hk:k<l.length) (h:l[k]=t) (hno: ∀ i (h:i<l.length),i<k→l[i]≠t):idxI l t=(k:Int):=by
  have:l.findIdx? (fun n=>decide (n=t))=some k:=by
   rw [List.findIdx?_eq_some_iff_getElem];exact⟨hk,by simpa using h,fun j hj=>by simpa using hno j (by omega) hj⟩
  unfold idxI;rw [this]
theorem idxI_no (l:List Int) (t:Int) (hno: ∀ i (h:i<l.length),l[i]≠t):idxI l t= -1:=by
  have:l.findIdx? (fun n=>decide (n=t))=none:=by
   rw [List.findIdx?_eq_none_iff];intro x hx;obtain⟨i,hi,rfl⟩:=List.getElem_of_mem hx;simpa using hno i hi
  unfold idxI;rw [this]
theorem idxI_mem (l:List Int) (t:Int):0≤idxI l t↔t∈l:=by
  unfold idxI;cases h:l.findIdx? (fun n=>decide (n=t)) with
  |some i=>
   rw [List.findIdx?_eq_some_iff_getElem] at h;obtain⟨hi,he,_⟩:=h;exact⟨fun _=>by simp at he;rw [←he];exact List.getElem_mem hi,fun _=>by simp⟩
  |none=>
   rw [List.findIdx?_eq_none_iff] at h;constructor
   ·intro h;simp at h
   ·intro hm;have:=h t hm;simp at this
end Wl
namespace Go.Aw
open Wl
end Go.Aw
namespace Wl
end Wl
namespace Wl
def idxF {α:Type} (p:α→Bool) (l:List α):Int:=match l.findIdx? p with|some i=>i|none=> -1
theorem idxF_at {α:Type} (p:α→Bool) (l:List α) (k:Nat) (hk:k<l.length) (h:p l[k]=true) (hno: ∀ i (h:i<l.length),i<k→p l[i]=false):idxF p l=(k:Int):=by
  have:l.findIdx? p=some k:=by
   rw [List.findIdx?_eq_some_iff_getElem];exact⟨hk,h,fun j hj=>by simpa using hno j (by omega) hj⟩
  unfold idxF;rw [this]
theorem idxF_no {α:Type} (p:α→Bool) (l:List α) (hno: ∀ i (h:i<l.length),p l[i]=false):idxF p l= -1:=by
  have:l.findIdx? p=none:=by
   rw [List.findIdx?_eq_none_iff];intro x hx;obtain⟨i,hi,rfl⟩:=List.getElem_of_mem hx;simpa using hno i hi
  unfold idxF;rw [this]
theorem idxF_any {α:Type} (p:α→Bool) (l:List α):decide (0≤idxF p l)=l.any p:=by
  unfold idxF;cases h:l.findIdx? p with
  |some i=>
   have:=List.findIdx?_isSome (xs:=l) (p:=p);rw [h] at this;rw [←this];simp
  |none=>
   have:=List.findIdx?_isSome (xs:=l) (p:=p);rw [h] at this;rw [←this];simp
end Wl
namespace Wl
end Wl
namespace Go.Aw
open Wl
end Go.Aw
namespace Go.Aw
def ea (m:Nat) (f:Int→AV):List AV:=(List.range m).map (fun (j:Nat)=>f (j:Int))
theorem ea_len (m:Nat) (f:Int→AV):(ea m f).length=m:=by simp [ea]
theorem ea_congr {m:Nat} {f g:Int→AV} (h: ∀ j:Int,0≤j∧j<m→f j=g j):ea m f=ea m g:=by
  unfold ea;refine List.map_congr_left fun j hj=> ?_;have:=List.mem_range.1 hj;rw [h j (by omega)]
theorem ea_make (m:Nat) (v:Value):(List.replicate m (List.map AV.val [v])).flatten=ea m (fun _=> .val v):=by
  refine List.ext_getElem (by simp [List.length_flatten,ea]) fun i h1 h2=> ?_;simp [ea] at h1 h2 ⊢
theorem ea_getN {m:Nat} (f:Int→AV) {t:Nat} (h:t<m):(ea m f)[0+t*1]?=some (f t):=by
  rw [Nat.zero_add,Nat.mul_one,ea,List.getElem?_map,List.getElem?_range h];rfl
theorem ea_get {m:Nat} (f:Int→AV) {t:Int} (h:0≤t∧t<m):(ea m f)[0+t.toNat*1]?=some (f t):=by
  rw [ea_getN f (by omega),Int.toNat_of_nonneg h.1]
theorem ea_set {m:Nat} (f:Int→AV) {t:Int} (v:AV) (h:0≤t∧t<m):setMany (ea m f) (0+t.toNat*1) [v]=ea m (fun j=>if j=t then v else f j):=by
  have hl:(setMany (ea m f) (0+t.toNat*1) [v]).length=m:=by rw [setMany_len (by simp [ea_len];omega),ea_len]
  refine List.ext_getElem? fun j=> ?_;rcases Nat.lt_or_ge j m with hj|hj
  ·have e1:=ea_getN (fun j=>if j=t then v else f j) hj;have e0:=ea_getN f hj;rw [Nat.zero_add,Nat.mul_one] at e1 e0;rw [e1,Nat.zero_add,Nat.mul_one];have hn:(List.take t.toNat (ea m f)).length=t.toNat:=by rw [List.length_take,ea_len];omega
   unfold setMany;rcases Nat.lt_trichotomy j t.toNat with h1|h1|h1
   ·rw [List.append_assoc,List.getElem?_append_left (by omega),List.getElem?_take_of_lt h1,e0,if_neg (by omega)]
   ·subst h1;rw [List.append_assoc,List.getElem?_append_right (by omega),hn,Nat.sub_self,if_pos (by omega)];rfl
   ·rw [List.getElem?_append_right (by simp only [List.length_append,hn,List.length_singleton];omega)];simp only [List.length_append,hn,List.length_singleton,List.getElem?_drop];rw [show t.toNat+1+(j - (t.toNat+1))=j by omega,e0,if_neg (by omega)]
  ·rw [List.getElem?_eq_none (by omega),List.getElem?_eq_none (by simp [ea_len];omega)]
theorem ea_row {α:Type} (enc:α→AV) (m:Nat) (s:Int→α):(((List.range m).map (fun (j:Nat)=>s (j:Int))).map (fun b=>[enc b])).flatten=ea m (fun j=>enc (s j)):=by
  unfold ea;rw [List.map_map];induction List.range m with
  |nil=>rfl
  |cons a l ih=>simp only [List.map_cons,List.flatten_cons,ih];rfl
theorem ImpL.of_eq {a b:List AV} (h:a=b):ImpL a b:=h ▸ ImpL.refl a
theorem ea_imp {m:Nat} {f g:Int→AV} (h: ∀ j:Int,0≤j∧j<m→(f j).Imp (g j)):ImpL (ea m f) (ea m g):=by
  unfold ea;have key: ∀ l:List Nat,(∀ j∈l,j<m)→ImpL (l.map (fun (j:Nat)=>f (j:Int))) (l.map (fun (j:Nat)=>g (j:Int))):=by
   intro l;induction l with
   |nil=>exact fun _=> .nil
   |cons a l ih=>exact fun hl=> .cons (h _ (by have:=hl a (by simp);omega)) (ih (fun j hj=>hl j (by simp [hj])))
  exact key _ (fun j hj=>List.mem_range.1 hj)
def bl {α:Type} (m:Nat) (s:Int→α):List α:=(List.range m).map (fun (j:Nat)=>s (j:Int))
theorem bl_len {α:Type} (m:Nat) (s:Int→α):(bl m s).length=m:=by simp [bl]
theorem bl_get {α:Type} (m:Nat) (s:Int→α) (k:Nat) (h:k<(bl m s).length):(bl m s)[k]=s (k:Int):=by simp [bl]
theorem bl_getD {α:Type} (m:Nat) (s:Int→α) (k:Nat) (d:α) (h:k<m):(bl m s).getD k d=s (k:Int):=by simp [bl,List.getD,h]
def tails (m:Nat) (T:Int→Option Nat):List Item:=(List.range m).map (fun (j:Nat)=> .tail (T (j:Int)))
def tailsX (m u:Nat) (T:Int→Option Nat):List Item:=((List.range m).filter (fun j=>decide (j≠u))).map (fun (j:Nat)=> .tail (T (j:Int)))
theorem perm_out {u:Nat}: ∀ l:List Nat,l.Nodup→u∈l→l.Perm (u::l.filter (fun j=>decide (j≠u)))
  | [],_,h=>by cases h
  |a::l,hn,h=>by
   rw [List.nodup_cons] at hn;by_cases e:a=u
   ·subst e;rw [List.filter_cons_of_neg (by simp),List.filter_eq_self.2 (fun x hx=>by simp;rintro rfl;exact hn.1 hx)]
   ·have hm:u∈l:=by
     rcases List.mem_cons.1 h with h|h
     ·exact absurd h.symm e
     ·exact h
    rw [List.filter_cons_of_pos (by simpa using e)];exact ((perm_out l hn.2 hm).cons a).trans (List.Perm.swap _ _ _)
theorem tails_perm {m u:Nat} (T:Int→Option Nat) (h:u<m):(tails m T).Perm (.tail (T u)::tailsX m u T):=
  (perm_out (List.range m) List.nodup_range (List.mem_range.2 h)).map _
theorem tailsX_upd {m u:Nat} (T:Int→Option Nat) (t:Option Nat):tailsX m u (fun j=>if j=(u:Int) then t else T j)=tailsX m u T:=by
  unfold tailsX;refine List.map_congr_left fun j hj=> ?_;have hne:j≠u:=by simpa using (List.mem_filter.1 hj).2
  simp only;rw [if_neg (by omega)]
theorem tails_perm2 {m u:Nat} (T:Int→Option Nat) (t:Option Nat) (h:u<m):(Item.tail t::tailsX m u T).Perm (tails m (fun j=>if j=(u:Int) then t else T j)):=by
  have:=(tails_perm (fun j=>if j=(u:Int) then t else T j) h).symm;rw [tailsX_upd,if_pos rfl] at this;exact this
theorem tails_none (m:Nat): ∀ st:List Item,∀ {n:Nat} {σ:Fr},Weak n σ st σ (tails m (fun _=>none)++st):=by
  unfold tails;induction List.range m with
  |nil=>intro st n σ;exact Weak.refl _ _ _
  |cons a l ih=>intro st n σ;exact Weak.trans (ih st) Weak.tail0
end Go.Aw
namespace Go.Aw
section
variable {P:Program} {n:Nat} {ops:Array Oper} {A:List Item}
theorem anyUpon_defers {R:Act→World→Prop} (hR: ∀ a w,R a w→a.defers=[]): ∀ (fuel:Nat) (L:Array Bool) (a:Act) (w:World),a.defers≠[]→wpAny P .any ops (fun e a' w'=>e= .normal∧R a' w') fuel L a w→False
  |0,L,a,w,hd,h=>hd (hR _ _ h.2.2)
  |fuel+1,L,a,w,hd,h=>by
   have ih:=anyUpon_defers (R:=R) hR fuel;obtain⟨h0,h1⟩:=h;cases hr:Region.ready .any ops L with
   |nil=>exact hd (hR _ _ (h0 hr).2)
   |cons i is=>
    have h:=h1 i (by rw [hr];simp);unfold wpOp at h;split at h
    ·exact ih _ _ _ hd h
    ·rename_i o ho;have hput: ∀ (a:Act) (d:Option Tmp) (v:Value),a.defers≠[]→(a.put d v).defers≠[]:=fun a d v h=>by cases d<;>exact h
     split at h
     ·rcases h with h|⟨_,a0,w0,e,_⟩
      ·unfold Oper.wp at h;generalize (execOp a.eval o).run P w=r at h;cases r with
       |halt x w'=>cases x<;>simp only [Oper.upon] at h<;>first|exact h| (obtain⟨e,_⟩:=h;cases e)
       |ok x w'=>
        cases x<;>simp only [Oper.upon] at h<;>first
         |exact h
         |exact ih _ _ _ (hput _ _ _ hd) h
         |exact ih _ _ _ (hput _ _ _ (by simp)) h
         | (
          obtain⟨e,w2,fr,hr,_⟩:=h [];cases e with
          |returned v=>exact ih _ _ _ (hput _ _ _ hd) hr
          |panicked c=>obtain⟨e,_⟩:=hr;cases e
          |outgrown=>obtain⟨_,_,e,_⟩:=hr;cases e)
         | (
          obtain⟨v,w2,hr,_⟩:=h default [];exact ih _ _ _ (hput _ _ _ hd) hr)
      ·cases e
     ·exact ih _ _ _ (hput _ _ _ hd) h
theorem any_in {ro:Option Nat} {R:Act→World→Prop} {Qx:Exit→Act→World→Prop} {ds:List Deferred} (hR: ∀ a w,R a w→a.defers=[]) (hp: ∀ o∈ops.toList,plainOp o=true)
  (hk: ∀ t' w',R ⟨t',[]⟩ w'→Qx .normal ⟨t',ds⟩ w'): ∀ (fuel:Nat) (L:Array Bool) (t:Array Value) (w:World),
  wpAny P .any ops (fun e a' w'=>e= .normal∧R a' w') fuel L ⟨t,[]⟩ w→wpAnyIn (wd ro) 0 P .any ops Qx fuel L ⟨t,ds⟩ w
  |0,L,t,w,h=>⟨h.1,hk _ _ h.2.2⟩
  |fuel+1,L,t,w,h=>by
   have ih:=any_in (ro:=ro) (R:=R) (Qx:=Qx) (ds:=ds) hR hp hk fuel;obtain⟨h0,h1⟩:=h;refine⟨fun hr=>hk _ _ (h0 hr).2,fun i hi=> ?_⟩;have h:=h1 i hi;unfold wpOp at h;unfold wpOpIn;cases hoi:ops[i]? with
   |none=>rw [hoi] at h;exact ih _ _ _ h
   |some o=>
    rw [hoi] at h;simp only at h ⊢;have ho:=hp o (by
     obtain⟨hlt,e⟩:=Array.getElem?_eq_some_iff.1 hoi;rw [←e];simp)
    have hput: ∀ (v:Value),∃ t',(⟨t,[]⟩:Act).put o.dst v=⟨t',[]⟩∧(⟨t,ds⟩:Act).put o.dst v=⟨t',ds⟩:=fun v=>by
     cases o.dst with
     |none=>exact⟨t,rfl,rfl⟩
     |some d=>exact⟨t.setIfInBounds d v,rfl,rfl⟩
    by_cases hwn:Region.wanted o (yielded ops t)=true
    ·rw [if_pos hwn] at h;rw [if_pos hwn];refine⟨fun f _=>trivial,?_⟩;rcases h with h|⟨_,a0,w0,e,_⟩
     ·unfold Oper.wp at h;rw [semAt_plain ho];have hev:(⟨t,ds⟩:Act).eval=(⟨t,[]⟩:Act).eval:=by funext x;cases x<;>rfl
      rw [hev];generalize (execOp (⟨t,[]⟩:Act).eval o).run P w=r at h;cases r with
      |halt x w'=>cases x<;>simp only [Oper.upon] at h<;>first|exact h.elim| (obtain⟨e,_⟩:=h;cases e)
      |ok x w'=>
       cases x with
       |value v=>
        obtain⟨t',e1,e2⟩:=hput v;simp only [Oper.upon,e1] at h;simp only [Oper.uponIn,e2];exact ih _ _ _ h
       |skip=>
        obtain⟨t',e1,e2⟩:=hput undef;simp only [Oper.upon,e1] at h;simp only [Oper.uponIn,e2];exact ih _ _ _ h
       |defer d=>
        simp only [Oper.upon] at h;exact (anyUpon_defers hR _ _ _ _ (by cases o.dst<;>simp [Act.put]) h).elim
       |enter f args=>
        simp only [Oper.upon] at h;simp only [Oper.uponIn];refine⟨fun e=>by simp [wd,Fence.wide] at e,callsIn_wd (h.mono fun e w2 he=> ?_)⟩;cases e with
        |returned v=>
         obtain⟨t',e1,e2⟩:=hput v;have he':wpAny P .any ops _ fuel (L.setIfInBounds i true) ((⟨t,[]⟩:Act).put o.dst v) w2:=he;rw [e1] at he';show wpAnyIn (wd ro) 0 P .any ops Qx fuel (L.setIfInBounds i true) ((⟨t,ds⟩:Act).put o.dst v) w2;rw [e2];exact ih _ _ _ he'
        |panicked c=>obtain⟨e,_⟩:=he;cases e
        |outgrown=>obtain⟨_,_,e,_⟩:=he;cases e
       |row r args=>
        simp only [Oper.upon] at h;simp only [Oper.uponIn];refine⟨fun e=>by simp [wd,Fence.wide] at e,rowsIn_wd (h.mono fun v w2 he=> ?_)⟩;obtain⟨t',e1,e2⟩:=hput v;rw [e1] at he;rw [e2];exact ih _ _ _ he
       |_=>simp only [Oper.upon] at h
     ·cases e
    ·rw [if_neg hwn] at h;rw [if_neg hwn];obtain⟨t',e1,e2⟩:=hput undef;rw [e1] at h;rw [e2];exact⟨fun f _=>trivial,ih _ _ _ h⟩
theorem any_wp {l:List Oper} {ks:List Kd} {σ:Fr} {st:List Item} {Q:Fr→List Item→Prop}
  (B:List Item) (hp:st.Perm (B++A)) (hd: ∀ K,Drv P n l.toArray K A (fun σ' B'=>Q σ' (B'++A)) 0 l ks σ B) (hok:orderOk l.toArray ks=true)
  (F:List Item) (g:Ghost) (a:Act) (w:World) (hf:RelF n g σ a) (hw0:RelW g (st++F) w):
  wpAny P .any l.toArray (fun e a' w'=>e= .normal∧ ∃ g' σ' st',g.ext g'∧RelF n g' σ' a'∧RelW g' (st'++F) w'∧Q σ' st') l.toArray.size (Array.replicate l.toArray.size false) a {w with drawn:=w.drawn+1}:=by
  have hw:RelW g (B++(A++F)) w:=by rw [←List.append_assoc];exact hw0.perm (hp.append_right F)
  obtain⟨vals,sts,h0,hks,hs,hq⟩:=(Drv.steps (P:=P) (n:=n) (ops:=l.toArray) (K:=g.next) (A:=A) (Q:=fun σ' B'=>Q σ' (B'++A)) l [] ks [] (fun _=> .val undef) (fun _=>B) σ l ks rfl rfl rfl (fun i hi=>by simp at hi) (hd g.next))
  have hbump:g.ext {g with next:=g.next+l.length}:=⟨⟨rfl,rfl,fun _ _ _ h=>h,fun _ _ h=>h,by simp⟩,fun _ _=>rfl⟩
  have hN:l.toArray.toList=l:=by simp
  have hfr: ∀ m,frS l vals σ (fun i=>(Array.replicate l.toArray.size false).getD i false) m=σ:=by
   intro m;induction m with
   |zero=>rfl
   |succ m ih=>
    simp only [frS];rw [if_neg,ih];simp only [Array.getD_eq_getD_getElem?,Array.getElem?_replicate];split<;>simp
  have hst: ∀ m,stS ks sts (fun i=>(Array.replicate l.toArray.size false).getD i false) m=sts 0:=by
   intro m;induction m with
   |zero=>rfl
   |succ m ih=>
    have hno:(Array.replicate l.toArray.size false).getD m false=false:=by
     simp only [Array.getD_eq_getD_getElem?,Array.getElem?_replicate];split<;>simp
    simp only [stS];rw [if_neg (by rw [hno];simp),if_neg (by rw [hno];simp),ih]
  refine any_run (P:=P) (n:=n) (ops:=l.toArray) (K:=g.next) (A:=A) (ks:=ks) (vals:=vals) (sts:=sts) (σ0:=σ) (F:=F) (g0:=g) (by rw [hN];exact hks) (orderOk.p hok).1 (.inl (orderOk.p hok).2) (by rw [hN];exact hs) ?_ l.toArray.size _ {g with next:=g.next+l.length} a _ ?_ ?_
  ·intro g' a' w' hx hf' hw';rw [hN] at hf' hw';exact⟨rfl,g',_,_,hx,hf',by rw [List.append_assoc];exact hw',hq⟩
  ·refine⟨by simp,?_,?_,?_,hbump,?_,by simp,Nat.le_refl _⟩
   ·intro j o ho hS;simp only [Array.getD_eq_getD_getElem?,Array.getElem?_replicate] at hS;split at hS<;>simp at hS
   ·rw [hN,hfr];exact⟨hf.size,hf.defers,(hf.mono hbump.le).slot⟩
   ·rw [hst,h0];exact (hw.drew).evolve (row:=none) hbump.le ⟨rfl,rfl,rfl,Nat.le_refl _,fun _ _ _=>rfl⟩ (fun b hb=>by cases hb) (fun b o v hv=> .inl ⟨hv,by simp⟩) (fun it _ b _=>⟨by simp,fun _=>rfl⟩) (fun i hi=>hw.fresh i (by simp at hi;omega))
   ·intro i hi _;exact hw.fresh _ (Nat.le_add_right _ _)
  ·simp [List.countP_replicate]
theorem awx_anyT {ro:Option Nat} {ms:List Nat} {id:Nat} {l:List Oper} {ks:List Kd} {σ:Fr} {st:List Item} {Q:Exit→List Nat→Fr→List Item→Prop} (its:List Item) (ht:Takes st its A) (hm:P.follows .mixedOrders=true) (hp:l.all plainOp=true)
  (hd: ∀ K,Drv P n l.toArray K A (fun σ' B'=>Q .normal ms σ' (B'++A)) 0 l ks σ its) (hok:orderOk l.toArray ks=true):AWX ro P n (.region id l.toArray true) ms σ st Q:=fun F g a w hf hmk hw=>by
  refine wpIn_region_any hm ?_;have h2:=any_wp (Q:=fun σ' st'=>Q .normal ms σ' st') its ht.perm hd hok F g {a with defers:=[]} w hf hw;exact any_in (ro:=ro) (ds:=a.defers) (fun a w ⟨_,_,_,_,hf',_⟩=>hf'.defers) (by simpa using hp) (fun t' w' ⟨g',σ',st',hx,hf',hw',hq⟩=>⟨g',σ',st',ms,hx,hf',hmk.mono hx.le,hw',hq⟩) _ _ _ _ h2
end
end Go.Aw
namespace Go.Aw
@[irreducible] def AV.bnd (f:Nat) (fs:List AV):AV:=⟨fun g v=> ∃ us:List Value,v= .func (.func f) us.toArray #[]∧holdsL g fs us,fun h ⟨us,a,b⟩=>⟨us,a,b.mono h⟩⟩
theorem AV.bnd_holds {f:Nat} {fs:List AV} {g:Ghost} {v:Value}:(AV.bnd f fs).holds g v↔ ∃ us:List Value,v= .func (.func f) us.toArray #[]∧holdsL g fs us:=by unfold AV.bnd;rfl
section
variable {P:Program} {σ:Fr} {st:List Item} {i:Nat} {d:Option Tmp} {ty:TypeId} {pos:String} {after:Array Edge} {gd:Option (Nat×Bool)} {w:World}
theorem y_bound {f:Nat} {fs:Array Operand} {vs:List AV} (hx:EvL σ fs.toList vs):Yields P ⟨d,.makeFunc (.func f) fs #[],ty,pos,after,gd⟩ σ st i (.bnd f vs) st:=fun F g a w hw hi hs=>by
  have h:=hx.holds hs (by simp [Op.operands]);exact goes_value (u:= .func (.func f) (fs.map a.eval) #[]) (by simp [execOp,Instr.makeFunc]) ⟨g,Ghost.to.refl g i,hw,AV.bnd_holds.2 ⟨_,by congr 1;apply Array.ext';simp,h⟩⟩
theorem run_callB {c:Operand} {args:Array Operand} {ts:Array TypeId} {a:Act} {f:FuncId} {us:List Value} (hc:callable P f=true) (e:a.eval c= .func (.func f) us.toArray #[]):
  (execOp a.eval ⟨d,.call {callee:= .value c,args:=args,argTypes:=ts},ty,pos,after,gd⟩).run P w= .ok (.enter f (us++args.toList.map a.eval).toArray) w:=by
  simp only [execOp,resolve,Deferred.ofValue,e,Sem.run_bind,Sem.run_pure,Result.andThen_ok,invoke];rw [run_callFunc hc];congr 2
  apply Array.ext';simp
theorem y_callB {c:Operand} {args:Array Operand} {ts:Array TypeId} {f:FuncId} {fs vs:List AV} {v:AV} {st':List Item} (hc:Ev σ c (.bnd f fs)) (hargs:EvL σ args.toList vs)
  (h:ACalls P f (fs++vs) st (fun v' st''=>v'=v∧st''=st')):Yields P ⟨d,.call {callee:= .value c,args:=args,argTypes:=ts},ty,pos,after,gd⟩ σ st i v st':=fun F g a w hw hi hs=>by
  obtain⟨us,e,hus⟩:=AV.bnd_holds.1 (hc.holds hs (by simp [Op.operands,Call.operands]));have hv:=hargs.holds hs (fun x hx=>by simp [Op.operands,Call.operands];right;simpa using hx);refine goes_call (run_callB h.1 e) ((h.2 F g w _ hw (hus.append hv)).mono fun e' w' ⟨u,v',st'',g',he,hx,hw',hv',hq,hst⟩=> ?_);subst hq hst;exact⟨u,he,g',hx.to i,hw',hv'⟩
end
end Go.Aw
namespace Go.Aw
open Go.RowKit (Below)
@[irreducible] def AV.vec (sz:Nat) (t:Option Nat) (n:Nat):AV:=⟨fun g v=>match t with
  |none=>(∃ x,v= .slice x 0 0)∧n=0
  |some j=> ∃ b p s cap,g.loc j=some (b,p,s)∧v= .slice (some ⟨b,0,none⟩) n cap∧n≤cap∧cap*sz=s,fun h k=>by
   cases t with
   |none=>exact k
   |some j=>obtain⟨b,p,s,cap,e,r⟩:=k;exact⟨b,p,s,cap,h.loc _ _ e,r⟩⟩
theorem AV.vec_none {sz n:Nat} {g:Ghost} {v:Value}:(AV.vec sz none n).holds g v↔(∃ x,v= .slice x 0 0)∧n=0:=by unfold AV.vec;rfl
theorem AV.vec_some {sz j n:Nat} {g:Ghost} {v:Value}:(AV.vec sz (some j) n).holds g v↔ ∃ b p s cap,g.loc j=some (b,p,s)∧v= .slice (some ⟨b,0,none⟩) n cap∧n≤cap∧cap*sz=s:=by unfold AV.vec;rfl
instance {sz n:Nat} {t:Option Nat}:One (.vec sz t n):=⟨fun g u e=>by
  cases t with
  |none=>obtain⟨⟨x,rfl⟩,_⟩:=AV.vec_none.1 e;rfl
  |some j=>obtain⟨b,p,s,cap,_,rfl,_⟩:=AV.vec_some.1 e;rfl⟩
theorem RelW.vec0 {g:Ghost} {st:List Item} {w:World} (h:RelW g st w) (xs:List AV):RelW g (.vec none xs::st) w:=RelW.cons h trivial (fun b hb=>by simp [Item.blk,Item.id?] at hb)
theorem RelW.allocVec {g:Ghost} {st:List Item} {w:World} (h:RelW g st w) {i:Nat} (hi:g.loc i=none) {xs:List AV} {vs:Array Value} (E:TypeId) (hx:xs.length≤vs.size) (hv:holdsL g xs (vs.toList.take xs.length)) (h1: ∀ u∈vs.toList,u.oneCell'=true):
  RelW (g.setLoc i (w.heap.size,0,vs.size)) (.vec (some i) xs::st) (w.alloc (.cells vs E)):=by
  have hle:=Ghost.le_setLoc (g:=g) (i:=i) (x:=(w.heap.size,0,vs.size)) hi;refine RelW.cons (h.evolve (row:=none) hle (World.grownBy_alloc w _ none) (fun b hb=>by cases hb) (fun b o v hv=> .inl ⟨hv,by simp⟩) (fun it _ b _=>⟨by simp,fun _=>rfl⟩) (h.fresh_setLoc i _)) ?_ ?_
  ·exact⟨w.heap.size,0,vs.size,vs,E,Ghost.setLoc_same,heap_alloc_new w _,rfl,hx,hv.mono hle,h1,fun o=>h.noCom (Nat.le_refl _),h.hB⟩
  ·intro b hb x hx e;simp [Item.blk,Item.id?,Ghost.setLoc_same] at hb;subst hb;rw [Item.blk_le (h.items x hx) hle] at e;exact absurd (h.blk_ne hx e).1 (Nat.lt_irrefl _)
theorem RelW.storeVec {g:Ghost} {st:List Item} {w:World} {i:Nat} {xs xs':List AV} (h:RelW g (.vec (some i) xs::st) w) {b p s:Nat} (hl:g.loc i=some (b,p,s)) {vs':Array Value}
  (hs:vs'.size=s) (hle:xs'.length≤s) (hv:holdsL g xs' (vs'.toList.take xs'.length)) (h1: ∀ u∈vs'.toList,u.oneCell'=true):RelW g (.vec (some i) xs'::st) (w.setRow b vs'):=by
  obtain⟨b',p',s',vs,E,k1,k2,k3,k4,k5,k6,k7,k8⟩:=h.items _ (List.mem_cons_self ..);rw [hl] at k1;cases k1;have hne:=h.head_notin (b:=b) (by simp [Item.blk,Item.id?,hl]);have ht:=h.tailOf;refine RelW.cons (ht.evolve (row:=some b) (Ghost.le.refl g) ⟨rfl,rfl,rfl,by simp,fun k _ hk=>setRow_other w b k _ (fun e=>hk (by rw [e]))⟩ (fun b' hb=>by cases hb;exact k8) (fun b' o v hv=> ?_) (fun it hit b' hb'=>⟨fun e=> ?_,fun _=>rfl⟩) h.fresh) ?_ ?_
  ·by_cases e:b'=b
   ·subst e;rw [k7 o] at hv;cases hv
   ·exact .inl ⟨hv,fun x=>e (Option.some.inj x)⟩
  ·cases e;exact hne it hit hb'
  ·exact⟨b,p,s,vs',E,hl,setRow_heap w b vs _ E _ k2,hs,hle,hv,h1,k7,k8⟩
  ·intro b' hb' x hx;simp [Item.blk,Item.id?,hl] at hb';subst hb';exact hne x hx
theorem RelW.renameVec {g:Ghost} {st:List Item} {w:World} {i j:Nat} {xs:List AV} (h:RelW g (.vec (some j) xs::st) w) (hi:g.loc i=none) {x:Nat×Nat×Nat} (hl:g.loc j=some x):RelW (g.setLoc i x) (.vec (some i) xs::st) w:=by
  obtain⟨b,p,s,vs,E,k1,k2,k3,k4,k5,k6,k7,k8⟩:=h.items _ (List.mem_cons_self ..);rw [hl] at k1;cases k1;have hle:=Ghost.le_setLoc (g:=g) (i:=i) (x:=(b,p,s)) hi;have h1:RelW (g.setLoc i (b,p,s)) (.vec (some j) xs::st) w:=h.evolve (row:=none) hle ⟨rfl,rfl,rfl,Nat.le_refl _,fun _ _ _=>rfl⟩ (fun b hb=>by cases hb) (fun b o v hv=> .inl ⟨hv,by simp⟩) (fun it _ b _=>⟨by simp,fun _=>rfl⟩) (h.fresh_setLoc i _);refine RelW.cons h1.tailOf ⟨b,p,s,vs,E,Ghost.setLoc_same,k2,k3,k4,k5.mono hle,k6,k7,k8⟩ (fun b' hb'=> ?_);have:b'=b:=by simp [Item.blk,Item.id?,Ghost.setLoc_same] at hb';exact hb'.symm
  subst this;exact h1.head_notin (by simp [Item.blk,Item.id?,hle.loc _ _ hl])
theorem RelW.cutVec {g:Ghost} {st:List Item} {w:World} {t:Option Nat} {xs ys:List AV} (h:RelW g (.vec t (xs++ys)::st) w):RelW g (.vec t xs::st) w:=by
  cases t with
  |none=>exact h.tailOf.vec0 xs
  |some j=>
   obtain⟨b,p,s,vs,E,k1,k2,k3,k4,k5,k6,k7,k8⟩:=h.items _ (List.mem_cons_self ..);rw [List.length_append] at k4 k5;have hx:holdsL g xs (vs.toList.take xs.length):=by
    have:=k5.take xs.length;rwa [List.take_left,List.take_take,Nat.min_eq_left (by omega)] at this
   refine RelW.cons h.tailOf ⟨b,p,s,vs,E,k1,k2,k3,by omega,hx,k6,k7,k8⟩ (fun b' hb'=> ?_);exact h.head_notin (by simpa [Item.blk,Item.id?] using hb')
theorem Weak.vec0 {n:Nat} {σ:Fr} {st:List Item} (xs:List AV):Weak n σ st σ (.vec none xs::st):=fun F g a w hf hw=>⟨g,Ghost.ext.refl g,hf,RelW.vec0 hw xs⟩
theorem AV.Imp.nil_vec {sz:Nat}:(AV.val (.slice none 0 0)).Imp (.vec sz none 0):=fun g u h=>by rw [AV.val_holds] at h;subst h;exact AV.vec_none.2 ⟨⟨_,rfl⟩,rfl⟩
theorem AV.Imp.full_vec {sz:Nat}:(AV.full sz []).Imp (.vec sz none 0):=fun g u h=>by obtain⟨b,e,_⟩:=AV.full_holds.1 h;exact AV.vec_none.2 ⟨⟨b,e⟩,rfl⟩
section
variable {P:Program} {σ:Fr} {st st1:List Item} {i:Nat} {d:Option Tmp} {ty:TypeId} {pos:String} {after:Array Edge} {gd:Option (Nat×Bool)} {w:World}
theorem y_vlen {T E sz by_ n:Nat} {x:Operand} {t:Option Nat} [ht:SliceT P T E sz by_] (hx:Ev σ x (.vec sz t n)):Yields P ⟨d,.call {callee:= .builtin .len,args:= #[x],argTypes:= #[T]},ty,pos,after,gd⟩ σ st i (.int (n:Int)) st:=fun F g a w hw hi hs=>by
  have hh:=hx.holds hs (by simp [Op.operands,Call.operands]);cases t with
  |none=>
   obtain⟨⟨xa,e⟩,rfl⟩:=AV.vec_none.1 hh;exact goes_value (u:= .int .i64 ((0:Nat):Int)) (by simp [execOp,resolve,invoke,builtin,e,Builtin.len_,run_underlying ht.und,goInt]) ⟨g,Ghost.to.refl g i,hw,AV.val_self _⟩
  |some j=>
   obtain⟨b,p,s,cap,_,e,_⟩:=AV.vec_some.1 hh;exact goes_value (u:= .int .i64 (n:Int)) (by simp [execOp,resolve,invoke,builtin,e,Builtin.len_,run_underlying ht.und,goInt]) ⟨g,Ghost.to.refl g i,hw,AV.val_self _⟩
theorem AV.Imp.vec_arr {sz j n:Nat}:(AV.vec sz (some j) n).Imp (.arr j 0 n):=fun g u h=>by
  obtain⟨b,p,s,cap,e,rfl,h1,_⟩:=AV.vec_some.1 h;exact AV.arr_holds.2 ⟨b,p,s,cap,e,rfl,h1⟩
theorem y_vappend {T E sz by_ n:Nat} {x y:Operand} {t:Option Nat} {xs:List AV} {av:AV} {ys:List (List AV)} {zs:List Value} [ht:SliceT P T E sz by_] [hz:ZeroT P E zs] [hr:Rd av sz ys] (hzl:zs.length=sz) (hz1:zs.all (·.oneCell')=true)
  (hx:Ev σ x (.vec sz t n)) (hxl:xs.length=n*sz) (hy:Ev σ y av) (hne:ys≠[]) (hb:n+ys.length≤1073741824) (hT:Take st (.vec t xs) st1):
  Yields P ⟨d,.call {callee:= .builtin .append,args:= #[x,y],argTypes:= #[T,T]},ty,pos,after,gd⟩ σ st i (.vec sz (some i) (n+ys.length)) (.vec (some i) (xs++ys.flatten)::st1):=fun F g a w hw0 hi hs=>by
  have hw:RelW g (.vec t xs::(st1++F)) w:=hw0.perm (hT.perm.append_right F);have ex:=hx.holds hs (by simp [Op.operands,Call.operands]);obtain⟨ad,cap,ey,hcapy,hlen,hrow⟩:=AV.sl_holds.1 (hr.imp _ _ (hy.holds hs (by simp [Op.operands,Call.operands])));obtain⟨inf,z,hinf,hsz,hby,hzero,hzc⟩:=info_of (P:=P) ht.hsize ht.hbytes (hz:=hz);have hexec: ∀ {r:Result Value},(Builtin.append_ #[T,T] ty #[a.eval x,a.eval y]).run P w=r→(execOp a.eval ⟨d,.call {callee:= .builtin .append,args:= #[x,y],argTypes:= #[T,T]},ty,pos,after,gd⟩).run P w=r.andThen (fun v w'=> .ok (.value v) w'):=by
   intro r h;simp only [execOp,resolve,Sem.run_bind,Sem.run_pure,Result.andThen_ok,invoke,builtin];simp only [List.map_toArray,List.map_cons,List.map_nil,h]
  obtain⟨b',o',rfl,hrow'⟩:=hrow hne;obtain⟨news,n1,n2,n3⟩:=hrow'.values;have hln:news.length=ys.length*sz:=by rw [←n1.length,flatten_len hlen]
  have hypos:0<ys.length:=by cases ys with|nil=>exact absurd rfl hne|cons=>simp
  have hnews: ∀ (w1:World),(∀ ad,w1.cell? ad=w.cell? ad)→ ∀ j u,news[j]?=some u→w1.cell? ((⟨b',o',none⟩:Addr).add j)=some u:=fun w1 h1 j u hj=>by
   rw [Addr.add_mk,h1];exact hw.com _ _ _ (n3 j u hj)
  have hbytes:(n+ys.length)*inf.bytes≤140737488355328:=by
   rw [hby]
   calc (n+ys.length)*by_≤1073741824*65536:=Nat.mul_le_mul hb ht.small
    _≤_:=by decide
  have hzsz:z.cells.size=sz:=by rw [hzc];simpa using hzl
  have hfl:(xs++ys.flatten).length=(n+ys.length)*sz:=by rw [List.length_append,hxl,flatten_len hlen,Nat.add_mul]
  have hpad: ∀ m,∀ u∈(Builtin.zeroCells z.cells m).toList,u.oneCell'=true:=by
   intro m u hu;unfold Builtin.zeroCells at hu;simp only [Array.toList_map,List.mem_map,Array.toList_range,List.mem_range] at hu;obtain⟨k,hk,rfl⟩:=hu;have hpos:0<z.cells.size:=by rw [hzsz];exact ht.pos
   have hlt:=Nat.mod_lt k hpos;rw [getElem!_pos z.cells (k % z.cells.size) hlt];rw [List.all_eq_true] at hz1;refine hz1 _ ?_;have hm:z.cells[k % z.cells.size]∈z.cells.toList:=Array.mem_toList_iff.2 (Array.getElem_mem hlt);have ez:z.cells.toList=zs:=by rw [hzc]
   generalize z.cells[k % z.cells.size]=q at hm ⊢;rw [ez] at hm;exact hm
  have grown: ∀ (olds:List Value) (old:Nat),holdsL g xs olds→(∀ u∈olds,u.oneCell'=true)→old<n+ys.length→
   ∀ w',w'=w.drew.alloc (.cells (olds.toArray++news.toArray++Builtin.zeroCells z.cells (grownCap w (n+ys.length) old E - (n+ys.length))) E)→
   ∃ g',g.to i g'∧RelW g' (.vec (some i) (xs++ys.flatten)::(st1++F)) w'∧(AV.vec sz (some i) (n+ys.length)).holds g' (.slice (some ⟨w.heap.size,0,none⟩) (n+ys.length) (grownCap w (n+ys.length) old E)):=by
   intro olds old ho ho1 hold w' hw';have hge:=grownCap_ge w (n+ys.length) old E;have hp:=hpad (grownCap w (n+ys.length) old E - (n+ys.length));generalize hpz:Builtin.zeroCells z.cells (grownCap w (n+ys.length) old E - (n+ys.length))=pz at hw' hp;have hlo:olds.length=n*sz:=by rw [←ho.length,hxl]
   have hpl:pz.size=(grownCap w (n+ys.length) old E - (n+ys.length))*sz:=by rw [←hpz,size_zeroCells,hzsz]
   have hvl:(olds.toArray++news.toArray++pz).size=grownCap w (n+ys.length) old E*sz:=by
    simp only [Array.size_append,List.size_toArray,hpl,hlo,hln,←Nat.add_mul];congr 1;omega
   have h1:=((hw.tailOf).drew).allocVec (i:=i) hi (xs:=xs++ys.flatten) (vs:=olds.toArray++news.toArray++pz) E (by rw [hvl,hfl];exact Nat.mul_le_mul_right _ hge)
    (by
     simp only [Array.toList_append,List.append_assoc];rw [←List.append_assoc olds,List.take_left' (by rw [hfl,List.length_append,hlo,hln,Nat.add_mul])];exact ho.append n1)
    (by
     intro u hu;simp only [Array.toList_append,List.mem_append] at hu;rcases hu with (hu|hu)|hu
     ·exact ho1 u hu
     ·exact n2 u hu
     ·exact hp u hu)
   refine⟨_,Ghost.to_setLoc hi,by rw [hw'];exact h1,?_⟩;exact AV.vec_some.2 ⟨_,_,_,_,Ghost.setLoc_same,rfl,hge,hvl.symm⟩
  cases t with
  |none=>
   obtain⟨⟨xa,e⟩,rfl⟩:=AV.vec_none.1 ex;have hx0:xs=[]:=List.eq_nil_of_length_eq_zero (by omega);subst hx0;obtain⟨g',h1,h2,h3⟩:=grown [] 0 trivial (by simp) (by omega) _ rfl;simp only [Nat.zero_add,Array.empty_append] at h2 h3 ⊢;refine goes_value ?_ ⟨g',h1,h2,h3⟩;cases xa with
   |none=>
    have hr:=run_append_nil (P:=P) w T ty E inf z ht.und hinf hzero ⟨b',o',none⟩ ys.length cap news (by rw [hln,hsz]) (hnews w (fun _=>rfl)) hypos (by omega) (by rw [Nat.zero_add] at hbytes;omega);rw [hexec rfl,e,ey,hr];rfl
   |some ba=>
    have hr:=run_append_grow (P:=P) w T ty E inf z ht.und hinf hzero ba 0 0 [] (by simp) (by simp) ⟨b',o',none⟩ ys.length cap news (by rw [hln,hsz]) (hnews w (fun _=>rfl)) (by omega) (by omega) (growslice_fits (by omega) (by rw [Nat.zero_add] at hbytes ⊢;simpa using hbytes));simp only [Nat.zero_add,Array.empty_append] at hr;rw [hexec rfl,e,ey,hr];rfl
  |some j=>
   obtain⟨b,ps,S,cap0,hloc,e,hcap0,hS⟩:=AV.vec_some.1 ex;obtain⟨b2,pos2,S2,vs,E',m1,m2,m3,m4,m5,m6,m7,m8⟩:=hw.items _ (List.mem_cons_self ..);rw [hloc] at m1;cases m1;have hol:(vs.toList.take xs.length).length=n*sz:=by rw [←m5.length,hxl]
   by_cases hroom:n+ys.length≤cap0
   ·have hfit:0+n*sz+news.length≤vs.size:=by
     have:=Nat.mul_le_mul_right sz hroom;rw [Nat.add_mul] at this;rw [hln,m3];omega
    have hr:=run_append_inplace (P:=P) (T:=T) ty b 0 n cap0 vs E' m2 ⟨b',o',none⟩ ys.length cap news hln (hnews w (fun _=>rfl)) n2 hroom hfit;have hle:(xs++ys.flatten).length≤S:=by rw [hfl,←hS];exact Nat.mul_le_mul_right _ hroom
    have hst:=hw.storeVec (xs':=xs++ys.flatten) hloc (vs':=(setMany vs.toList (0+n*sz) news).toArray) (by rw [List.size_toArray,setMany_len (by simpa using hfit)];simpa using m3) hle (by
     unfold setMany;rw [Nat.zero_add,←hxl];have e1:(vs.toList.take xs.length++news).length=(xs++ys.flatten).length:=by
      rw [List.length_append,hol,hfl,hln,Nat.add_mul]
     show holdsL g _ (List.take _ (List.take xs.length vs.toList++news++_));rw [←e1,List.take_left];exact m5.append n1) (by
     intro u hu;simp only [setMany,List.mem_append] at hu;rcases hu with (hu|hu)|hu
     ·exact m6 u (List.mem_of_mem_take hu)
     ·exact n2 u hu
     ·exact m6 u (List.mem_of_mem_drop hu))
    have hrn:=hst.renameVec (i:=i) hi hloc;refine goes_value (u:= .slice (some ⟨b,0,none⟩) (n+ys.length) cap0) ?_ ⟨_,Ghost.to_setLoc hi,hrn,?_⟩
    ·rw [hexec rfl,e,ey,hr];rfl
    ·exact AV.vec_some.2 ⟨_,_,_,_,Ghost.setLoc_same,rfl,hroom,hS⟩
   ·have hr:=run_append_grow (P:=P) w T ty E inf z ht.und hinf hzero ⟨b,0,none⟩ n cap0 (vs.toList.take xs.length) (by rw [hol,hsz]) (fun k v hk=>by
     rw [Addr.add_mk,World.cell?,m2];have hk':(vs.toList)[k]?=some v:=by
      rw [List.getElem?_take] at hk;split at hk
      ·exact hk
      ·cases hk
     simpa using hk') ⟨b',o',none⟩ ys.length cap news (by rw [hln,hsz]) (hnews w (fun _=>rfl)) (by omega) (by omega) (growslice_fits (by omega) hbytes)
    obtain⟨g',h1,h2,h3⟩:=grown (vs.toList.take xs.length) cap0 m5 (fun u hu=>m6 u (List.mem_of_mem_take hu)) (by omega) _ rfl;refine goes_value ?_ ⟨g',h1,h2,h3⟩;rw [hexec rfl,e,ey,hr];rfl
end
end Go.Aw
namespace Go.Aw
end Go.Aw
namespace Go.Aw
end Go.Aw
namespace Go.Aw
theorem Weak.freezeC {n:Nat} {σ:Fr} {st r:List Item} {a i j sz:Nat} {cs:List AV} {xs:List (List AV)} {pad:List AV} (hl: ∀ x∈xs,x.length=sz) (hi:cs[i]?=some (.arr j 0 xs.length)) (ht:Takes st [.cells j (xs.flatten++pad),.cells a cs] r):Weak n σ st σ (.cells a (cs.set i (.sl sz xs))::r):=fun F g ac w hf hw=>by
  have hw1:RelW g (.cells j (xs.flatten++pad):: .cells a cs::(r++F)) w:=hw.perm (ht.perm.append_right F);obtain⟨b,p,s,vs,E,k1,k2,k3,k4,k5,k6⟩:=hw1.tailOf.items _ (List.mem_cons_self ..);obtain⟨u,hu,hh⟩:=k3.get _ _ hi;obtain⟨b2,p2,s2,cap,hloc,e,hcap⟩:=AV.arr_holds.1 hh;obtain⟨g',h1,h2,h3⟩:=RelW.freeze hw1 hloc;have hx:g.ext g':=⟨h1.le,fun q hq=>by
   rcases Classical.em (q=j) with e|e
   ·subst e;have:=h1.le.loc _ _ hloc;rw [this,hloc]
   ·exact h1.keep q hq e⟩
  refine⟨g',hx,hf.mono h1.le,?_⟩;have hsl:(AV.sl sz xs).holds g' u:=by
   rw [AV.sl_holds];refine⟨_,cap,e,hcap,hl,fun hne=>⟨b2,0,rfl,?_⟩⟩;have:=h3.take xs.flatten.length;rwa [List.take_left] at this
  obtain⟨b',p',s',vs',E',q1,q2,q3,q4,q5,q6⟩:=h2.items _ (List.mem_cons_self ..);have q1':=h1.le.loc _ _ k1;rw [q1'] at q1;cases q1;rw [k2] at q2;cases q2;have hset:=q3.set i _ u hsl;have hvs:vs.toList.set i u=vs.toList:=by
   refine List.ext_getElem? fun q=> ?_;rw [List.getElem?_set];split
   ·rename_i e2;subst e2;split
    ·exact hu.symm
    ·rename_i hlt;rw [List.getElem?_eq_none (by simpa using hlt)]
   ·rfl
  rw [hvs] at hset;refine RelW.cons h2.tailOf ⟨b,p,s,vs,E,q1',k2,hset,k4,q5,q6⟩ (fun b3 hb3=>h2.head_notin (by simpa [Item.blk,Item.id?] using hb3))
theorem VShift.freezeR {st r:List Item} {j sz:Nat} {xs:List (List AV)} {pad:List AV} {n:Nat} (hn:n=xs.length) (hl: ∀ x∈xs,x.length=sz) (ht:Takes st [.cells j (xs.flatten++pad)] r):VShift (.arr j 0 n) st (.sl sz xs) r:=fun F g u w hw hv=>by
  subst hn;obtain⟨b,p,s,cap,hloc,e,hcap⟩:=AV.arr_holds.1 hv;obtain⟨g',k1,k2,k3⟩:=RelW.freeze (hw.perm (ht.perm.append_right F)) hloc;have hx:g.ext g':=⟨k1.le,fun q hq=>by
   rcases Classical.em (q=j) with e|e
   ·subst e;have:=k1.le.loc _ _ hloc;rw [this,hloc]
   ·exact k1.keep q hq e⟩
  refine⟨g',hx,k2,?_⟩;rw [AV.sl_holds];refine⟨_,cap,e,hcap,hl,fun hne=>⟨b,0,rfl,?_⟩⟩;have:=k3.take xs.flatten.length;rwa [List.take_left] at this
end Go.Aw
namespace Go.Aw
section
variable {P:Program} {n:Nat} {σ:Fr} {st:List Item}
theorem awx_loop3 {ro:Option Nat} {c:Code} {ms:List Nat} {Q:Exit→List Nat→Fr→List Item→Prop} {X:Type} (ts:List Nat) {σk:Fr} (hk:Keeps σ ts σk) (mod:Fr→X→Fr) (mit:List Item→X→List Item) (dom:X→Prop) (μ:X→Nat) (x0:X) (hstart:Weak n σ st (mod σk x0) (mit (markIts ms) x0)) (h0:dom x0)
  (hround: ∀ ms1 x,dom x→AWX ro P n c ms1 (mod σk x) (mit (markIts ms1) x) (thenX (fun ms' σ' st'=> ∃ x',dom x'∧μ x'<μ x∧Weak n σ' st' (mod σk x') (mit (markIts ms') x')) Q)):AWX ro P n (.loop c) ms σ st Q:=by
  intro F g a w hf hm hw;obtain⟨g0,hx0,hf0,hw0⟩:=hstart F g _ w hf hw;let I:Act→World→Nat→Prop:=fun a w m=> ∃ x g1 ms1,dom x∧μ x=m∧g.ext g1∧RelF n g1 (mod σk x) {a with defers:=[]}∧Marks g1 ms1 a.defers∧RelW g1 (mit (markIts ms1) x++F) w;have key: ∀ m a w,I a w m→ ∀ (b:Frame) (k:List Go.Item) (cs:List Frame),b.roundOf=(wd ro).round→(wd ro).fn b.fn→(wd ro).room (cs.length+1+0)→
   ∃ e a' w',(∃ g' σ' st' ms',g.ext g'∧RelF n g' σ' {a' with defers:=[]}∧Marks g' ms' a'.defers∧RelW g' (st'++F) w'∧Q e ms' σ' st')∧ArrivesIn (Machine.fenced P (wd ro)) P (lone (b.atR a (.code c:: .inLoop c::k)) cs w) b k cs e a' w':=by
   intro m;induction m using Nat.strongRecOn with
   |_ m ih=>
    rintro a w ⟨x,g1,ms1,hd,hmx,hx1,hf1,hm1,hw1⟩ b k cs hro hb hr;obtain⟨e,a₁,w₁,⟨g',σ',st',ms',hx,hf',hm',hw',hq⟩,harr⟩:=hround ms1 x hd F g1 a w hf1 hm1 hw1 b (.inLoop c::k) cs hro hb hr;cases e with
    |normal=>
     obtain⟨x',hd',hlt,hwk⟩:=hq;obtain⟨g2,hx2,hf2,hw2⟩:=hwk F g' _ w₁ hf' hw';obtain⟨e₂,a₂,w₂,hq₂,harr₂⟩:=ih (μ x') (hmx ▸ hlt) a₁ w₁ ⟨x',g2,ms',hd',rfl,(hx1.trans hx).trans hx2,hf2,hm'.mono hx2.le,hw2⟩ b k cs hro hb hr;exact⟨e₂,a₂,w₂,hq₂,.of_steps (StepsIn.trans harr (.one (fenced_calm hb hr rfl) stepR_inLoop)) harr₂⟩
    |exit id=>exact⟨_,a₁,w₁,⟨g',σ',st',ms',hx1.trans hx,hf',hm',hw',hq⟩,.pass (x:= .inLoop c) rfl (fun _ _=> .inl (by simp)) harr⟩
    |goto l=>exact⟨_,a₁,w₁,⟨g',σ',st',ms',hx1.trans hx,hf',hm',hw',hq⟩,.pass (x:= .inLoop c) rfl (fun _ _=> .inl (by simp)) harr⟩
    |ret=>exact⟨_,a₁,w₁,⟨g',σ',st',ms',hx1.trans hx,hf',hm',hw',hq⟩,.pass (x:= .inLoop c) rfl (fun _ _=> .inl (by simp)) harr⟩
    |panic ch=>exact⟨_,a₁,w₁,⟨g',σ',st',ms',hx1.trans hx,hf',hm',hw',hq⟩,.pass (x:= .inLoop c) rfl (fun _ _=> .inl (by simp)) harr⟩
    |outgrown=>exact⟨_,a₁,w₁,⟨g',σ',st',ms',hx1.trans hx,hf',hm',hw',hq⟩,.pass (x:= .inLoop c) rfl (fun _ _=> .inl (by simp)) harr⟩
  intro b k cs hro hb hr;obtain⟨e,a',w',hq,harr⟩:=key _ a w ⟨x0,g0,ms,h0,rfl,hx0,hf0,hm.mono hx0.le,hw0⟩ b k cs hro hb hr;exact⟨e,a',w',hq,.of_steps (.one (fenced_calm hb hr rfl) stepR_loop) harr⟩
end
end Go.Aw
namespace Go.Aw
end Go.Aw
namespace Go.Aw
section
variable {P:Program} {σ:Fr} {st:List Item} {i:Nat} {d:Option Tmp} {ty:TypeId} {pos:String} {after:Array Edge} {gd:Option (Nat×Bool)}
theorem y_strLen {T:TypeId} {x:Operand} {b:ByteArray} (hT:P.underlying T=some .string) (hx:Ev σ x (.val (.string b))):Yields P ⟨d,.call {callee:= .builtin .len,args:= #[x],argTypes:= #[T]},ty,pos,after,gd⟩ σ st i (.int (b.size:Int)) st:=fun F g a w hw hi hs=>by
  have e:=AV.val_holds.1 (hx.holds hs (by simp [Op.operands,Call.operands]));exact goes_value (u:= .int .i64 (b.size:Int)) (by simp [execOp,resolve,invoke,builtin,e,Builtin.len_,run_underlying hT,goInt]) ⟨g,Ghost.to.refl g i,hw,AV.val_self _⟩
theorem y_strEq {T T':TypeId} {x y:Operand} {b c:ByteArray} (hx:Ev σ x (.val (.string b))) (hy:Ev σ y (.val (.string c))):Yields P ⟨d,.binOp .eql T x y T',ty,pos,after,gd⟩ σ st i (.bool (b.toList==c.toList)) st:=fun F g a w hw hi hs=>by
  have e1:=AV.val_holds.1 (hx.holds hs (by simp [Op.operands]));have e2:=AV.val_holds.1 (hy.holds hs (by simp [Op.operands]));exact goes_value (u:= .bool (b.toList==c.toList)) (by simp [execOp,e1,e2,eqGuard,binOp,Op.stringOp]) ⟨g,Ghost.to.refl g i,hw,AV.val_self _⟩
theorem y_strNe {T T':TypeId} {x y:Operand} {b c:ByteArray} (hx:Ev σ x (.val (.string b))) (hy:Ev σ y (.val (.string c))):Yields P ⟨d,.binOp .neq T x y T',ty,pos,after,gd⟩ σ st i (.bool (!(b.toList==c.toList))) st:=fun F g a w hw hi hs=>by
  have e1:=AV.val_holds.1 (hx.holds hs (by simp [Op.operands]));have e2:=AV.val_holds.1 (hy.holds hs (by simp [Op.operands]));exact goes_value (u:= .bool (!(b.toList==c.toList))) (by simp [execOp,e1,e2,eqGuard,binOp,Op.stringOp]) ⟨g,Ghost.to.refl g i,hw,AV.val_self _⟩
def bys (b:ByteArray):List Int:=b.data.toList.map (fun x=>(x.toNat:Int))
theorem bys_len (b:ByteArray):(bys b).length=b.size:=by
  unfold bys;rw [List.length_map,Array.length_toList];rfl
end
end Go.Aw
namespace Go.Aw
end Go.Aw
namespace Go.Aw
end Go.Aw
namespace Go.Aw
end Go.Aw
namespace Sv
open Go.Aw (bys)
def win (n a b:Int):Bool:=decide (a≤n) && decide (n≤b)
def small (c:Int):Bool:=decide (97≤c) && decide (c≤122)
def digit (c:Int):Bool:=decide (48≤c) && decide (c≤57)
def okAt (l:List Int) (i:Nat):Bool:=small (l.getD i 0)|| (decide (i≠0) && (decide (l.getD i 0=95)||digit (l.getD i 0)))
def isName (b:ByteArray):Bool:=(decide (1≤b.size) && decide (b.size≤30)) && (List.range (bys b).length).all (okAt (bys b))
def same (a b:ByteArray):Bool:=a.toList==b.toList
end Sv
namespace Go.Aw
open Sv
end Go.Aw
namespace Sv
end Sv
namespace Sv
open Go.Aw (bys)
theorem isName_bad {b:ByteArray} {k:Nat} (hk:k<(bys b).length) (h:okAt (bys b) k=false):isName b=false:=by
  unfold isName;have:((List.range (bys b).length).all (okAt (bys b)))=false:=by
   rw [List.all_eq_false];exact⟨k,List.mem_range.2 hk,by simp [h]⟩
  rw [this,Bool.and_false]
theorem isName_good {b:ByteArray} (h: ∀ i,i<(bys b).length→okAt (bys b) i=true):isName b=(decide (1≤b.size) && decide (b.size≤30)):=by
  unfold isName;have:((List.range (bys b).length).all (okAt (bys b)))=true:=by
   rw [List.all_eq_true];exact fun i hi=>h i (List.mem_range.1 hi)
  rw [this,Bool.and_true]
theorem toList_loop (b:ByteArray): ∀ (n i:Nat) (r:List UInt8),n=b.size - i→ByteArray.toList.loop b i r=r.reverse++b.data.toList.drop i
  |0,i,r,h=>by
   unfold ByteArray.toList.loop;have hs:b.data.toList.length=b.size:=by rw [Array.length_toList];rfl
   rw [if_neg (by omega),List.drop_eq_nil_of_le (by omega),List.append_nil]
  |n+1,i,r,h=>by
   unfold ByteArray.toList.loop;have hs:b.data.toList.length=b.size:=by rw [Array.length_toList];rfl
   have hi:i<b.data.toList.length:=by omega
   rw [if_pos (by omega),toList_loop b n (i+1) _ (by omega),List.drop_eq_getElem_cons hi,List.reverse_cons,List.append_assoc];congr 2
   have:b.get! i=b.data.toList[i]:=by
    rw [Array.getElem_toList];show b.data[i]! =_;rw [getElem!_pos b.data i (by rw [Array.length_toList] at hi;exact hi)]
   rw [this];rfl
theorem toList_eq (b:ByteArray):b.toList=b.data.toList:=by
  unfold ByteArray.toList;rw [toList_loop b _ 0 [] rfl];rfl
theorem same_nil {b:ByteArray}:(b.toList==(⟨#[]⟩:ByteArray).toList)=decide (b.size=0):=by
  rw [Bool.eq_iff_iff,beq_iff_eq,toList_eq,toList_eq,decide_eq_true_eq];show b.data.toList=[]↔b.data.size=0;rw [←Array.length_toList,List.length_eq_zero_iff]
end Sv
namespace Sv
end Sv
namespace Sv
end Sv
namespace Sv
end Sv
namespace Sv
end Sv
namespace Go.Aw
open Sv
end Go.Aw
namespace Sv
end Sv
namespace Go.Aw
theorem RelW.freezeVec {g:Ghost} {st:List Item} {w:World} {i:Nat} {xs:List AV} (h:RelW g (.vec (some i) xs::st) w) {b p s:Nat} (hl:g.loc i=some (b,p,s)):
  ∃ g',g.to i g'∧(∀ q,g'.loc q=g.loc q)∧RelW g' st w∧comRow g' b 0 xs:=by
  obtain⟨b',p',s',vs,E,k1,k2,k3,k4,k5,k6,k7,k8⟩:=h.items _ (List.mem_cons_self ..);rw [hl] at k1;cases k1;have hne:=h.head_notin (b:=b) (by simp [Item.blk,Item.id?,hl]);have ht:=h.tailOf;have hc: ∀ o,0≤o→o<xs.length→g.com b o=none:=fun o _ _=>k7 o;have hle:=Ghost.le_commit (f:=fun o=>vs[o]?) hc;have hvl:vs.toList.length=s:=by simpa using k3
  refine⟨g.commit b 0 xs.length (fun o=>vs[o]?),Ghost.to_commit hc,fun _=>rfl,?_,?_⟩
  ·refine ht.evolve (row:=none) hle ⟨rfl,rfl,rfl,Nat.le_refl _,fun _ _ _=>rfl⟩ (fun b hb=>by cases hb) (fun b' o v hv=> ?_) (fun it hit b' hb'=>⟨by simp,fun o=> ?_⟩) h.fresh
   ·replace hv:(if b'=b∧0≤o∧o<xs.length then vs[o]? else g.com b' o)=some v:=hv
    split at hv
    ·rename_i e;obtain⟨rfl,_⟩:=e;right;simp [World.cell?,k2,hv]
    ·exact .inl ⟨hv,by simp⟩
   ·show (if b'=b∧_ then _ else _)=_;rw [if_neg];rintro⟨rfl,_⟩;exact hne it hit hb'
  ·refine comRow.of (k5.mono hle) (fun u hu=>k6 u (List.mem_of_mem_take hu)) (fun q v hv=> ?_);rw [List.getElem?_take] at hv;split at hv
   ·rename_i hq;show (if b=b∧0≤0+q∧0+q<xs.length then vs[0+q]? else _)=some v;rw [if_pos ⟨rfl,by omega,by omega⟩,Nat.zero_add];simpa using hv
   ·cases hv
theorem Weak.freezeV {n:Nat} {σ:Fr} {st r:List Item} {a i sz m:Nat} {t:Option Nat} {cs:List AV} {xs:List (List AV)} (hm:m=xs.length) (hl: ∀ x∈xs,x.length=sz) (hi:cs[i]?=some (.vec sz t m)) (ht:Takes st [.vec t xs.flatten,.cells a cs] r):Weak n σ st σ (.cells a (cs.set i (.sl sz xs))::r):=fun F g ac w hf hw=>by
  subst hm;have hw1:RelW g (.vec t xs.flatten:: .cells a cs::(r++F)) w:=hw.perm (ht.perm.append_right F);obtain⟨b,p,s,vs,E,k1,k2,k3,k4,k5,k6⟩:=hw1.tailOf.items _ (List.mem_cons_self ..);obtain⟨u,hu,hh⟩:=k3.get _ _ hi;have hvs:vs.toList.set i u=vs.toList:=by
   refine List.ext_getElem? fun q=> ?_;rw [List.getElem?_set];split
   ·rename_i e2;subst e2;split
    ·exact hu.symm
    ·rename_i hlt;rw [List.getElem?_eq_none (by simpa using hlt)]
   ·rfl
  cases t with
  |none=>
   obtain⟨⟨xa,e⟩,hn⟩:=AV.vec_none.1 hh;have hx0:xs=[]:=List.eq_nil_of_length_eq_zero hn;subst hx0;have hsl:(AV.sl sz []).holds g u:=by
    rw [AV.sl_holds];exact⟨xa,0,e,Nat.le_refl _,by simp,fun h=>absurd rfl h⟩
   have hset:=k3.set i _ u hsl;rw [hvs] at hset;refine⟨g,Ghost.ext.refl g,hf,RelW.cons hw1.tailOf.tailOf ⟨b,p,s,vs,E,k1,k2,hset,k4,k5,k6⟩ (fun b3 hb3=>hw1.tailOf.head_notin (by simpa [Item.blk,Item.id?] using hb3))⟩
  |some j=>
   obtain⟨b2,p2,s2,cap,hloc,e,hcap,hS⟩:=AV.vec_some.1 hh;obtain⟨g',h1,h1',h2,h3⟩:=RelW.freezeVec hw1 hloc;have hx:g.ext g':=⟨h1.le,fun q hq=>h1' q⟩
   refine⟨g',hx,hf.mono h1.le,?_⟩;have hsl:(AV.sl sz xs).holds g' u:=by
    rw [AV.sl_holds];exact⟨_,cap,e,hcap,hl,fun hne=>⟨b2,0,rfl,h3⟩⟩
   obtain⟨b',p',s',vs',E',q1,q2,q3,q4,q5,q6⟩:=h2.items _ (List.mem_cons_self ..);have q1':=h1.le.loc _ _ k1;rw [q1'] at q1;cases q1;rw [k2] at q2;cases q2;have hset:=q3.set i _ u hsl;rw [hvs] at hset;exact RelW.cons h2.tailOf ⟨b,p,s,vs,E,q1',k2,hset,k4,q5,q6⟩ (fun b3 hb3=>h2.head_notin (by simpa [Item.blk,Item.id?] using hb3))
end Go.Aw
namespace Go.Aw
section
variable {P:Program} {σ:Fr} {st:List Item} {i:Nat} {d:Option Tmp} {ty:TypeId} {pos:String} {after:Array Edge} {gd:Option (Nat×Bool)} {w:World}
theorem y_callVec {c:Operand} {args:Array Operand} {ts:Array TypeId} {fv:AV} {f:FuncId} {caps vs:List AV} {sz n:Nat} {xs:List AV} [hf:Fun fv f caps] (hc:Ev σ c fv) (hargs:EvL σ args.toList vs)
  (h:ACalls P f (vs++caps) [] (fun v' st''=> ∃ j,v'= .vec sz (some j) n∧st''=[.vec (some j) xs])):Yields P ⟨d,.call {callee:= .value c,args:=args,argTypes:=ts},ty,pos,after,gd⟩ σ st i (.vec sz (some i) n) (.vec (some i) xs::st):=fun F g a w hw hi hs=>by
  obtain⟨us,e,hus⟩:=AV.clo_holds.1 (hf.imp _ _ (hc.holds hs (by simp [Op.operands,Call.operands])));have hv:=hargs.holds hs (fun x hx=>by simp [Op.operands,Call.operands];right;simpa using hx);have hb:=hw.bump i;have hle:g.le (g.bump i):=⟨rfl,rfl,fun _ _ _ h=>h,fun _ _ h=>h,Nat.le_max_left _ _⟩
  refine goes_call (run_call h.1 e) ((h.2 (st++F) (g.bump i) w _ hb ((hv.append hus).mono hle)).mono fun e' w' ⟨u,v',st'',g',he,hx,hw',hv',j,hq,hst⟩=> ?_);subst hq hst;have hi':g'.loc i=none:=(hx.keep i (Nat.lt_of_lt_of_le (Nat.lt_succ_self i) (Nat.le_max_right _ _))).trans hi;obtain⟨b,p,s,cap,hloc,hval,hcap,hS⟩:=AV.vec_some.1 hv';have k2:=RelW.renameVec (st:=st++F) hw' hi' hloc;refine⟨u,he,g'.setLoc i (b,p,s),?_,k2,?_⟩
  ·have h1:g.to i g':=⟨hle.trans hx.le,fun q hq hne=>hx.keep q (Nat.lt_of_lt_of_le hq (Nat.le_max_left _ _))⟩
   exact h1.trans (Ghost.to_setLoc hi')
  ·exact AV.vec_some.2 ⟨b,p,s,cap,Ghost.setLoc_same,hval,hcap,hS⟩
end
end Go.Aw
namespace Go.Aw
end Go.Aw
namespace Sv
end Sv
namespace Go.Aw
theorem enc1_flat (l:List Int):(l.map encI).flatten=l.map AV.int:=by
  induction l with
  |nil=>rfl
  |cons a l ih=>rw [List.map_cons,List.flatten_cons,ih];rfl
end Go.Aw
namespace Sv
open Go.Aw
end Sv
namespace Sv
end Sv
namespace Sv
end Sv
namespace Sv
theorem win_t {n a b:Int}:win n a b=true↔a≤n∧n≤b:=by simp [win]
end Sv
namespace Pn
open Sv (win)
inductive Ex where
  |mk (kind op:Int) (name:ByteArray) (value:Int) (args:List Ex)
instance :Inhabited Ex:=⟨.mk 0 0 ⟨#[]⟩ 0 []⟩
def Ex.kind:Ex→Int| .mk k _ _ _ _=>k
def Ex.op:Ex→Int| .mk _ o _ _ _=>o
def Ex.name:Ex→ByteArray| .mk _ _ n _ _=>n
def Ex.value:Ex→Int| .mk _ _ _ v _=>v
def Ex.args:Ex→List Ex| .mk _ _ _ _ a=>a
structure Sg where
  kind:Int
  size:Int
  expr:Ex
  items:List Int
  deriving Inhabited
structure Pp where
  from_:Int
  output:Int
  to_:Int
  input:Int
  capacity:Int
  deriving DecidableEq,Inhabited
structure Pl where
  stages:List Sg
  pipes:List Pp
  deriving Inhabited
structure Cr where
  capacity:Int
  granted:Int
  sent:Int
  taken:Int
  items:List Int
  closed:Bool
  deriving DecidableEq,Inhabited
structure Ss where
  held:List Int
  count:Int
  ended:Bool
  deriving DecidableEq,Inhabited
structure Fs where
  stages:List Ss
  credits:List Cr
  outputs:List (List Int)
  draining:Bool
  deriving DecidableEq,Inhabited
def C0:Cr:=⟨0,0,0,0,[],false⟩
def S0:Ss:=⟨[],0,false⟩
def F0:Fs:=⟨[],[],[],false⟩
def num (n:Int):Bool:=win n (-1099511627776) 1099511627776
def cnew (c:Int):Cr×Int:=if win c 1 100=false then (C0,2) else (⟨c,0,0,0,[],false⟩,0)
def cchk (c:Cr):Int:=
  if win c.capacity 1 100=false then 2
  else if c.taken<0∨c.sent<c.taken∨c.granted<c.sent∨1099511627776<c.granted∨c.capacity<c.granted - c.taken∨(c.items.length:Int)≠c.sent - c.taken then 1
  else if c.items.any (fun n=> !num n)=true then 1 else 0
def reqC (n:Int) (c:Cr):Cr×Int:=
  if n<1 then (C0,2) else if c.closed=true then (C0,19) else if c.taken+c.capacity - c.granted<n then (C0,18) else if 1099511627776<c.granted+n then (C0,4)
  else ({c with granted:=c.granted+n},0)
def sendC (n:Int) (c:Cr):Cr×Int:=
  if num n=false then (C0,2) else if c.closed=true then (C0,19) else if c.sent=c.granted then (C0,18)
  else ({c with items:=c.items++[n],sent:=c.sent+1},0)
def closeC (c:Cr):Cr×Int:=if c.closed=true then (C0,19) else ({c with closed:=true},0)
def perf (c:Cr) (f:Cr→Cr×Int):Cr×Int:=if cchk c≠0 then (C0,cchk c) else f c
def creq (c:Cr) (n:Int):Cr×Int:=perf c (reqC n)
def csend (c:Cr) (n:Int):Cr×Int:=perf c (sendC n)
def cclose (c:Cr):Cr×Int:=perf c closeC
def ctake (c:Cr):Cr×Int×Int:=
  if cchk c≠0 then (C0,0,cchk c)
  else if c.items.length=0 then (C0,0,if c.closed=true then 19 else 23)
  else ({c with items:=c.items.drop 1,taken:=c.taken+1},c.items.getD 0 0,0)
def cended (c:Cr):Bool:=decide (cchk c=0) && c.closed && decide ((c.items.length:Int)=0)
def croom (c:Cr):Int:=if cchk c≠0∨c.closed=true then 0 else c.granted - c.sent
end Pn
namespace Go.Aw
open Pn
mutual
def encEx:Ex→List AV
  | .mk k o n v as0=>[.int k,.int o,.val (.string n),.int v,.sl 5 (encExs as0)]
def encExs:List Ex→List (List AV)
  | []=>[]
  |e::l=>encEx e::encExs l
end
def encE (e:Ex):List AV:=[.int e.kind,.int e.op,.val (.string e.name),.int e.value,.sl 5 (encExs e.args)]
theorem encEx_eq (e:Ex):encEx e=encE e:=by cases e;rw [encEx];rfl
theorem encExs_map: ∀ l:List Ex,encExs l=l.map encE
  | []=>by rw [encExs];rfl
  |e::l=>by rw [encExs,encExs_map l,encEx_eq];rfl
instance {l:List Ex}:Rd (.sl 5 (encExs l)) 5 (l.map encE):=⟨AV.Imp.of_eq (by rw [encExs_map])⟩
instance (priority:=high) {e:Ex}:RowOf [.val (.int .i64 e.kind),.val (.int .i64 e.op),.val (.string e.name),.val (.int .i64 e.value),.sl 5 (encExs e.args)] encE e:=⟨ImpL.refl _⟩
def encPp (p:Pp):List AV:=[.int p.from_,.int p.output,.int p.to_,.int p.input,.int p.capacity]
def encSg (s:Sg):List AV:=[.int s.kind,.int s.size,.int s.expr.kind,.int s.expr.op,.val (.string s.expr.name),.int s.expr.value,.sl 5 (encExs s.expr.args),.sl 1 (s.items.map encI)]
def encPl (p:Pl):List AV:=[.sl 8 (p.stages.map encSg),.sl 5 (p.pipes.map encPp)]
def encCr (c:Cr):List AV:=[.int c.capacity,.int c.granted,.int c.sent,.int c.taken,.sl 1 (c.items.map encI),.bool c.closed]
def encSt (s:Ss):List AV:=[.sl 1 (s.held.map encI),.int s.count,.bool s.ended]
def encFs (s:Fs):List AV:=[.sl 3 (s.stages.map encSt),.sl 6 (s.credits.map encCr),.sl 1 (s.outputs.map encLI),.bool s.draining]
instance {a b c d e:Int}:RowOf [.val (.int .i64 a),.val (.int .i64 b),.val (.int .i64 c),.val (.int .i64 d),.val (.int .i64 e)] encPp ⟨a,b,c,d,e⟩:=⟨ImpL.refl _⟩
instance {a b c d:Int} {v:AV} {l:List Int} {x:Bool} [h:Sl v 1 encI l]:RowOf [.val (.int .i64 a),.val (.int .i64 b),.val (.int .i64 c),.val (.int .i64 d),v,.val (.bool x)] encCr ⟨a,b,c,d,l,x⟩:=⟨.cons (AV.Imp.refl _) (.cons (AV.Imp.refl _) (.cons (AV.Imp.refl _) (.cons (AV.Imp.refl _) (.cons h.imp (.cons (AV.Imp.refl _) .nil)))))⟩
instance {a:Int} {v:AV} {l:List Int} {x:Bool} [h:Sl v 1 encI l]:RowOf [v,.val (.int .i64 a),.val (.bool x)] encSt ⟨l,a,x⟩:=⟨.cons h.imp (.cons (AV.Imp.refl _) (.cons (AV.Imp.refl _) .nil))⟩
instance {u v w:AV} {l:List Ss} {m:List Cr} {n:List (List Int)} {x:Bool} [h:Sl u 3 encSt l] [k:Sl v 6 encCr m] [j:Sl w 1 encLI n]:RowOf [u,v,w,.val (.bool x)] encFs ⟨l,m,n,x⟩:=⟨.cons h.imp (.cons k.imp (.cons j.imp (.cons (AV.Imp.refl _) .nil)))⟩
instance {u v:AV} {l:List Sg} {m:List Pp} [h:Sl u 8 encSg l] [k:Sl v 5 encPp m]:RowOf [u,v] encPl ⟨l,m⟩:=⟨.cons h.imp (.cons k.imp .nil)⟩
end Go.Aw
namespace Pn
open Sv (win win_t)
structure Cok (c:Cr):Prop where
  cap:1≤c.capacity∧c.capacity≤100
  taken:0≤c.taken
  sent:c.taken≤c.sent
  granted:c.sent≤c.granted
  most:c.granted≤1099511627776
  room:c.granted - c.taken≤c.capacity
  len:(c.items.length:Int)=c.sent - c.taken
  num: ∀ n∈c.items,num n=true
theorem num_t {n:Int}:num n=true↔ -1099511627776≤n∧n≤1099511627776:=win_t
theorem cchk_ok {c:Cr}:cchk c=0↔Cok c:=by
  unfold cchk;constructor
  ·intro h;split at h
   ·cases h
   ·split at h
    ·cases h
    ·split at h
     ·cases h
     ·rename_i h1 h2 h3;rw [Bool.not_eq_false,win_t] at h1;simp only [List.any_eq_true,not_exists,not_and,Bool.not_eq_true',Bool.not_eq_false] at h3;exact⟨h1,by omega,by omega,by omega,by omega,by omega,by omega,h3⟩
  ·intro h;obtain⟨a,b,c1,d,e,f,g,i⟩:=h;rw [if_neg (by rw [Bool.not_eq_false,win_t];exact a),if_neg (by omega),if_neg];simp only [List.any_eq_true,not_exists,not_and,Bool.not_eq_true',Bool.not_eq_false];exact i
end Pn
namespace Pn
open Go.Aw
theorem copy_all {n:Nat} {z:List AV} {l:List Int} (hz:z.length=1) (h:l.length=n):setMany (List.replicate n z).flatten 0 (((l.map encI).take n)).flatten=(l.map encI).flatten++[]:=by
  rw [List.take_of_length_le (by simp [h]),setMany_all,List.append_nil];rw [enc1_flat,List.length_map,rep_len,h,hz,Nat.mul_one]
end Pn
set_option maxRecDepth 10000
namespace Go.Proofs
open Go.Aw Wl Pn
instance :MapT Tryz.prog 209 207:=⟨⟨3,by kernel_rfl,by kernel_rfl⟩⟩
theorem inRange_c (n a b:Int) :ACalls Tryz.prog 42 [(AV.int n),(AV.int a),(AV.int b)] [] (fun v st=>v=(AV.bool (Sv.win n a b))∧st=[]):=by
  refine acalls_body Tryz.func42 (by kernel_rfl) rfl Tryz.ntmps42 (le_ rfl) ?_;rw [Tryz.results42];refine asr ?_;refine sA ?_;refine aops_nil ?_;refine asr ?_;refine sM ?_;refine sM ?_;refine st_p (fun _=>by exact y_geq (.plain rfl) (.plain rfl)) rfl ?_;refine sM ?_;refine gM ?_;refine gM ?_;refine gH01 ?_;refine sJ ?_;refine sA ?_;refine aops_nil ?_;refine awp_ret ?_;refine retG (.inr rfl) (.cons (.tmp rfl) .nil) (VShift.of1 (AV.Imp.refl _) (.nil _)) ⟨congrArg (fun x:(Bool)=>(AV.bool x)) (show _=(Sv.win n a b) from ?_),rfl⟩;rfl
theorem within_c (n a b:Int) :ACalls Tryz.prog 36 [(AV.int n),(AV.int a),(AV.int b)] [] (fun v st=>v=(AV.bool (Sv.win n a b))∧st=[]):=by
  refine acalls_body Tryz.func36 (by kernel_rfl) rfl Tryz.ntmps36 (le_ rfl) ?_;rw [Tryz.results36];refine asr ?_;refine sA ?_;refine aops_nil ?_;refine asr ?_;refine sM ?_;refine sM ?_;refine st_p (fun _=>by exact y_geq (.plain rfl) (.plain rfl)) rfl ?_;refine sM ?_;refine gM ?_;refine gM ?_;refine gH01 ?_;refine sJ ?_;refine sA ?_;refine aops_nil ?_;refine awp_ret ?_;refine retG (.inr rfl) (.cons (.tmp rfl) .nil) (VShift.of1 (AV.Imp.refl _) (.nil _)) ⟨congrArg (fun x:(Bool)=>(AV.bool x)) (show _=(Sv.win n a b) from ?_),rfl⟩;rfl
theorem cloneI0_c:ACalls Tryz.prog 13 [AV.sl 1 (List.map Go.Aw.encI [])] [] (fun v st=>v= .full 1 []∧st=[]):=by
  refine acalls_body Tryz.func13 (by kernel_rfl) rfl Tryz.ntmps13 (le_ rfl) ?_;rw [Tryz.results13];refine asr ?_;refine sA ?_;refine aops_nil ?_;refine awp_seq ?_;refine asr ?_;refine sM ?_;refine st_p (fun _=>by exact y_eqNilA (.plain rfl)) rfl ?_;refine aops_nil ?_;refine awp_anyB (t:=4) rfl fun b=> ?_;refine awp_cond rfl (fun h1=> ?_) (fun h1=> ?_)
  ·refine asr ?_;refine sA ?_;refine aops_nil ?_;refine awp_ret ?_;exact retG (.inr rfl) (.cons (.tmp rfl) .nil) (VShift.of AV.nil_full (.nil _)) ⟨rfl,rfl⟩
  ·refine awp_skip ?_;refine asr ?_;refine st_p (fun _=>by exact y_buildSlice .nil rfl (le_ rfl)) rfl ?_;refine sM ?_;refine st_p (fun _=>by exact y_appendNil (by rfl) (.plain rfl) (.plain rfl) (by simp)) rfl ?_;refine sA ?_;refine aops_nil ?_;refine awp_ret ?_;exact retG (.inr rfl) (.cons (.tmp rfl) .nil) (VShift.drop) ⟨rfl,rfl⟩
theorem cloneI1_c (l:List (Int)) (hn:l≠[]) (hl:l.length≤1000000):ACalls Tryz.prog 13 [AV.sl 1 (List.map Go.Aw.encI l)] [] (fun v st=> ∃ j,v= .own 1 j (List.map Go.Aw.encI l)∧st=[.tail (some j)]):=by
  refine acalls_body Tryz.func13 (by kernel_rfl) rfl Tryz.ntmps13 (le_ rfl) ?_;rw [Tryz.results13];refine asr ?_;refine sA ?_;refine aops_nil ?_;refine awp_seq ?_;refine asr ?_;refine sM ?_;refine st_p (fun _=>by exact y_eqNilF (.plain rfl) (by simpa using hn)) rfl ?_;refine aops_nil ?_;refine awp_cond rfl (fun h1=> ?_) (fun h1=> ?_)
  ·cases h1
  ·simp only [nf] at h1;refine awp_skip ?_;refine asr ?_;refine st_p (fun _=>by exact y_buildSlice .nil rfl (le_ rfl)) rfl ?_;refine sM ?_;refine st_n (fun _=>by exact y_appendNew (by rfl) (.plain rfl) (.plain rfl) (by simpa using hn) (by simp;omega)) rfl fun n1=> ?_;refine sA ?_;refine aops_nil ?_;refine awp_ret ?_;exact retG (.inr rfl) (.cons (.tmp rfl) .nil) VShift.refl ⟨n1,rfl,rfl⟩
theorem cloneI_c (l:List (Int)) (hl:l.length≤1000000):ACalls Tryz.prog 13 [AV.sl 1 (List.map Go.Aw.encI l)] [] (fun v st=>v=AV.sl 1 (List.map Go.Aw.encI l)∧st=[]):=by
  by_cases hn:l=[]
  ·subst hn;exact cloneI0_c.shift fun v st ⟨h1,h2⟩=>⟨_,[],VShift.of (by rw [h1];exact AV.Imp.full_sl) (.nil _),rfl,rfl⟩
  ·exact (cloneI1_c l hn hl).shift fun v st ⟨j,h1,h2⟩=>⟨_,[],VShift.of (by rw [h1];exact AV.Imp.own_sl) (.nil _),rfl,rfl⟩
theorem indexFI_c (l:List (Int)) (hl:l.length≤1000000) (f:Nat) (caps:List AV) (p:Int→Bool) (st0:List Aw.Item) (h: ∀ w∈l,ACalls Tryz.prog f ([.int w]++caps) st0 (fun v st=>v= .bool (p w)∧st=st0)):ACalls Tryz.prog 88 [.sl 1 (l.map Go.Aw.encI),.clo f caps] st0 (fun v st=>v= .int (idxF p l)∧st=st0):=by
  refine acalls_body Tryz.func88 (by kernel_rfl) rfl Tryz.ntmps88 (le_ rfl) ?_;rw [Tryz.results88];refine asr ?_;refine sA ?_;refine aops_nil ?_;refine awp_seq ?_;refine asr ?_;refine sM ?_;refine sN ?_;refine sM ?_;refine aops_nil ?_;refine awp_block ?_;refine awp_loop2 (X:=Nat) [0,1,7] (.cons rfl (.cons rfl (.cons rfl .nil))) (fun σ x=>((8,.int (x:Int)):Nat×AV)::σ) (fun R x=>R) (fun x=>x≤l.length∧(∀ i (h:i<l.length),i<x→p l[i]=false)) (fun x=>l.length - x) 0 (by exact Weak.of2 (by (repeat (first|exact .nil _|refine .cons rfl (by exact AV.Imp.refl _) ?_));done) (by (repeat (exact .refl _));done)) ⟨Nat.zero_le _,by omega⟩ ?_;rintro k ⟨hk,hinv⟩;refine asr ?_;refine sS ?_;refine aops_nil ?_;refine awp_seq ?_;refine awp_cond rfl (fun h1=> ?_) (fun h1=> ?_)
  ·simp only [nf] at h1;refine awp_skip ?_;refine awp_seq ?_;refine awp_block ?_;refine asr ?_;refine sM ?_;refine sA ?_;refine aops_nil ?_;refine asr ?_;refine sM ?_;refine sM ?_;refine sM ?_;refine st_p (fun _=>by exact y_indexMap (.plain rfl) (.plain rfl) rfl (by refine⟨?_,?_⟩;(omega);rfl)) rfl ?_;refine sU ?_;refine aops_call (blt_lt rfl) (.plain rfl) (.cons (.plain rfl) .nil) ((h l[k] (List.getElem_mem h1)).mono ?_);rintro v st ⟨rfl,rfl⟩;refine aops_nil ?_;refine awp_cond rfl (fun h2=> ?_) (fun h2=> ?_)
   ·refine asr ?_;refine sM ?_;refine sA ?_;refine aops_nil ?_;refine awp_ret ?_;exact retG (.inr rfl) (.cons (.tmp rfl) .nil) VShift.refl ⟨by rw [idxF_at p l k h1 h2 hinv];rfl,rfl⟩
   ·refine awp_skip ?_;refine awp_region ?_;refine sY ?_ (hb:=by omega);refine sM ?_;refine aops_nil ?_;refine⟨k+1,?_,?_,Weak.of2 (by (repeat (first|exact .nil _|refine .cons rfl (by exact AV.Imp.refl _) ?_));done) (by (repeat (exact .refl _));done)⟩
    ·refine⟨by omega,?_⟩;intro i hi hik;by_cases e:i=k
     ·subst e;exact h2
     ·exact hinv i hi (by omega)
    ·omega
  ·simp only [nf] at h1;refine awp_exit ?_;refine asr ?_;refine sA ?_;refine aops_nil ?_;refine awp_ret ?_;exact retG (.inr rfl) (.cons (.tmp rfl) .nil) VShift.refl ⟨by rw [idxF_no p l (fun i hi=>hinv i hi (by omega))];rfl,rfl⟩
theorem containsFI_c (l:List (Int)) (hl:l.length≤1000000) (f:Nat) (caps:List AV) (p:Int→Bool) (st0:List Aw.Item) (h: ∀ w∈l,ACalls Tryz.prog f ([.int w]++caps) st0 (fun v st=>v= .bool (p w)∧st=st0)):ACalls Tryz.prog 60 [.sl 1 (l.map Go.Aw.encI),.clo f caps] st0 (fun v st=>v= .bool (l.any p)∧st=st0):=by
  refine acalls_body Tryz.func60 (by kernel_rfl) rfl Tryz.ntmps60 (le_ rfl) ?_;rw [Tryz.results60];refine asr ?_;refine sA ?_;refine aops_nil ?_;refine asr ?_;refine sM ?_;refine sM ?_;refine aops_call (blt_lt rfl) (.plain rfl) (.cons (.plain rfl) (.cons (.plain rfl) .nil)) ((indexFI_c l hl f caps p st0 h).mono ?_);rintro v st ⟨rfl,rfl⟩;refine st_p (fun _=>by exact y_geq (.plain rfl) (.plain rfl)) rfl ?_;refine sA ?_;refine aops_nil ?_;refine awp_ret ?_;exact retG (.inr rfl) (.cons (.tmp rfl) .nil) VShift.refl ⟨by rw [←idxF_any];rfl,rfl⟩
theorem numF_c (n:Int):ACalls Tryz.prog 100 [.int n] [] (fun v st=>v= .bool (!Pn.num n)∧st=[]):=by
  refine acalls_body Tryz.func100 (by kernel_rfl) rfl Tryz.ntmps100 (le_ rfl) ?_;rw [Tryz.results100];refine asr ?_;refine sA ?_;refine aops_nil ?_;refine asr ?_;refine sM ?_;refine aops_call (blt_lt rfl) (.plain rfl) (.cons (.plain rfl) (.cons (.plain rfl) (.cons (.plain rfl) .nil))) (ACalls.here (inRange_c _ _ _) ?_);refine sO ?_;refine sA ?_;refine aops_nil ?_;refine awp_ret ?_;exact retG (.inr rfl) (.cons (.tmp rfl) .nil) (VShift.of2 (AV.Imp.refl _) (.nil _)) ⟨rfl,rfl⟩
theorem cnew_c (c:Int) :ACalls Tryz.prog 21 [(AV.int c)] [] (fun v st=>v=(AV.tup [(AV.agg (encCr ((Pn.cnew c).1))),(AV.int ((Pn.cnew c).2))])∧st=[]):=by
  refine acalls_body Tryz.func21 (by kernel_rfl) rfl Tryz.ntmps21 (le_ rfl) ?_;rw [Tryz.results21];refine asr ?_;refine sC fun n1=> ?_;refine sA ?_;refine aops_nil ?_;refine awp_seq ?_;refine asr ?_;refine sM ?_;refine aops_call (blt_lt rfl) (.plain rfl) (.cons (.plain rfl) (.cons (.plain rfl) (.cons (.plain rfl) .nil))) (ACalls.here (inRange_c _ _ _) ?_);refine sO ?_;refine aops_nil ?_;refine awp_cond rfl (fun h1=> ?_) (fun h1=> ?_)
  ·simp only [nf] at h1;refine asr ?_;refine st_p (fun _=>by exact y_build (out:=[_,_,_,_,_,_]) .nil rfl rfl) rfl ?_;refine st_s (fun _=>by exact y_storeW (by rfl) rfl (.plain rfl) (.plain rfl) (by exact .here) (by rfl)) ?_;refine sA ?_;refine aops_nil ?_;refine awp_ret ?_;refine retG (.inr rfl) (.cons (res_cellW rfl (by exact .here) (by rfl)) (.cons (.tmp rfl) .nil)) (VShift.of2 (AV.Imp.tup (.cons (AV.Imp.agg (RowOf.imp (enc:=encCr))) (.cons (AV.Imp.refl _) .nil))) (.nil _)) ⟨congrArg (fun x:(Pn.Cr)×(Int)=>(AV.tup [(AV.agg (encCr x.1)),(AV.int x.2)])) (show (_,_)=(Pn.cnew c) from ?_),rfl⟩;rw [Pn.cnew,if_pos (by simpa using h1)];all_goals rfl
  ·simp only [nf] at h1;refine awp_skip ?_;refine asr ?_;refine sM ?_;refine st_p (fun _=>by exact y_build (out:=[_,_,_,_,_,_]) (.cons (.plain rfl) inferInstance rfl .nil) rfl rfl) rfl ?_;refine st_s (fun _=>by exact y_storeW (by rfl) rfl (.plain rfl) (.plain rfl) (by exact .here) (by rfl)) ?_;refine sA ?_;refine aops_nil ?_;refine awp_ret ?_;refine retG (.inr rfl) (.cons (res_cellW rfl (by exact .here) (by rfl)) (.cons (.tmp rfl) .nil)) (VShift.of2 (AV.Imp.tup (.cons (AV.Imp.agg (RowOf.imp (enc:=encCr))) (.cons (AV.Imp.refl _) .nil))) (.nil _)) ⟨congrArg (fun x:(Pn.Cr)×(Int)=>(AV.tup [(AV.agg (encCr x.1)),(AV.int x.2)])) (show (_,_)=(Pn.cnew c) from ?_),rfl⟩;rw [Pn.cnew,if_neg (by simpa using h1)];all_goals rfl
theorem cchk_c (c:Pn.Cr) (hl:c.items.length≤1000000):ACalls Tryz.prog 72 [(AV.agg (encCr c))] [] (fun v st=>v=(AV.int (Pn.cchk c))∧st=[]):=by
  refine acalls_body Tryz.func72 (by kernel_rfl) rfl Tryz.ntmps72 (le_ rfl) ?_;rw [Tryz.results72];refine asr ?_;refine sB fun n1=> ?_;refine sA ?_;refine aops_nil ?_;refine awp_seq ?_;refine asr ?_;refine sF ?_;refine sL .here ?_;refine aops_call (blt_lt rfl) (.plain rfl) (.cons (.plain rfl) (.cons (.plain rfl) (.cons (.plain rfl) .nil))) (ACalls.here (inRange_c _ _ _) ?_);refine sO ?_;refine aops_nil ?_;refine awp_cond rfl (fun h1=> ?_) (fun h1=> ?_)
  ·simp only [nf] at h1;refine asr ?_;refine sA ?_;refine aops_nil ?_;refine awp_ret ?_;refine retG (.inr rfl) (.cons (.tmp rfl) .nil) (VShift.of1 (AV.Imp.refl _) (.nil _)) ⟨congrArg (fun x:(Int)=>(AV.int x)) (show _=(Pn.cchk c) from ?_),rfl⟩;rw [Pn.cchk,if_pos (by simpa using h1)]
  ·simp only [nf] at h1;refine awp_skip ?_;refine awp_seq ?_;refine asr ?_;refine sF ?_;refine sL .here ?_;refine sS ?_;refine sM ?_;refine gF ?_;refine gL0 .here ?_;refine gF ?_;refine gL0 .here ?_;refine gS01 ?_;refine sK ?_;refine sM ?_;refine gF ?_;refine gL0 .here ?_;refine gF ?_;refine gL0 .here ?_;refine gS01 ?_;refine sK ?_;refine sM ?_;refine gF ?_;refine gL0 .here ?_;refine gG0 ?_;refine sK ?_;refine sM ?_;refine gF ?_;refine gL0 .here ?_;refine gF ?_;refine gL0 .here ?_;refine st_g rfl rfl rfl SaysI.out (fun hc _=>by exact y_sub (.opt rfl hc) (.opt rfl hc) (by (simp at hc;omega))) rfl ?_;refine gF ?_;refine gL0 .here ?_;refine gG01 ?_;refine sK ?_;refine sM ?_;refine gF ?_;refine gL0 .here ?_;refine gN0 ?_;refine gF ?_;refine gL0 .here ?_;refine gF ?_;refine gL0 .here ?_;refine st_g rfl rfl rfl SaysI.out (fun hc _=>by exact y_sub (.opt rfl hc) (.opt rfl hc) (by (simp at hc;omega))) rfl ?_;refine gR01 ?_;refine sK ?_;refine aops_nil ?_;refine awp_cond rfl (fun h2=> ?_) (fun h2=> ?_)
   ·simp only [nf] at h2;refine asr ?_;refine sA ?_;refine aops_nil ?_;refine awp_ret ?_;refine retG (.inr rfl) (.cons (.tmp rfl) .nil) (VShift.of1 (AV.Imp.refl _) (.nil _)) ⟨congrArg (fun x:(Int)=>(AV.int x)) (show _=(Pn.cchk c) from ?_),rfl⟩;rw [Pn.cchk,if_neg (by simpa using h1),if_pos (by omega)]
   ·simp only [nf] at h2;refine awp_skip ?_;refine awp_seq ?_;refine asr ?_;refine sF ?_;refine sL .here ?_;refine aops_call (blt_lt rfl) (.plain rfl) (.cons (.plain rfl) (.cons (.imp (.plain rfl) Fun.imp) .nil)) (ACalls.here (containsFI_c c.items hl 100 [] (fun n=> !Pn.num n) [] (fun z _=>numF_c z)) ?_);refine aops_nil ?_;refine awp_cond rfl (fun h3=> ?_) (fun h3=> ?_)
    ·refine asr ?_;refine sA ?_;refine aops_nil ?_;refine awp_ret ?_;refine retG (.inr rfl) (.cons (.tmp rfl) .nil) (VShift.of1 (AV.Imp.refl _) (.nil _)) ⟨congrArg (fun x:(Int)=>(AV.int x)) (show _=(Pn.cchk c) from ?_),rfl⟩;rw [Pn.cchk,if_neg (by simpa using h1),if_neg (by omega),if_pos (by assumption)]
    ·refine awp_skip ?_;refine asr ?_;refine sA ?_;refine aops_nil ?_;refine awp_ret ?_;refine retG (.inr rfl) (.cons (.tmp rfl) .nil) (VShift.of1 (AV.Imp.refl _) (.nil _)) ⟨congrArg (fun x:(Int)=>(AV.int x)) (show _=(Pn.cchk c) from ?_),rfl⟩;rw [Pn.cchk,if_neg (by simpa using h1),if_neg (by omega),if_neg (by simp_all)]
theorem reqC_c (n:Int) (c:Pn.Cr) (hk:Pn.Cok c) (hn: -1099511627777≤n∧n≤1099511627777):ACalls Tryz.prog 44 [.agg [.int n],.agg (encCr c)] [] (fun v st=>v= .tup [.agg (encCr (Pn.reqC n c).1),.int (Pn.reqC n c).2]∧st=[]):=by
  refine acalls_body Tryz.func44 (by kernel_rfl) rfl Tryz.ntmps44 (le_ rfl) ?_;rw [Tryz.results44];have hk1:=hk.cap;have hk2:=hk.taken;have hk3:=hk.sent;have hk4:=hk.granted;have hk5:=hk.most;have hk6:=hk.room;have hk7:=hk.len;refine asr ?_;refine sB fun n1=> ?_;refine sB fun n2=> ?_;refine sC fun n3=> ?_;refine sA ?_;refine aops_nil ?_;refine awp_seq ?_;refine awp_block ?_;refine asr ?_;refine sF ?_;refine sL k2 ?_;refine sS ?_;refine sA ?_;refine aops_nil ?_;refine awp_cond rfl (fun h1=> ?_) (fun h1=> ?_)
  ·simp only [nf] at h1;refine asr ?_;refine st_p (fun _=>by exact y_build (out:=[_,_,_,_,_,_]) .nil rfl rfl) rfl ?_;refine st_s (fun _=>by exact y_storeW (by rfl) rfl (.plain rfl) (.plain rfl) (by exact .here) (by rfl)) ?_;refine sA ?_;refine aops_nil ?_;refine awp_ret ?_;refine retG (.inr rfl) (.cons (res_cellW rfl (by exact .here) (by rfl)) (.cons (.tmp rfl) .nil)) (VShift.of2 (AV.Imp.tup (.cons (AV.Imp.agg (RowOf.imp (enc:=encCr))) (.cons (AV.Imp.refl _) .nil))) (.nil _)) ⟨?_,rfl⟩;rw [Pn.reqC,if_pos (by omega)];all_goals rfl
  ·simp only [nf] at h1;refine asr ?_;refine sF ?_;refine sL k1 ?_;refine sA ?_;refine aops_nil ?_;refine awp_cond rfl (fun h2=> ?_) (fun h2=> ?_)
   ·refine asr ?_;refine st_p (fun _=>by exact y_build (out:=[_,_,_,_,_,_]) .nil rfl rfl) rfl ?_;refine st_s (fun _=>by exact y_storeW (by rfl) rfl (.plain rfl) (.plain rfl) (by exact .here) (by rfl)) ?_;refine sA ?_;refine aops_nil ?_;refine awp_ret ?_;refine retG (.inr rfl) (.cons (res_cellW rfl (by exact .here) (by rfl)) (.cons (.tmp rfl) .nil)) (VShift.of2 (AV.Imp.tup (.cons (AV.Imp.agg (RowOf.imp (enc:=encCr))) (.cons (AV.Imp.refl _) .nil))) (.nil _)) ⟨?_,rfl⟩;rw [Pn.reqC,if_neg (by omega),if_pos (by assumption)];all_goals rfl
   ·refine asr ?_;refine sF ?_;refine sL k2 ?_;refine sF ?_;refine sL k1 ?_;refine sF ?_;refine sL k1 ?_;refine sY ?_ (hb:=by omega);refine sF ?_;refine sL k1 ?_;refine st_p (fun _=>by exact y_sub (.plain rfl) (.plain rfl) (by omega)) rfl ?_;refine sG ?_;refine sA ?_;refine aops_nil ?_;refine awp_cond rfl (fun h3=> ?_) (fun h3=> ?_)
    ·simp only [nf] at h3;refine asr ?_;refine st_p (fun _=>by exact y_build (out:=[_,_,_,_,_,_]) .nil rfl rfl) rfl ?_;refine st_s (fun _=>by exact y_storeW (by rfl) rfl (.plain rfl) (.plain rfl) (by exact .here) (by rfl)) ?_;refine sA ?_;refine aops_nil ?_;refine awp_ret ?_;refine retG (.inr rfl) (.cons (res_cellW rfl (by exact .here) (by rfl)) (.cons (.tmp rfl) .nil)) (VShift.of2 (AV.Imp.tup (.cons (AV.Imp.agg (RowOf.imp (enc:=encCr))) (.cons (AV.Imp.refl _) .nil))) (.nil _)) ⟨?_,rfl⟩;rw [Pn.reqC,if_neg (by omega),if_neg (by simp_all),if_pos (by omega)];all_goals rfl
    ·simp only [nf] at h3;refine asr ?_;refine sF ?_;refine sL k1 ?_;refine sF ?_;refine sL k2 ?_;refine sY ?_ (hb:=by omega);refine sG ?_;refine sA ?_;refine aops_nil ?_;refine awp_cond rfl (fun h4=> ?_) (fun h4=> ?_)
     ·simp only [nf] at h4;refine asr ?_;refine st_p (fun _=>by exact y_build (out:=[_,_,_,_,_,_]) .nil rfl rfl) rfl ?_;refine st_s (fun _=>by exact y_storeW (by rfl) rfl (.plain rfl) (.plain rfl) (by exact .here) (by rfl)) ?_;refine sA ?_;refine aops_nil ?_;refine awp_ret ?_;refine retG (.inr rfl) (.cons (res_cellW rfl (by exact .here) (by rfl)) (.cons (.tmp rfl) .nil)) (VShift.of2 (AV.Imp.tup (.cons (AV.Imp.agg (RowOf.imp (enc:=encCr))) (.cons (AV.Imp.refl _) .nil))) (.nil _)) ⟨?_,rfl⟩;rw [Pn.reqC,if_neg (by omega),if_neg (by simp_all),if_neg (by omega),if_pos (by omega)];all_goals rfl
     ·simp only [nf] at h4;refine awp_skip ?_;refine asr ?_;refine sF ?_;refine sL k1 ?_;refine sF ?_;refine sL k2 ?_;refine sY ?_ (hb:=by omega);refine sF ?_;refine st_storeN (cs':=[_,_,_,_,_,_]) (by rfl) rfl (.plain rfl) (.plain rfl) (by exact u1) (le_ rfl) (by rfl) ?_;refine aops_nil ?_;refine asr ?_;refine sW k1 ?_;refine st_s (fun _=>by exact y_storeW (by rfl) rfl (.plain rfl) (.plain rfl) (by exact .here) (by rfl)) ?_;refine sA ?_;refine aops_nil ?_;refine awp_ret ?_;refine retG (.inr rfl) (.cons (res_cellW rfl (by exact .here) (by rfl)) (.cons (.tmp rfl) .nil)) (VShift.of2 (AV.Imp.tup (.cons (AV.Imp.agg (RowOf.imp (enc:=encCr))) (.cons (AV.Imp.refl _) .nil))) (.nil _)) ⟨?_,rfl⟩;rw [Pn.reqC,if_neg (by omega),if_neg (by simp_all),if_neg (by omega),if_neg (by omega)];all_goals rfl
theorem sendC_c (n:Int) (c:Pn.Cr) (hk:Pn.Cok c):ACalls Tryz.prog 154 [.agg [.int n],.agg (encCr c)] [] (fun v st=>v= .tup [.agg (encCr (Pn.sendC n c).1),.int (Pn.sendC n c).2]∧st=[]):=by
  refine acalls_body Tryz.func154 (by kernel_rfl) rfl Tryz.ntmps154 (le_ rfl) ?_;rw [Tryz.results154];have hk1:=hk.cap;have hk2:=hk.taken;have hk3:=hk.sent;have hk4:=hk.granted;have hk5:=hk.most;have hk6:=hk.room;have hk7:=hk.len;refine asr ?_;refine sB fun n1=> ?_;refine sB fun n3=> ?_;refine sC fun n2=> ?_;refine sA ?_;refine aops_nil ?_;refine awp_seq ?_;refine awp_block ?_;refine asr ?_;refine sF ?_;refine sL k2 ?_;refine aops_call (blt_lt rfl) (.plain rfl) (.cons (.plain rfl) (.cons (.plain rfl) (.cons (.plain rfl) .nil))) (ACalls.here (inRange_c _ _ _) ?_);refine sO ?_;refine sA ?_;refine aops_nil ?_;refine awp_cond rfl (fun h1=> ?_) (fun h1=> ?_)
  ·simp only [nf] at h1;refine asr ?_;refine st_p (fun _=>by exact y_build (out:=[_,_,_,_,_,_]) .nil rfl rfl) rfl ?_;refine st_s (fun _=>by exact y_storeW (by rfl) rfl (.plain rfl) (.plain rfl) (by exact .here) (by rfl)) ?_;refine sA ?_;refine aops_nil ?_;refine awp_ret ?_;refine retG (.inr rfl) (.cons (res_cellW rfl (by exact .here) (by rfl)) (.cons (.tmp rfl) .nil)) (VShift.of2 (AV.Imp.tup (.cons (AV.Imp.agg (RowOf.imp (enc:=encCr))) (.cons (AV.Imp.refl _) .nil))) (.nil _)) ⟨?_,rfl⟩;rw [Pn.sendC,if_pos (show Pn.num n=false from (by simpa using h1:Sv.win n (-1099511627776) 1099511627776=false))];all_goals rfl
  ·simp only [nf] at h1;refine asr ?_;refine sF ?_;refine sL k1 ?_;refine sA ?_;refine aops_nil ?_;refine awp_cond rfl (fun h2=> ?_) (fun h2=> ?_)
   ·refine asr ?_;refine st_p (fun _=>by exact y_build (out:=[_,_,_,_,_,_]) .nil rfl rfl) rfl ?_;refine st_s (fun _=>by exact y_storeW (by rfl) rfl (.plain rfl) (.plain rfl) (by exact .here) (by rfl)) ?_;refine sA ?_;refine aops_nil ?_;refine awp_ret ?_;refine retG (.inr rfl) (.cons (res_cellW rfl (by exact .here) (by rfl)) (.cons (.tmp rfl) .nil)) (VShift.of2 (AV.Imp.tup (.cons (AV.Imp.agg (RowOf.imp (enc:=encCr))) (.cons (AV.Imp.refl _) .nil))) (.nil _)) ⟨?_,rfl⟩;rw [Pn.sendC,if_neg (show ¬ Pn.num n=false from (by simpa using h1: ¬ Sv.win n (-1099511627776) 1099511627776=false)),if_pos (by assumption)];all_goals rfl
   ·refine asr ?_;refine sF ?_;refine sL k1 ?_;refine sF ?_;refine sL k1 ?_;refine sQ ?_;refine sA ?_;refine aops_nil ?_;refine awp_cond rfl (fun h3=> ?_) (fun h3=> ?_)
    ·simp only [nf] at h3;refine asr ?_;refine st_p (fun _=>by exact y_build (out:=[_,_,_,_,_,_]) .nil rfl rfl) rfl ?_;refine st_s (fun _=>by exact y_storeW (by rfl) rfl (.plain rfl) (.plain rfl) (by exact .here) (by rfl)) ?_;refine sA ?_;refine aops_nil ?_;refine awp_ret ?_;refine retG (.inr rfl) (.cons (res_cellW rfl (by exact .here) (by rfl)) (.cons (.tmp rfl) .nil)) (VShift.of2 (AV.Imp.tup (.cons (AV.Imp.agg (RowOf.imp (enc:=encCr))) (.cons (AV.Imp.refl _) .nil))) (.nil _)) ⟨?_,rfl⟩;rw [Pn.sendC,if_neg (show ¬ Pn.num n=false from (by simpa using h1: ¬ Sv.win n (-1099511627776) 1099511627776=false)),if_neg (by simp_all),if_pos (by assumption)];all_goals rfl
    ·simp only [nf] at h3;refine awp_skip ?_;refine awp_seq ?_;rcases Classical.em (c.items=[]) with hq0|hq0
     ·refine awp_anyT (ks:=[.free,.read,.free,.free,.free,.free,.write,.free,.write]) [.cells n3 _] (by apply Takes.cons (by exact k1);exact .nil _) (by kernel_rfl) (fun K=> ?_) ?_
      ·refine rF ?_;refine dr_r (fun _=>by exact y_load (.plain rfl) (by exact .here) rfl) rfl ?_;refine dr_p (fun _=>by exact y_call (.plain rfl) (.cons (.imp (.plain rfl) (AV.Imp.of_eq (by rw [hq0]))) .nil) (ACalls.pure cloneI0_c)) rfl ?_;refine rF ?_;refine rL k1 ?_;refine dr_p (fun _=>by exact y_buildSlice (.cons (.plain rfl) inferInstance (by rfl) .nil) rfl (le_ rfl)) rfl ?_;refine dr_append0 (by rfl) (.plain rfl) (.plain rfl) (by (simp;try omega)) rfl fun t3=> ?_;refine rF ?_;refine dr_storeN (cs':=[_,_,_,_,_,_]) (by rfl) rfl (.plain rfl) (.plain rfl) (by exact u1) (le_ rfl) (by rfl) ?_;refine dr_nil ?_;refine asr ?_;refine sF ?_;refine sL k1 ?_;refine sY ?_ (hb:=by omega);refine sF ?_;refine st_storeN (cs':=[_,_,_,_,_,_]) (by rfl) rfl (.plain rfl) (.plain rfl) (by exact u1) (le_ rfl) (by rfl) ?_;refine aops_nil ?_;refine asr ?_;refine sW k1 ?_;refine st_s (fun _=>by exact y_storeW (by rfl) rfl (.plain rfl) (.plain rfl) (by exact u2) (by rfl)) ?_;refine sA ?_;refine aops_nil ?_;refine awp_ret ?_;refine retG (.inr rfl) (.cons (res_cellW rfl (by exact k2) (by rfl)) (.cons (.tmp rfl) .nil)) (VShift.of2 (AV.Imp.tup (.cons (AV.Imp.agg (RowOf.imp (enc:=encCr))) (.cons (AV.Imp.refl _) .nil))) (.nil _)) ⟨?_,rfl⟩;rw [Pn.sendC,if_neg (show ¬ Pn.num n=false from (by simpa using h1: ¬ Sv.win n (-1099511627776) 1099511627776=false)),if_neg (by simp_all),if_neg (by assumption),hq0];all_goals rfl
      ·kernel_rfl
     ·refine awp_anyT (ks:=[.free,.read,.write,.free,.free,.free,.write,.free,.write]) [.cells n3 _] (by apply Takes.cons (by exact k1);exact .nil _) (by kernel_rfl) (fun K=> ?_) ?_
      ·refine rF ?_;refine dr_r (fun _=>by exact y_load (.plain rfl) (by exact .here) rfl) rfl ?_;refine dr_n (fun _=>by exact y_callOwn (.plain rfl) (.cons (.plain rfl) .nil) (cloneI1_c c.items hq0 (by omega))) rfl fun n9=> ?_;refine rF ?_;refine rL k1 ?_;refine dr_p (fun _=>by exact y_buildSlice (.cons (.plain rfl) inferInstance (by rfl) .nil) rfl (le_ rfl)) rfl ?_;refine dr_append (by rfl) (.imp (.plain rfl) AV.Imp.own_grow) (.plain rfl) (by (simp;try omega)) rfl fun t9=> ?_;refine rF ?_;refine dr_storeN (cs':=[_,_,_,_,_,_]) (by rfl) rfl (.plain rfl) (.plain rfl) (by exact u1) (le_ rfl) (by rfl) ?_;refine dr_nil ?_;refine asr ?_;refine sF ?_;refine sL k1 ?_;refine sY ?_ (hb:=by omega);refine sF ?_;refine st_storeN (cs':=[_,_,_,_,_,_]) (by rfl) rfl (.plain rfl) (.plain rfl) (by exact u1) (le_ rfl) (by rfl) ?_;refine aops_nil ?_;refine asr ?_;refine sW k1 ?_;refine st_s (fun _=>by exact y_storeW (by rfl) rfl (.plain rfl) (.plain rfl) (by exact u2) (by rfl)) ?_;refine sA ?_;refine aops_nil ?_;refine awp_ret ?_;refine retG (.inr rfl) (.cons (res_cellW rfl (by exact k2) (by rfl)) (.cons (.tmp rfl) .nil)) (VShift.of2 (AV.Imp.tup (.cons (AV.Imp.agg (RowOf.imp (enc:=encCr))) (.cons (AV.Imp.refl _) .nil))) (.nil _)) ⟨?_,rfl⟩;rw [Pn.sendC,if_neg (show ¬ Pn.num n=false from (by simpa using h1: ¬ Sv.win n (-1099511627776) 1099511627776=false)),if_neg (by simp_all),if_neg (by assumption)];all_goals rfl
      ·kernel_rfl
theorem closeC_c (n:Int) (c:Pn.Cr):ACalls Tryz.prog 155 [.agg [.int n],.agg (encCr c)] [] (fun v st=>v= .tup [.agg (encCr (Pn.closeC c).1),.int (Pn.closeC c).2]∧st=[]):=by
  refine acalls_body Tryz.func155 (by kernel_rfl) rfl Tryz.ntmps155 (le_ rfl) ?_;rw [Tryz.results155];refine asr ?_;refine sB fun n1=> ?_;refine sB fun n2=> ?_;refine sC fun n3=> ?_;refine sA ?_;refine aops_nil ?_;refine awp_seq ?_;refine asr ?_;refine sF ?_;refine sL k1 ?_;refine aops_nil ?_;refine awp_cond rfl (fun h1=> ?_) (fun h1=> ?_)
  ·refine asr ?_;refine st_p (fun _=>by exact y_build (out:=[_,_,_,_,_,_]) .nil rfl rfl) rfl ?_;refine st_s (fun _=>by exact y_storeW (by rfl) rfl (.plain rfl) (.plain rfl) (by exact .here) (by rfl)) ?_;refine sA ?_;refine aops_nil ?_;refine awp_ret ?_;refine retG (.inr rfl) (.cons (res_cellW rfl (by exact .here) (by rfl)) (.cons (.tmp rfl) .nil)) (VShift.of2 (AV.Imp.tup (.cons (AV.Imp.agg (RowOf.imp (enc:=encCr))) (.cons (AV.Imp.refl _) .nil))) (.nil _)) ⟨?_,rfl⟩;rw [Pn.closeC,if_pos (by assumption)];all_goals rfl
  ·refine awp_skip ?_;refine asr ?_;refine sF ?_;refine st_storeN (cs':=[_,_,_,_,_,_]) (by rfl) rfl (.plain rfl) (.plain rfl) (by exact u1) (le_ rfl) (by rfl) ?_;refine aops_nil ?_;refine asr ?_;refine sW k1 ?_;refine st_s (fun _=>by exact y_storeW (by rfl) rfl (.plain rfl) (.plain rfl) (by exact .here) (by rfl)) ?_;refine sA ?_;refine aops_nil ?_;refine awp_ret ?_;refine retG (.inr rfl) (.cons (res_cellW rfl (by exact .here) (by rfl)) (.cons (.tmp rfl) .nil)) (VShift.of2 (AV.Imp.tup (.cons (AV.Imp.agg (RowOf.imp (enc:=encCr))) (.cons (AV.Imp.refl _) .nil))) (.nil _)) ⟨?_,rfl⟩;rw [Pn.closeC,if_neg (by simp_all)];all_goals rfl
theorem perf_c (c:Pn.Cr) (hl:c.items.length≤1000000) (f:Nat) (fs:List AV) (F:Pn.Cr→Pn.Cr×Int) (h:Pn.Cok c→ACalls Tryz.prog f (fs++[.agg (encCr c)]) [] (fun v st=>v= .tup [.agg (encCr (F c).1),.int (F c).2]∧st=[])):ACalls Tryz.prog 43 [.agg (encCr c),.bnd f fs] [] (fun v st=>v= .tup [.agg (encCr (Pn.perf c F).1),.int (Pn.perf c F).2]∧st=[]):=by
  refine acalls_body Tryz.func43 (by kernel_rfl) rfl Tryz.ntmps43 (le_ rfl) ?_;rw [Tryz.results43];refine asr ?_;refine sB fun n1=> ?_;refine sC fun n2=> ?_;refine sA ?_;refine aops_nil ?_;refine awp_seq ?_;refine asr ?_;refine sW k1 ?_;refine aops_call (blt_lt rfl) (.plain rfl) (.cons (.imp (.plain rfl) (AV.Imp.agg (RowOf.imp (enc:=encCr)))) .nil) (ACalls.here (cchk_c c hl) ?_);refine sA ?_;refine aops_nil ?_;refine asr ?_;refine sM ?_;refine sR ?_;refine aops_nil ?_;refine awp_cond rfl (fun h1=> ?_) (fun h1=> ?_)
  ·simp only [nf] at h1;refine asr ?_;refine st_p (fun _=>by exact y_build (out:=[_,_,_,_,_,_]) .nil rfl rfl) rfl ?_;refine sM ?_;refine st_s (fun _=>by exact y_storeW (by rfl) rfl (.plain rfl) (.plain rfl) (by exact .here) (by rfl)) ?_;refine sA ?_;refine aops_nil ?_;refine awp_ret ?_;refine retG (.inr rfl) (.cons (res_cellW rfl (by exact .here) (by rfl)) (.cons (.tmp rfl) .nil)) (VShift.of2 (AV.Imp.tup (.cons (AV.Imp.agg (RowOf.imp (enc:=encCr))) (.cons (AV.Imp.refl _) .nil))) (.nil _)) ⟨?_,rfl⟩;rw [Pn.perf,if_pos (by omega)];all_goals rfl
  ·simp only [nf] at h1;refine awp_skip ?_;refine asr ?_;refine sM ?_;refine sW k1 ?_;refine st_p (fun _=>by exact y_callB (.plain rfl) (.cons (.plain rfl) .nil) (ACalls.pure (h (Pn.cchk_ok.1 (by omega))))) rfl ?_;refine sE ?_;refine sE ?_;refine st_s (fun _=>by exact y_storeW (by rfl) rfl (.plain rfl) (.plain rfl) (by exact .here) (by rfl)) ?_;refine sA ?_;refine aops_nil ?_;refine awp_ret ?_;refine retG (.inr rfl) (.cons (res_cellW rfl (by exact .here) (by rfl)) (.cons (.tmp rfl) .nil)) (VShift.of2 (AV.Imp.tup (.cons (AV.Imp.agg (RowOf.imp (enc:=encCr))) (.cons (AV.Imp.refl _) .nil))) (.nil _)) ⟨?_,rfl⟩;rw [Pn.perf,if_neg (by omega)];all_goals rfl
theorem creq_c (c:Pn.Cr) (n:Int) (hl:c.items.length≤1000000) (hn: -1099511627777≤n∧n≤1099511627777):ACalls Tryz.prog 22 [(AV.agg (encCr c)),(AV.int n)] [] (fun v st=>v=(AV.tup [(AV.agg (encCr ((Pn.creq c n).1))),(AV.int ((Pn.creq c n).2))])∧st=[]):=by
  refine acalls_body Tryz.func22 (by kernel_rfl) rfl Tryz.ntmps22 (le_ rfl) ?_;rw [Tryz.results22];refine asr ?_;refine sB fun n1=> ?_;refine sC fun n2=> ?_;refine sA ?_;refine aops_nil ?_;refine asr ?_;refine sW k1 ?_;refine sM ?_;refine st_p (fun _=>by exact y_build (out:=[_]) (.cons (.plain rfl) inferInstance rfl .nil) rfl rfl) rfl ?_;refine st_p (fun _=>by exact y_bound (.cons (.plain rfl) .nil)) rfl ?_;refine aops_call (blt_lt rfl) (.plain rfl) (.cons (.plain rfl) (.cons (.plain rfl) .nil)) (ACalls.here (perf_c c hl _ _ (Pn.reqC n) (fun hk=>reqC_c n c hk hn)) ?_);refine sE ?_;refine sE ?_;refine st_s (fun _=>by exact y_storeW (by rfl) rfl (.plain rfl) (.plain rfl) (by exact .here) (by rfl)) ?_;refine sA ?_;refine aops_nil ?_;refine awp_ret ?_;refine retG (.inr rfl) (.cons (res_cellW rfl (by exact .here) (by rfl)) (.cons (.tmp rfl) .nil)) (VShift.of2 (AV.Imp.tup (.cons (AV.Imp.agg (RowOf.imp (enc:=encCr))) (.cons (AV.Imp.refl _) .nil))) (.nil _)) ⟨congrArg (fun x:(Pn.Cr)×(Int)=>(AV.tup [(AV.agg (encCr x.1)),(AV.int x.2)])) (show (_,_)=(Pn.creq c n) from ?_),rfl⟩;rfl
theorem csend_c (c:Pn.Cr) (n:Int) (hl:c.items.length≤1000000):ACalls Tryz.prog 107 [(AV.agg (encCr c)),(AV.int n)] [] (fun v st=>v=(AV.tup [(AV.agg (encCr ((Pn.csend c n).1))),(AV.int ((Pn.csend c n).2))])∧st=[]):=by
  refine acalls_body Tryz.func107 (by kernel_rfl) rfl Tryz.ntmps107 (le_ rfl) ?_;rw [Tryz.results107];refine asr ?_;refine sB fun n1=> ?_;refine sC fun n2=> ?_;refine sA ?_;refine aops_nil ?_;refine asr ?_;refine sW k1 ?_;refine sM ?_;refine st_p (fun _=>by exact y_build (out:=[_]) (.cons (.plain rfl) inferInstance rfl .nil) rfl rfl) rfl ?_;refine st_p (fun _=>by exact y_bound (.cons (.plain rfl) .nil)) rfl ?_;refine aops_call (blt_lt rfl) (.plain rfl) (.cons (.plain rfl) (.cons (.plain rfl) .nil)) (ACalls.here (perf_c c hl _ _ (Pn.sendC n) (fun hk=>sendC_c n c hk)) ?_);refine sE ?_;refine sE ?_;refine st_s (fun _=>by exact y_storeW (by rfl) rfl (.plain rfl) (.plain rfl) (by exact .here) (by rfl)) ?_;refine sA ?_;refine aops_nil ?_;refine awp_ret ?_;refine retG (.inr rfl) (.cons (res_cellW rfl (by exact .here) (by rfl)) (.cons (.tmp rfl) .nil)) (VShift.of2 (AV.Imp.tup (.cons (AV.Imp.agg (RowOf.imp (enc:=encCr))) (.cons (AV.Imp.refl _) .nil))) (.nil _)) ⟨congrArg (fun x:(Pn.Cr)×(Int)=>(AV.tup [(AV.agg (encCr x.1)),(AV.int x.2)])) (show (_,_)=(Pn.csend c n) from ?_),rfl⟩;rfl
theorem cclose_c (c:Pn.Cr) (hl:c.items.length≤1000000):ACalls Tryz.prog 108 [(AV.agg (encCr c))] [] (fun v st=>v=(AV.tup [(AV.agg (encCr ((Pn.cclose c).1))),(AV.int ((Pn.cclose c).2))])∧st=[]):=by
  refine acalls_body Tryz.func108 (by kernel_rfl) rfl Tryz.ntmps108 (le_ rfl) ?_;rw [Tryz.results108];refine asr ?_;refine sB fun n1=> ?_;refine sC fun n2=> ?_;refine sA ?_;refine aops_nil ?_;refine asr ?_;refine sW k1 ?_;refine st_p (fun _=>by exact y_build (out:=[_]) .nil rfl rfl) rfl ?_;refine st_p (fun _=>by exact y_bound (.cons (.plain rfl) .nil)) rfl ?_;refine aops_call (blt_lt rfl) (.plain rfl) (.cons (.plain rfl) (.cons (.plain rfl) .nil)) (ACalls.here (perf_c c hl _ _ (Pn.closeC) (fun hk=>closeC_c 0 c)) ?_);refine sE ?_;refine sE ?_;refine st_s (fun _=>by exact y_storeW (by rfl) rfl (.plain rfl) (.plain rfl) (by exact .here) (by rfl)) ?_;refine sA ?_;refine aops_nil ?_;refine awp_ret ?_;refine retG (.inr rfl) (.cons (res_cellW rfl (by exact .here) (by rfl)) (.cons (.tmp rfl) .nil)) (VShift.of2 (AV.Imp.tup (.cons (AV.Imp.agg (RowOf.imp (enc:=encCr))) (.cons (AV.Imp.refl _) .nil))) (.nil _)) ⟨congrArg (fun x:(Pn.Cr)×(Int)=>(AV.tup [(AV.agg (encCr x.1)),(AV.int x.2)])) (show (_,_)=(Pn.cclose c) from ?_),rfl⟩;rfl
theorem cended_c (c:Pn.Cr) (hl:c.items.length≤1000000):ACalls Tryz.prog 150 [(AV.agg (encCr c))] [] (fun v st=>v=(AV.bool (Pn.cended c))∧st=[]):=by
  refine acalls_body Tryz.func150 (by kernel_rfl) rfl Tryz.ntmps150 (le_ rfl) ?_;rw [Tryz.results150];refine asr ?_;refine sB fun n1=> ?_;refine sA ?_;refine aops_nil ?_;refine asr ?_;refine sW .here ?_;refine aops_call (blt_lt rfl) (.plain rfl) (.cons (.imp (.plain rfl) (AV.Imp.agg (RowOf.imp (enc:=encCr)))) .nil) (ACalls.here (cchk_c c hl) ?_);refine sQ ?_;refine sM ?_;refine gF ?_;refine gL0 .here ?_;refine sJ ?_;refine sM ?_;refine gF ?_;refine gL0 .here ?_;refine gN0 ?_;refine gQ0 ?_;refine sJ ?_;refine sA ?_;refine aops_nil ?_;refine awp_ret ?_;refine retG (.inr rfl) (.cons (.tmp rfl) .nil) (VShift.of1 (AV.Imp.refl _) (.nil _)) ⟨congrArg (fun x:(Bool)=>(AV.bool x)) (show _=(Pn.cended c) from ?_),rfl⟩;rfl
theorem croom_c (c:Pn.Cr) (hl:c.items.length≤1000000):ACalls Tryz.prog 153 [(AV.agg (encCr c))] [] (fun v st=>v=(AV.int (Pn.croom c))∧st=[]):=by
  refine acalls_body Tryz.func153 (by kernel_rfl) rfl Tryz.ntmps153 (le_ rfl) ?_;rw [Tryz.results153];refine asr ?_;refine sB fun n1=> ?_;refine sA ?_;refine aops_nil ?_;refine awp_seq ?_;refine asr ?_;refine sW .here ?_;refine aops_call (blt_lt rfl) (.plain rfl) (.cons (.imp (.plain rfl) (AV.Imp.agg (RowOf.imp (enc:=encCr)))) .nil) (ACalls.here (cchk_c c hl) ?_);refine sR ?_;refine sM ?_;refine gF ?_;refine gL0 .here ?_;refine sK ?_;refine aops_nil ?_;refine awp_cond rfl (fun h1=> ?_) (fun h1=> ?_)
  ·simp only [nf] at h1;refine asr ?_;refine sA ?_;refine aops_nil ?_;refine awp_ret ?_;refine retG (.inr rfl) (.cons (.tmp rfl) .nil) (VShift.of1 (AV.Imp.refl _) (.nil _)) ⟨congrArg (fun x:(Int)=>(AV.int x)) (show _=(Pn.croom c) from ?_),rfl⟩;rw [Pn.croom,if_pos (by assumption)]
  ·simp only [nf] at h1;refine awp_skip ?_;refine awp_seq ?_;have hk:Pn.Cok c:=Pn.cchk_ok.1 (by omega);have hk1:=hk.cap;have hk2:=hk.taken;have hk3:=hk.sent;have hk4:=hk.granted;have hk5:=hk.most;have hk6:=hk.room;have hk7:=hk.len;refine awp_region ?_;refine sF ?_;refine sL .here ?_;refine sF ?_;refine sL .here ?_;refine st_p (fun _=>by exact y_sub (.plain rfl) (.plain rfl) (by omega)) rfl ?_;refine sA ?_;refine aops_nil ?_;refine awp_ret ?_;refine retG (.inr rfl) (.cons (.tmp rfl) .nil) (VShift.of1 (AV.Imp.refl _) (.nil _)) ⟨congrArg (fun x:(Int)=>(AV.int x)) (show _=(Pn.croom c) from ?_),rfl⟩;rw [Pn.croom,if_neg (by simp_all)]
theorem ctake_c (c:Pn.Cr) (hl:c.items.length≤1000000):ACalls Tryz.prog 106 [(AV.agg (encCr c))] [] (fun v st=>v=(AV.tup [(AV.agg (encCr ((Pn.ctake c).1))),(AV.int ((Pn.ctake c).2.1)),(AV.int ((Pn.ctake c).2.2))])∧st=[]):=by
  refine acalls_body Tryz.func106 (by kernel_rfl) rfl Tryz.ntmps106 (le_ rfl) ?_;rw [Tryz.results106];refine asr ?_;refine sB fun n1=> ?_;refine sC fun n2=> ?_;refine sA ?_;refine sA ?_;refine aops_nil ?_;refine awp_seq ?_;refine asr ?_;refine sW k1 ?_;refine aops_call (blt_lt rfl) (.plain rfl) (.cons (.imp (.plain rfl) (AV.Imp.agg (RowOf.imp (enc:=encCr)))) .nil) (ACalls.here (cchk_c c hl) ?_);refine sA ?_;refine aops_nil ?_;refine asr ?_;refine sM ?_;refine sR ?_;refine aops_nil ?_;refine awp_cond rfl (fun h1=> ?_) (fun h1=> ?_)
  ·simp only [nf] at h1;refine asr ?_;refine st_p (fun _=>by exact y_build (out:=[_,_,_,_,_,_]) .nil rfl rfl) rfl ?_;refine sM ?_;refine st_s (fun _=>by exact y_storeW (by rfl) rfl (.plain rfl) (.plain rfl) (by exact .here) (by rfl)) ?_;refine sA ?_;refine sA ?_;refine aops_nil ?_;refine awp_ret ?_;refine retG (.inr rfl) (.cons (res_cellW rfl (by exact .here) (by rfl)) (.cons (.tmp rfl) (.cons (.tmp rfl) .nil))) (VShift.of2 (AV.Imp.tup (.cons (AV.Imp.agg (RowOf.imp (enc:=encCr))) (.cons (AV.Imp.refl _) (.cons (AV.Imp.refl _) .nil)))) (.nil _)) ⟨congrArg (fun x:(Pn.Cr)×(Int)×(Int)=>(AV.tup [(AV.agg (encCr x.1)),(AV.int x.2.1),(AV.int x.2.2)])) (show (_,_,_)=(Pn.ctake c) from ?_),rfl⟩;rw [Pn.ctake,if_pos (show Pn.cchk c≠0 by omega)];all_goals rfl
  ·simp only [nf] at h1;refine awp_skip ?_;refine awp_seq ?_;refine asr ?_;refine sF ?_;refine sL k1 ?_;refine sN ?_;refine sQ ?_;refine aops_nil ?_;refine awp_cond rfl (fun h2=> ?_) (fun h2=> ?_)
   ·simp only [nf] at h2;refine awp_seq ?_;refine asr ?_;refine sF ?_;refine sL k1 ?_;refine aops_nil ?_;refine awp_cond rfl (fun h3=> ?_) (fun h3=> ?_)
    ·refine asr ?_;refine st_p (fun _=>by exact y_build (out:=[_,_,_,_,_,_]) .nil rfl rfl) rfl ?_;refine st_s (fun _=>by exact y_storeW (by rfl) rfl (.plain rfl) (.plain rfl) (by exact .here) (by rfl)) ?_;refine sA ?_;refine sA ?_;refine aops_nil ?_;refine awp_ret ?_;refine retG (.inr rfl) (.cons (res_cellW rfl (by exact .here) (by rfl)) (.cons (.tmp rfl) (.cons (.tmp rfl) .nil))) (VShift.of2 (AV.Imp.tup (.cons (AV.Imp.agg (RowOf.imp (enc:=encCr))) (.cons (AV.Imp.refl _) (.cons (AV.Imp.refl _) .nil)))) (.nil _)) ⟨congrArg (fun x:(Pn.Cr)×(Int)×(Int)=>(AV.tup [(AV.agg (encCr x.1)),(AV.int x.2.1),(AV.int x.2.2)])) (show (_,_,_)=(Pn.ctake c) from ?_),rfl⟩;rw [Pn.ctake,if_neg (show ¬ (Pn.cchk c≠0) by omega),if_pos (show c.items.length=0 by omega),if_pos (by assumption)];all_goals rfl
    ·refine awp_skip ?_;refine asr ?_;refine st_p (fun _=>by exact y_build (out:=[_,_,_,_,_,_]) .nil rfl rfl) rfl ?_;refine st_s (fun _=>by exact y_storeW (by rfl) rfl (.plain rfl) (.plain rfl) (by exact .here) (by rfl)) ?_;refine sA ?_;refine sA ?_;refine aops_nil ?_;refine awp_ret ?_;refine retG (.inr rfl) (.cons (res_cellW rfl (by exact .here) (by rfl)) (.cons (.tmp rfl) (.cons (.tmp rfl) .nil))) (VShift.of2 (AV.Imp.tup (.cons (AV.Imp.agg (RowOf.imp (enc:=encCr))) (.cons (AV.Imp.refl _) (.cons (AV.Imp.refl _) .nil)))) (.nil _)) ⟨congrArg (fun x:(Pn.Cr)×(Int)×(Int)=>(AV.tup [(AV.agg (encCr x.1)),(AV.int x.2.1),(AV.int x.2.2)])) (show (_,_,_)=(Pn.ctake c) from ?_),rfl⟩;rw [Pn.ctake,if_neg (show ¬ (Pn.cchk c≠0) by omega),if_pos (show c.items.length=0 by omega),if_neg (by simp_all)];all_goals rfl
   ·simp only [nf] at h2;refine awp_skip ?_;refine awp_seq ?_;have hk:Pn.Cok c:=Pn.cchk_ok.1 (by omega);have hk1:=hk.cap;have hk2:=hk.taken;have hk3:=hk.sent;have hk4:=hk.granted;have hk5:=hk.most;have hk6:=hk.room;have hk7:=hk.len;refine awp_region ?_;refine sF ?_;refine sL k1 ?_;refine st_p (fun _=>by exact y_indexMap (.plain rfl) (.plain rfl) rfl (by refine⟨?_,?_⟩;((simp;omega));rfl)) rfl ?_;refine sU ?_;refine sA ?_;refine aops_nil ?_;refine asr ?_;refine sF ?_;refine sL k1 ?_;refine sN ?_;refine st_p (fun _=>by exact y_sub (.plain rfl) (.plain rfl) (by omega)) rfl ?_;refine st_n (fun _=>by exact y_makeArr (n:=(c.items.length - 1)) (by rfl) (.plain rfl) (.plain rfl) (by omega) (by omega)) rfl fun nj=> ?_;refine sA ?_;refine aops_nil ?_;refine asr ?_;refine sM ?_;refine sF ?_;refine sL k2 ?_;refine st_p (fun _=>by exact y_sliceLoM (l:=1) (.plain rfl) (.plain rfl) rfl (by omega)) rfl ?_;refine st_w (fun _=>by exact y_copy (m:=(c.items.length - 1)) (.plain rfl) (.plain rfl) (by simp) (by exact .here) (by rw [rep_len];simp)) rfl ?_;refine aops_nil ?_;refine awp_seq ?_;rw [Pn.copy_all (by rfl) (by simp)];refine awp_region ?_;refine sM ?_;refine sF ?_;refine st_storeN (cs':=[_,_,_,_,_,_]) (by rfl) rfl (.plain rfl) (.plain rfl) (by exact u2) (le_ rfl) (by rfl) ?_;refine aops_nil ?_;refine asr ?_;refine sF ?_;refine sL k2 ?_;refine sY ?_ (hb:=by omega);refine sF ?_;refine st_storeN (cs':=[_,_,_,_,_,_]) (by rfl) rfl (.plain rfl) (.plain rfl) (by exact u2) (le_ rfl) (by rfl) ?_;refine aops_nil ?_;refine awp_seq ?_;refine awp_weak (Weak.freezeC (cs:=[.int c.capacity,.int c.granted,.int c.sent,.int (c.taken+1),.arr nj 0 (c.items.length - 1),.bool c.closed]) (i:=4) (sz:=1) (xs:=(c.items.drop 1).map Go.Aw.encI) (pad:=[]) (by intro x hx;obtain⟨b,_,rfl⟩:=List.mem_map.1 hx;rfl) (by rw [List.length_map,List.length_drop];rfl) (.cons .here (.cons (by exact k1) (.nil _)))) ?_;refine awp_items (st':=[.cells n1 [.int c.capacity,.int c.granted,.int c.sent,.int (c.taken+1),.sl 1 ((c.items.drop 1).map Go.Aw.encI),.bool c.closed],.cells n2 _]) rfl ?_;refine awp_region ?_;refine sW .here ?_;refine sM ?_;refine st_s (fun _=>by exact y_storeW (by rfl) rfl (.plain rfl) (.plain rfl) (by exact u1) (by rfl)) ?_;refine sA ?_;refine sA ?_;refine aops_nil ?_;refine awp_ret ?_;refine retG (.inr rfl) (.cons (res_cellW rfl (by exact k1) (by rfl)) (.cons (.tmp rfl) (.cons (.tmp rfl) .nil))) (VShift.of2 (AV.Imp.tup (.cons (AV.Imp.agg (RowOf.imp (enc:=encCr))) (.cons (AV.Imp.refl _) (.cons (AV.Imp.refl _) .nil)))) (.nil _)) ⟨congrArg (fun x:(Pn.Cr)×(Int)×(Int)=>(AV.tup [(AV.agg (encCr x.1)),(AV.int x.2.1),(AV.int x.2.2)])) (show (_,_,_)=(Pn.ctake c) from ?_),rfl⟩;have hil:0<c.items.length:=by omega
    rw [Pn.ctake,if_neg (show ¬ (Pn.cchk c≠0) by omega),if_neg (show ¬ c.items.length=0 by omega),show c.items.getD 0 0=c.items[0] by simp [List.getD,hil]];all_goals rfl
end Go.Proofs
namespace Go.Aw
section
variable {P:Program} {σ:Fr} {st st1:List Item} {i:Nat} {d:Option Tmp} {ty:TypeId} {pos:String} {after:Array Edge} {gd:Option (Nat×Bool)} {w:World}
theorem y_rangeStr {T:TypeId} {x:Operand} {b:ByteArray} (hT:P.underlying T=some .string) (hx:Ev σ x (.val (.string b))):Yields P ⟨d,.range T x,ty,pos,after,gd⟩ σ st i (.ptr i 0) (.raw i (.stringIter b 0)::st):=fun F g a w hw hi hs=>by
  have e:=AV.val_holds.1 (hx.holds hs (by simp [Op.operands]));refine goes_value (u:= .pointer (some ⟨w.heap.size,0,none⟩)) (w':=w.alloc (.stringIter b 0)) ?_ ⟨_,Ghost.to_setLoc hi,hw.allocRaw hi _,AV.ptr_holds.2 ⟨_,_,_,Ghost.setLoc_same,rfl⟩⟩;simp [execOp,Instr.range,e,run_underlying hT]
theorem y_nextStr {x:Operand} {b:ByteArray} {j p:Nat} (hx:Ev σ x (.ptr j 0)) (hu:Upd st (.raw j (.stringIter b p)) (.raw j (.stringIter b (p+(Utf8.decode b p).2))) st1) (hp:p<b.size):
  Yields P ⟨d,.next x true,ty,pos,after,gd⟩ σ st i (.tup [.bool true,.int (p:Int),.val (.int .i32 ((Utf8.decode b p).1:Int))]) st1:=fun F g a w hw hi hs=>by
  obtain⟨bb,pp,s,hl,e⟩:=AV.ptr_holds.1 (hx.holds hs (by simp [Op.operands]));obtain⟨r,p1,p2⟩:=hu.perm;have hw1:RelW g (.raw j (.stringIter b p)::(r++F)) w:=hw.perm (p1.append_right F);have hb:=hw1.rawAt hl;refine goes_value (u:= .tuple #[.bool true,goInt p,.int .i32 ((Utf8.decode b p).1:Int)]) (w':=w.putObj bb (.stringIter b (p+(Utf8.decode b p).2))) ?_ ⟨g,Ghost.to.refl g i,(hw1.putRaw hl).perm (p2.append_right F).symm,?_⟩
  ·have hg:Sem.run P (getObj bb) w= .ok (.stringIter b p) w:=by simp [getObj,Sem.run,hb]
   have hset:Sem.run P (setObj bb (.stringIter b (p+(Utf8.decode b p).2))) w= .ok () (w.putObj bb (.stringIter b (p+(Utf8.decode b p).2))):=by
    simp [setObj,Sem.run,hb,World.putObj]
   simp [execOp,Instr.next,e,hg,hp,hset]
  ·exact AV.tup_holds.2 ⟨[.bool true,goInt p,.int .i32 ((Utf8.decode b p).1:Int)],rfl,AV.val_self _,AV.val_self _,AV.val_self _,trivial⟩
theorem y_nextStrEnd {x:Operand} {b:ByteArray} {j p:Nat} {st':List Item} (hx:Ev σ x (.ptr j 0)) (ht:Take st (.raw j (.stringIter b p)) st') (hp:b.size≤p):
  Yields P ⟨d,.next x true,ty,pos,after,gd⟩ σ st i (.tup [.bool false]) st:=fun F g a w hw hi hs=>by
  obtain⟨bb,pp,s,hl,e⟩:=AV.ptr_holds.1 (hx.holds hs (by simp [Op.operands]));have hb:=(hw.perm (ht.perm.append_right F)).rawAt hl;refine goes_value (u:= .tuple #[.bool false]) ?_ ⟨g,Ghost.to.refl g i,hw,AV.tup_holds.2 ⟨[.bool false],rfl,AV.val_self _,trivial⟩⟩;have hg:Sem.run P (getObj bb) w= .ok (.stringIter b p) w:=by simp [getObj,Sem.run,hb]
  simp [execOp,Instr.next,e,hg,Nat.not_lt.2 hp]
end
end Go.Aw
namespace Go.Aw
theorem Weak.freezeP {n:Nat} {σ:Fr} {st r:List Item} {t j:Nat} {cs:List AV} (h:look σ t=some (.ptr j 0)) (ht:Take st (.cells j cs) r):Weak n σ st ((t,.eptr cs)::σ) r:=fun F g a w hf hw=>by
  obtain⟨u,hu,hh⟩:=hf.slot _ _ h;obtain⟨b,p,s,hloc,e⟩:=AV.ptr_holds.1 hh;obtain⟨g',k1,k2,k3⟩:=RelW.freeze (hw.perm (ht.perm.append_right F)) hloc;have hx:g.ext g':=⟨k1.le,fun q hq=>by
   rcases Classical.em (q=j) with e|e
   ·subst e;have:=k1.le.loc _ _ hloc;rw [this,hloc]
   ·exact k1.keep q hq e⟩
  have hf':=hf.mono k1.le;refine⟨g',hx,⟨hf'.size,hf'.defers,fun k v hk=> ?_⟩,k2⟩;rw [look_cons] at hk;split at hk
  ·rename_i e2;cases hk;subst e2;exact⟨u,hu,AV.eptr_holds.2 ⟨b,0,e,k3⟩⟩
  ·exact hf'.slot k v hk
theorem VShift.freezeClo {st r:List Item} {f j:Nat} {cs:List AV} (ht:Take st (.cells j cs) r):VShift (.clo f [.ptr j 0]) st (.clo f [.eptr cs]) r:=fun F g u w hw hv=>by
  obtain⟨us,e,hus⟩:=AV.clo_holds.1 hv
  match us,hus with
  | [x],⟨hx,_⟩=>
   obtain⟨b,p,s,hloc,e2⟩:=AV.ptr_holds.1 hx;obtain⟨g',k1,k2,k3⟩:=RelW.freeze (hw.perm (ht.perm.append_right F)) hloc;have hx:g.ext g':=⟨k1.le,fun q hq=>by
    rcases Classical.em (q=j) with e|e
    ·subst e;have:=k1.le.loc _ _ hloc;rw [this,hloc]
    ·exact k1.keep q hq e⟩
   exact⟨g',hx,k2,AV.clo_holds.2 ⟨[x],e,AV.eptr_holds.2 ⟨b,0,e2,k3⟩,trivial⟩⟩
theorem RelW.renameMap {g:Ghost} {st:List Item} {w:World} {i j:Nat} {es:List (Int×AV)} (h:RelW g (.map j es::st) w) (hi:g.loc i=none) {x:Nat×Nat×Nat} (hl:g.loc j=some x):RelW (g.setLoc i x) (.map i es::st) w:=by
  obtain⟨b,p,s,vs,c,k1,k2,k3,k4,k5⟩:=h.items _ (List.mem_cons_self ..);rw [hl] at k1;cases k1;have hle:=Ghost.le_setLoc (g:=g) (i:=i) (x:=(b,p,s)) hi;have h1:RelW (g.setLoc i (b,p,s)) (.map j es::st) w:=h.evolve (row:=none) hle ⟨rfl,rfl,rfl,Nat.le_refl _,fun _ _ _=>rfl⟩ (fun b hb=>by cases hb) (fun b o v hv=> .inl ⟨hv,by simp⟩) (fun it _ b _=>⟨by simp,fun _=>rfl⟩) (h.fresh_setLoc i _);refine RelW.cons h1.tailOf ⟨b,p,s,vs,c,Ghost.setLoc_same,k2,k3.mono hle,k4,k5⟩ (fun b' hb'=> ?_);have:b'=b:=by simp [Item.blk,Item.id?,Ghost.setLoc_same] at hb';exact hb'.symm
  subst this;exact h1.head_notin (by simp [Item.blk,Item.id?,hle.loc _ _ hl])
section
variable {P:Program} {σ:Fr} {st:List Item} {i:Nat} {d:Option Tmp} {ty:TypeId} {pos:String} {after:Array Edge} {gd:Option (Nat×Bool)} {w:World}
theorem y_callMap {c:Operand} {args:Array Operand} {ts:Array TypeId} {fv:AV} {f:FuncId} {caps vs:List AV} {es:List (Int×AV)} [hf:Fun fv f caps] (hc:Ev σ c fv) (hargs:EvL σ args.toList vs)
  (h:ACalls P f (vs++caps) [] (fun v' st''=> ∃ j,v'= .mapv j∧st''=[.map j es])):Yields P ⟨d,.call {callee:= .value c,args:=args,argTypes:=ts},ty,pos,after,gd⟩ σ st i (.mapv i) (.map i es::st):=fun F g a w hw hi hs=>by
  obtain⟨us,e,hus⟩:=AV.clo_holds.1 (hf.imp _ _ (hc.holds hs (by simp [Op.operands,Call.operands])));have hv:=hargs.holds hs (fun x hx=>by simp [Op.operands,Call.operands];right;simpa using hx);have hb:=hw.bump i;have hle:g.le (g.bump i):=⟨rfl,rfl,fun _ _ _ h=>h,fun _ _ h=>h,Nat.le_max_left _ _⟩
  refine goes_call (run_call h.1 e) ((h.2 (st++F) (g.bump i) w _ hb ((hv.append hus).mono hle)).mono fun e' w' ⟨u,v',st'',g',he,hx,hw',hv',j,hq,hst⟩=> ?_);subst hq hst;have hi':g'.loc i=none:=(hx.keep i (Nat.lt_of_lt_of_le (Nat.lt_succ_self i) (Nat.le_max_right _ _))).trans hi;obtain⟨b,p,s,hloc,hval⟩:=AV.mapv_holds.1 hv';have k2:=RelW.renameMap (st:=st++F) hw' hi' hloc;refine⟨u,he,g'.setLoc i (b,p,s),?_,k2,?_⟩
  ·have h1:g.to i g':=⟨hle.trans hx.le,fun q hq hne=>hx.keep q (Nat.lt_of_lt_of_le hq (Nat.le_max_left _ _))⟩
   exact h1.trans (Ghost.to_setLoc hi')
  ·exact AV.mapv_holds.2 ⟨b,p,s,Ghost.setLoc_same,hval⟩
end
end Go.Aw
namespace Go.Aw
section
variable {P:Program} {σ:Fr} {st:List Item} {i:Nat} {d:Option Tmp} {ty:TypeId} {pos:String} {after:Array Edge} {gd:Option (Nat×Bool)} {w:World}
theorem holdsL_val {g:Ghost}: ∀ cs:List Value,holdsL g (cs.map AV.val) cs
  | []=>trivial
  |_::cs=>⟨AV.val_self _,holdsL_val cs⟩
theorem AV.Imp.val_agg {cs:List Value} (h:cs.all (·.oneCell')=true):(AV.val (.agg cs.toArray)).Imp (.agg (cs.map AV.val)):=fun g u hu=>by
  rw [AV.val_holds] at hu;subst hu;exact AV.agg_holds.2 ⟨cs,rfl,holdsL_val cs,fun x hx=>by rw [List.all_eq_true] at h;exact h x hx⟩
theorem y_lookupNoA {T E j:Nat} {x y:Operand} {es:List (Int×AV)} {st':List Item} {k:Int} {cs:List Value} [hm:MapT P T E] (hz:(P.info? E).bind (·.zero)=some (.agg cs.toArray)) (h1:cs.all (·.oneCell')=true) (hx:Ev σ x (.mapv j)) (hy:Ev σ y (.int k)) (ht:Take st (.map j es) st') (hv:getM es k=none):
  Yields P ⟨d,.lookup T x y true,ty,pos,after,gd⟩ σ st i (.tup [.agg (cs.map AV.val),.bool false]) st:=fun F g a w hw hi hs=>
  (y_lookupNo hz hx hy ht hv F g a w hw hi hs).mono fun u w' ⟨g',h2,h3,h4⟩=>⟨g',h2,h3,by
   obtain⟨us,e,hus⟩:=AV.tup_holds.1 h4
   match us,hus with
   | [p,q],⟨hp,hq,_⟩=>exact AV.tup_holds.2 ⟨[p,q],e,AV.Imp.val_agg h1 _ _ hp,hq,trivial⟩⟩
end
end Go.Aw
namespace Go.Aw
section
variable {P:Program} {σ:Fr} {st:List Item} {i:Nat} {d:Option Tmp} {ty:TypeId} {pos:String} {after:Array Edge} {gd:Option (Nat×Bool)} {w:World}
def strGe (b c:ByteArray):Bool:= !Op.bytesLess b.toList c.toList
theorem y_strGe {T T':TypeId} {x y:Operand} {b c:ByteArray} (hx:Ev σ x (.val (.string b))) (hy:Ev σ y (.val (.string c))):Yields P ⟨d,.binOp .geq T x y T',ty,pos,after,gd⟩ σ st i (.bool (strGe b c)) st:=fun F g a w hw hi hs=>by
  have e1:=AV.val_holds.1 (hx.holds hs (by simp [Op.operands]));have e2:=AV.val_holds.1 (hy.holds hs (by simp [Op.operands]));exact goes_value (u:= .bool (strGe b c)) (by simp [execOp,e1,e2,eqGuard,binOp,Op.stringOp,strGe]) ⟨g,Ghost.to.refl g i,hw,AV.val_self _⟩
end
end Go.Aw
namespace Pn
theorem Ex.ind {P:Ex→Prop} (h: ∀ e:Ex,(∀ x∈e.args,P x)→P e): ∀ e,P e
  | .mk k o n v as0=>h _ fun x hx=>Ex.ind h x
termination_by e=>sizeOf e
decreasing_by
  have:=List.sizeOf_lt_of_mem (show x∈as0 from hx);simp only [Ex.mk.sizeOf_spec];omega
mutual
def szE:Ex→Int→Int
  | .mk _ _ _ _ as0,n=>szL as0 (n+1)
def szL:List Ex→Int→Int
  | [],n=>n
  |e::l,n=>if 100<n then n else szL l (szE e n)
end
theorem szE_eq (e:Ex) (n:Int):szE e n=szL e.args (n+1):=by cases e;rw [szE];rfl
theorem szL_bd: ∀ (l:List Ex),(∀ x∈l,∀ n:Int,n≤100→n+1≤szE x n∧szE x n≤101)→ ∀ n:Int,n≤101→n≤szL l n∧szL l n≤101
  | [],_,n,hn=>by rw [szL];omega
  |e::l,h,n,hn=>by
   rw [szL];split
   ·omega
   ·have h1:=h e (List.mem_cons_self ..) n (by omega);have h2:=szL_bd l (fun x hx=>h x (List.mem_cons_of_mem _ hx)) (szE e n) h1.2;omega
theorem szE_bd (e:Ex): ∀ n:Int,n≤100→n+1≤szE e n∧szE e n≤101:=by
  induction e using Ex.ind with
  |h e ih=>
   intro n hn;rw [szE_eq];have:=szL_bd e.args ih (n+1) (by omega);omega
inductive Sm:Ex→Prop where
  |mk (e:Ex) (h:e.args.length≤100) (ha: ∀ x∈e.args,Sm x):Sm e
theorem Sm.len {e:Ex} (h:Sm e):e.args.length≤100:=by cases h;assumption
theorem Sm.arg {e:Ex} (h:Sm e) {x:Ex} (hx:x∈e.args):Sm x:=by cases h with|mk _ h ha=>exact ha x hx
theorem szL_sm: ∀ (l:List Ex) (n:Int),szL l n≤100→(l.length:Int)≤100 - n∧ ∀ x∈l,∃ m:Int,n≤m∧szE x m≤100
  | [],n,h=>by
   rw [szL] at h;exact⟨by simp;omega,fun x hx=>by cases hx⟩
  |e::l,n,h=>by
   rw [szL] at h;split at h
   ·omega
   ·have h1:=szE_bd e n (by omega);have h2:=(szL_bd l (fun x _=>szE_bd x) (szE e n) h1.2).1;obtain⟨h3,h4⟩:=szL_sm l (szE e n) h;refine⟨by rw [List.length_cons];push_cast;omega,fun x hx=> ?_⟩;rcases List.mem_cons.1 hx with rfl|hx
    ·exact⟨n,Int.le_refl _,by omega⟩
    ·obtain⟨m,a,b⟩:=h4 x hx;exact⟨m,by omega,b⟩
theorem szE_sm (e:Ex): ∀ n:Int,0≤n→szE e n≤100→Sm e:=by
  induction e using Ex.ind with
  |h e ih=>
   intro n hn h;rw [szE_eq] at h;obtain⟨h1,h2⟩:=szL_sm e.args (n+1) h;refine .mk e (by omega) fun x hx=> ?_;obtain⟨m,a,b⟩:=h2 x hx;exact ih x hx m (by omega) b
def size (e:Ex):Int:=if 100<szE e 0 then 101 else szE e 0
mutual
def longE:Ex→Bool
  | .mk _ _ n _ as0=>decide (40<(n.size:Int))||longL as0
def longL:List Ex→Bool
  | []=>false
  |e::l=>longE e||longL l
end
theorem size_sm {e:Ex} (h:size e≤100):Sm e:=by
  unfold size at h;split at h
  ·omega
  ·exact szE_sm e 0 (Int.le_refl _) h
theorem longE_eq (e:Ex):longE e=(decide (40<(e.name.size:Int))||e.args.any longE):=by
  have hl: ∀ l:List Ex,longL l=l.any longE:=fun l=>by
   induction l with
   |nil=>rw [longL];rfl
   |cons a l ih=>rw [longL,ih];rfl
  cases e;rw [longE,hl];rfl
def greatE (e:Ex):Bool:=decide (40<size e) && decide (size e≤100)||decide (size e≤40) && longE e
def greatS (x:Sg):Bool:=greatE x.expr||decide (40<(x.items.length:Int)) && decide ((x.items.length:Int)≤200)||decide (210<(x.items.length:Int))
def greatP (x:Pl):Bool:=(decide (18<(x.stages.length:Int))||decide (36<(x.pipes.length:Int)))||x.stages.any (fun s=>greatS s||decide (20<(s.items.length:Int)) && decide ((s.items.length:Int)≤200))
mutual
def msE:Ex→Int→Int→Int×Int
  | .mk _ _ _ _ as0,d,p=>if 100<p+1∨100<d then (d,p+1) else msL as0 d d (p+1)
def msL:List Ex→Int→Int→Int→Int×Int
  | [],_,m,p=>(m,p)
  |e::l,d,m,p=>if 100<p then (m,p) else msL l d (max m (msE e (d+1) p).1) (msE e (d+1) p).2
end
theorem msE_eq (e:Ex) (d p:Int):msE e d p=if 100<p+1∨100<d then (d,p+1) else msL e.args d d (p+1):=by cases e;rw [msE];rfl
theorem msL_bd: ∀ (l:List Ex) (d:Int),(∀ x∈l,∀ p:Int,p≤100→p+1≤(msE x (d+1) p).2∧(msE x (d+1) p).2≤101∧d+1≤(msE x (d+1) p).1∧(msE x (d+1) p).1≤101)→ ∀ m p:Int,p≤101→d≤m→m≤101→p≤(msL l d m p).2∧(msL l d m p).2≤101∧d≤(msL l d m p).1∧(msL l d m p).1≤101
  | [],d,_,m,p,hp,hm,hm2=>by rw [msL];exact⟨Int.le_refl _,hp,hm,hm2⟩
  |e::l,d,h,m,p,hp,hm,hm2=>by
   rw [msL];split
   ·exact⟨Int.le_refl _,hp,hm,hm2⟩
   ·have h1:=h e (List.mem_cons_self ..) p (by omega);have h2:=msL_bd l d (fun x hx=>h x (List.mem_cons_of_mem _ hx)) (max m (msE e (d+1) p).1) (msE e (d+1) p).2 h1.2.1 (by omega) (by omega);omega
theorem msE_bd (e:Ex): ∀ d p:Int,p≤100→d≤101→p+1≤(msE e d p).2∧(msE e d p).2≤101∧d≤(msE e d p).1∧(msE e d p).1≤101:=by
  induction e using Ex.ind with
  |h e ih=>
   intro d p hp hd;rw [msE_eq];split
   ·exact⟨by show p+1≤p+1;omega,by show p+1≤101;omega,Int.le_refl _,hd⟩
   ·have:=msL_bd e.args d (fun x hx p hp=>ih x hx (d+1) p hp (by omega)) d (p+1) (by omega) (Int.le_refl _) (by omega);omega
end Pn
namespace Pn
open Go.Aw (bys)
theorem bys_get {b:ByteArray} {k:Nat} (hk:k<b.size): ∃ h:k<(bys b).length,(bys b)[k]=((b[k]'hk).toNat:Int):=by
  refine⟨by rw [Go.Aw.bys_len];exact hk,?_⟩;unfold bys;rw [List.getElem_map,Array.getElem_toList];rfl
theorem dec_cases (b:ByteArray) (k:Nat) (hk:k<b.size):(((Go.Utf8.decode b k).1:Int)=(bys b).getD k 0∧(Go.Utf8.decode b k).2=1)∨(128≤((Go.Utf8.decode b k).1:Int)∧128≤(bys b).getD k 0):=by
  obtain⟨h,e⟩:=bys_get hk;rw [List.getD,List.getElem?_eq_getElem h,Option.getD_some,e];by_cases ha:(b[k]'hk).toNat<128
  ·rw [Go.decode_ascii b k hk ha];exact .inl ⟨rfl,rfl⟩
  ·have:=(Go.decode_high b k hk (by omega)).1;exact .inr ⟨by omega,by omega⟩
theorem okAt_dec {b:ByteArray} {k:Nat} (hk:k<b.size):Sv.okAt (bys b) k=(decide (97≤((Go.Utf8.decode b k).1:Int)) && decide (((Go.Utf8.decode b k).1:Int)≤122)|| (decide (k≠0) && (decide (((Go.Utf8.decode b k).1:Int)=95)|| (decide (48≤((Go.Utf8.decode b k).1:Int)) && decide (((Go.Utf8.decode b k).1:Int)≤57))))):=by
  unfold Sv.okAt Sv.small Sv.digit;rcases dec_cases b k hk with ⟨h,_⟩|⟨h1,h2⟩
  ·rw [h]
  ·rw [Bool.eq_iff_iff];simp only [Bool.or_eq_true,Bool.and_eq_true,decide_eq_true_eq];omega
end Pn
set_option maxRecDepth 10000
namespace Go.Proofs
open Go.Aw Wl Pn
theorem size_step (e:Pn.Ex) (ih: ∀ x∈e.args,∀ n:Int,0≤n∧n≤100→ACalls Tryz.prog 138 [.agg (encE x),.int n] [] (fun v st=>v= .int (Pn.szE x n)∧st=[])) (n:Int) (hn:0≤n∧n≤100):ACalls Tryz.prog 138 [.agg (encE e),.int n] [] (fun v st=>v= .int (Pn.szE e n)∧st=[]):=by
  refine acalls_body Tryz.func138 (by kernel_rfl) rfl Tryz.ntmps138 (le_ rfl) ?_;rw [Tryz.results138];rw [Pn.szE_eq];refine asr ?_;refine sB fun n1=> ?_;refine sA ?_;refine aops_nil ?_;refine asr ?_;refine sM ?_;refine sY ?_ (hb:=by omega);refine sA ?_;refine aops_nil ?_;refine awp_seq ?_;refine asr ?_;refine sA ?_;refine aops_nil ?_;refine awp_block ?_;refine awp_loop2 (X:=Nat×Int) [2] (.cons rfl .nil) (fun σ x=>((1,.int x.2):Nat×AV)::((5,.int (x.1:Int)):Nat×AV)::σ) (fun R x=> .cells n1 (encE e)::R) (fun x=>x.1≤e.args.length∧Pn.szL e.args (n+1)=Pn.szL (e.args.drop x.1) x.2∧(x.1:Int)≤x.2∧x.2≤101) (fun x=>e.args.length - x.1) (0,n+1) (by exact Weak.of2 (by (repeat (first|exact .nil _|refine .cons rfl (by exact AV.Imp.refl _) ?_));done) (by (repeat (exact .refl _));done)) ⟨Nat.zero_le _,rfl,by show ((0:Nat):Int)≤n+1;omega,by show n+1≤101;omega⟩ ?_;rintro⟨k,m⟩ ⟨hk,hinv,hm0,hm⟩;simp only at hk hinv hm0 hm;dsimp only;refine awp_seq ?_;refine asr ?_;refine sM ?_;refine sF ?_;refine sL .here ?_;refine sN ?_;refine sS ?_;refine aops_nil ?_;refine awp_cond rfl (fun h1=> ?_) (fun h1=> ?_)
  ·simp only [nf] at h1;have hkl:k<e.args.length:=by omega
   refine awp_skip ?_;refine awp_seq ?_;refine awp_block ?_;refine awp_seq ?_;refine asr ?_;refine sM ?_;refine sG ?_;refine aops_nil ?_;refine awp_cond rfl (fun h2=> ?_) (fun h2=> ?_)
   ·simp only [nf] at h2;refine asr ?_;refine sM ?_;refine sA ?_;refine aops_nil ?_;refine awp_ret ?_;refine retG (.inr rfl) (.cons (.tmp rfl) .nil) (VShift.drop) ⟨?_,rfl⟩;rw [hinv,List.drop_eq_getElem_cons hkl,Pn.szL,if_pos (by omega)];all_goals rfl
   ·simp only [nf] at h2;refine awp_skip ?_;have hbd:=Pn.szE_bd e.args[k] m (by omega);refine awp_region ?_;refine sF ?_;refine sL .here ?_;refine sM ?_;refine st_p (fun _=>by exact y_indexMap (.plain rfl) (.plain rfl) rfl (by refine⟨?_,?_⟩;(omega);rfl)) rfl ?_;refine sV ?_;refine sM ?_;refine aops_call (blt_lt rfl) (.plain rfl) (.cons (.plain rfl) (.cons (.plain rfl) .nil)) (ACalls.here (ih _ (List.getElem_mem hkl) m ⟨by omega,by omega⟩) ?_);refine sA ?_;refine aops_nil ?_;refine awp_region ?_;refine sM ?_;refine sY ?_ (hb:=by omega);refine sA ?_;refine aops_nil ?_;refine⟨(k+1,Pn.szE e.args[k] m),⟨by show k+1≤_;omega,?_,by show ((k+1:Nat):Int)≤Pn.szE _ _;omega,hbd.2⟩,by show e.args.length - (k+1)<e.args.length - k;omega,?_⟩
    ·rw [hinv,List.drop_eq_getElem_cons hkl,Pn.szL,if_neg (by omega)]
    ·exact Weak.of2 (by (repeat (first|exact .nil _|refine .cons rfl (by exact AV.Imp.refl _) ?_));done) (by (repeat (exact .refl _));done)
  ·simp only [nf] at h1;refine awp_exit ?_;refine asr ?_;refine sM ?_;refine sA ?_;refine aops_nil ?_;refine awp_ret ?_;refine retG (.inr rfl) (.cons (.tmp rfl) .nil) (VShift.drop) ⟨?_,rfl⟩;rw [hinv,List.drop_eq_nil_of_le (by omega),Pn.szL];all_goals rfl
theorem size0_c (e:Pn.Ex): ∀ n:Int,0≤n∧n≤100→ACalls Tryz.prog 138 [.agg (encE e),.int n] [] (fun v st=>v= .int (Pn.szE e n)∧st=[]):=by
  induction e using Pn.Ex.ind with
  |h e ih=>exact size_step e ih
theorem size_c (e:Pn.Ex) :ACalls Tryz.prog 93 [(AV.agg (encE e))] [] (fun v st=>v=(AV.int (Pn.size e))∧st=[]):=by
  refine acalls_body Tryz.func93 (by kernel_rfl) rfl Tryz.ntmps93 (le_ rfl) ?_;rw [Tryz.results93];refine asr ?_;refine sB fun n1=> ?_;refine sA ?_;refine aops_nil ?_;refine asr ?_;refine sW .here ?_;refine aops_call (blt_lt rfl) (.plain rfl) (.cons (.plain rfl) (.cons (.plain rfl) .nil)) (ACalls.here (size0_c e 0 (by decide)) ?_);refine sA ?_;refine aops_nil ?_;refine awp_seq ?_;refine asr ?_;refine sM ?_;refine sG ?_;refine aops_nil ?_;refine awp_cond rfl (fun h1=> ?_) (fun h1=> ?_)
  ·simp only [nf] at h1;refine asr ?_;refine sA ?_;refine aops_nil ?_;refine awp_ret ?_;refine retG (.inr rfl) (.cons (.tmp rfl) .nil) (VShift.of1 (AV.Imp.refl _) (.nil _)) ⟨congrArg (fun x:(Int)=>(AV.int x)) (show _=(Pn.size e) from ?_),rfl⟩;rw [Pn.size,if_pos (by omega)]
  ·simp only [nf] at h1;refine awp_skip ?_;refine asr ?_;refine sM ?_;refine sA ?_;refine aops_nil ?_;refine awp_ret ?_;refine retG (.inr rfl) (.cons (.tmp rfl) .nil) (VShift.of1 (AV.Imp.refl _) (.nil _)) ⟨congrArg (fun x:(Int)=>(AV.int x)) (show _=(Pn.size e) from ?_),rfl⟩;rw [Pn.size,if_neg (by omega)]
theorem long_step (e:Pn.Ex) (hl:e.args.length≤100) (ih: ∀ x∈e.args,ACalls Tryz.prog 94 [.agg (encE x)] [] (fun v st=>v= .bool (Pn.longE x)∧st=[])):ACalls Tryz.prog 94 [.agg (encE e)] [] (fun v st=>v= .bool (Pn.longE e)∧st=[]):=by
  refine acalls_body Tryz.func94 (by kernel_rfl) rfl Tryz.ntmps94 (le_ rfl) ?_;rw [Tryz.results94];rw [Pn.longE_eq];refine asr ?_;refine sB fun n1=> ?_;refine sA ?_;refine aops_nil ?_;refine awp_seq ?_;refine asr ?_;refine sF ?_;refine sL .here ?_;refine st_p (fun _=>by exact y_strLen (by rfl) (.plain rfl)) rfl ?_;refine sG ?_;refine aops_nil ?_;refine awp_cond rfl (fun h1=> ?_) (fun h1=> ?_)
  ·simp only [nf] at h1;refine asr ?_;refine sA ?_;refine aops_nil ?_;refine awp_ret ?_;refine retG (.inr rfl) (.cons (.tmp rfl) .nil) (VShift.drop) ⟨?_,rfl⟩;rw [decide_eq_true (by omega)];rfl
  ·simp only [nf] at h1;refine awp_skip ?_;refine awp_seq ?_;refine asr ?_;refine sA ?_;refine aops_nil ?_;refine awp_block ?_;refine awp_loop2 (X:=Nat) [1] (.cons rfl .nil) (fun σ x=>((3,.int (x:Int)):Nat×AV)::σ) (fun R x=> .cells n1 (encE e)::R) (fun x=>x≤e.args.length∧ ∀ i (h:i<e.args.length),i<x→Pn.longE e.args[i]=false) (fun x=>e.args.length - x) 0 (by exact Weak.of2 (by (repeat (first|exact .nil _|refine .cons rfl (by exact AV.Imp.refl _) ?_));done) (by (repeat (exact .refl _));done)) ⟨Nat.zero_le _,by omega⟩ ?_;rintro k ⟨hk,hinv⟩;refine awp_seq ?_;refine asr ?_;refine sM ?_;refine sF ?_;refine sL .here ?_;refine sN ?_;refine sS ?_;refine aops_nil ?_;refine awp_cond rfl (fun h2=> ?_) (fun h2=> ?_)
   ·simp only [nf] at h2;have hkl:k<e.args.length:=by omega
    refine awp_skip ?_;refine awp_seq ?_;refine awp_block ?_;refine asr ?_;refine sF ?_;refine sL .here ?_;refine sM ?_;refine st_p (fun _=>by exact y_indexMap (.plain rfl) (.plain rfl) rfl (by refine⟨?_,?_⟩;(omega);rfl)) rfl ?_;refine sV ?_;refine aops_call (blt_lt rfl) (.plain rfl) (.cons (.plain rfl) .nil) (ACalls.here (ih _ (List.getElem_mem hkl)) ?_);refine aops_nil ?_;refine awp_cond rfl (fun h3=> ?_) (fun h3=> ?_)
    ·refine asr ?_;refine sA ?_;refine aops_nil ?_;refine awp_ret ?_;refine retG (.inr rfl) (.cons (.tmp rfl) .nil) (VShift.drop) ⟨?_,rfl⟩;rw [List.any_eq_true.2 ⟨_,List.getElem_mem hkl,by assumption⟩,Bool.or_true];all_goals rfl
    ·refine awp_skip ?_;refine awp_region ?_;refine sM ?_;refine sY ?_ (hb:=by omega);refine sA ?_;refine aops_nil ?_;refine⟨k+1,⟨by omega,fun i hi hik=> ?_⟩,by omega,?_⟩
     ·by_cases e9:i=k
      ·subst e9;assumption
      ·exact hinv i hi (by omega)
     ·exact Weak.of2 (by (repeat (first|exact .nil _|refine .cons rfl (by exact AV.Imp.refl _) ?_));done) (by (repeat (exact .refl _));done)
   ·simp only [nf] at h2;refine awp_exit ?_;refine asr ?_;refine sA ?_;refine aops_nil ?_;refine awp_ret ?_;refine retG (.inr rfl) (.cons (.tmp rfl) .nil) (VShift.drop) ⟨?_,rfl⟩;rw [decide_eq_false (by omega),List.any_eq_false.2 (fun c hc=>by
     obtain⟨i,hi,rfl⟩:=List.getElem_of_mem hc;rw [hinv i hi (by omega)];decide)]
    rfl
theorem long_c (e:Pn.Ex):Pn.Sm e→ACalls Tryz.prog 94 [.agg (encE e)] [] (fun v st=>v= .bool (Pn.longE e)∧st=[]):=by
  induction e using Pn.Ex.ind with
  |h e ih=>exact fun hs=>long_step e hs.len fun x hx=>ih x hx (hs.arg hx)
theorem greatE_c (e:Pn.Ex) :ACalls Tryz.prog 69 [(AV.agg (encE e))] [] (fun v st=>v=(AV.bool (Pn.greatE e))∧st=[]):=by
  refine acalls_body Tryz.func69 (by kernel_rfl) rfl Tryz.ntmps69 (le_ rfl) ?_;rw [Tryz.results69];refine asr ?_;refine sB fun n1=> ?_;refine sA ?_;refine aops_nil ?_;refine asr ?_;refine sW .here ?_;refine aops_call (blt_lt rfl) (.plain rfl) (.cons (.imp (.plain rfl) (AV.Imp.agg (RowOf.imp (enc:=encE)))) .nil) (ACalls.here (size_c e) ?_);refine sA ?_;refine aops_nil ?_;refine asr ?_;refine sM ?_;refine sG ?_;refine sM ?_;refine gM ?_;refine gH0 ?_;refine sJ ?_;refine sM ?_;refine gM ?_;refine gH0 ?_;refine gM0 ?_;refine gW .here ?_;refine st_g rfl rfl rfl SaysI.out (fun hc _=>by exact y_call (.plain rfl) (.cons (.opt rfl hc) .nil) (ACalls.pure (long_c e (Pn.size_sm (by (simp at hc;omega)))))) rfl ?_;refine st_g rfl rfl rfl SaysI.out (fun hc _=>by exact y_and' hc (.opt rfl hc) rfl rfl) rfl ?_;refine sK ?_;refine sA ?_;refine aops_nil ?_;refine awp_ret ?_;refine retG (.inr rfl) (.cons (.tmp rfl) .nil) (VShift.of1 (AV.Imp.refl _) (.nil _)) ⟨congrArg (fun x:(Bool)=>(AV.bool x)) (show _=(Pn.greatE e) from ?_),rfl⟩;rfl
theorem greatS_c (x:Pn.Sg) :ACalls Tryz.prog 35 [(AV.agg (encSg x))] [] (fun v st=>v=(AV.bool (Pn.greatS x))∧st=[]):=by
  refine acalls_body Tryz.func35 (by kernel_rfl) rfl Tryz.ntmps35 (le_ rfl) ?_;rw [Tryz.results35];refine asr ?_;refine sB fun n1=> ?_;refine sA ?_;refine aops_nil ?_;refine asr ?_;refine sF ?_;refine st_p (fun _=>by exact y_loadAggN (cs':=[_,_,_,_,_]) (.plain rfl) (by exact .here) (le_ rfl) (by rfl)) rfl ?_;refine aops_call (blt_lt rfl) (.plain rfl) (.cons (.imp (.plain rfl) (AV.Imp.agg (RowOf.imp (enc:=encE)))) .nil) (ACalls.here (greatE_c x.expr) ?_);refine sM ?_;refine gF ?_;refine gL0 .here ?_;refine gN0 ?_;refine gG0 ?_;refine gM0 ?_;refine gF ?_;refine gL0 .here ?_;refine gN0 ?_;refine gH0 ?_;refine st_g rfl rfl rfl SaysI.out (fun hc _=>by exact y_and' hc (.opt rfl hc) rfl rfl) rfl ?_;refine sK ?_;refine sM ?_;refine gF ?_;refine gL0 .here ?_;refine gN0 ?_;refine gG0 ?_;refine sK ?_;refine sA ?_;refine aops_nil ?_;refine awp_ret ?_;refine retG (.inr rfl) (.cons (.tmp rfl) .nil) (VShift.of1 (AV.Imp.refl _) (.nil _)) ⟨congrArg (fun x:(Bool)=>(AV.bool x)) (show _=(Pn.greatS x) from ?_),rfl⟩;rfl
theorem greatP_c (y:Pn.Pl) :ACalls Tryz.prog 17 [(AV.agg (encPl y))] [] (fun v st=>v=(AV.bool (Pn.greatP y))∧st=[]):=by
  refine acalls_body Tryz.func17 (by kernel_rfl) rfl Tryz.ntmps17 (le_ rfl) ?_;rw [Tryz.results17];refine asr ?_;refine sB fun n1=> ?_;refine sA ?_;refine aops_nil ?_;refine awp_seq ?_;refine asr ?_;refine sF ?_;refine sL .here ?_;refine sN ?_;refine sG ?_;refine sM ?_;refine gF ?_;refine gL0 .here ?_;refine gN0 ?_;refine gG0 ?_;refine sK ?_;refine aops_nil ?_;refine awp_cond rfl (fun h1=> ?_) (fun h1=> ?_)
  ·simp only [nf] at h1;refine asr ?_;refine sA ?_;refine aops_nil ?_;refine awp_ret ?_;refine retG (.inr rfl) (.cons (.tmp rfl) .nil) (VShift.of1 (AV.Imp.refl _) (.nil _)) ⟨congrArg (fun x:(Bool)=>(AV.bool x)) (show _=(Pn.greatP y) from ?_),rfl⟩;rw [eq_comm,Pn.greatP,Bool.or_eq_true];exact .inl (by simp;omega)
  ·simp only [nf] at h1;refine awp_skip ?_;refine awp_seq ?_;refine asr ?_;refine sA ?_;refine aops_nil ?_;refine awp_block ?_;refine awp_loop2 (X:=Nat) [1] (.cons rfl .nil) (fun σ x=>((3,.int (x:Int)):Nat×AV)::σ) (fun R x=> .cells n1 (encPl y)::R) (fun x=>x≤y.stages.length∧ ∀ i (h:i<y.stages.length),i<x→(fun s=>Pn.greatS s||decide (20<(s.items.length:Int)) && decide ((s.items.length:Int)≤200)) y.stages[i]=false) (fun x=>y.stages.length - x) 0 (by exact Weak.of2 (by (repeat (first|exact .nil _|refine .cons rfl (by exact AV.Imp.refl _) ?_));done) (by (repeat (exact .refl _));done)) ⟨Nat.zero_le _,by omega⟩ ?_;rintro k ⟨hk,hinv⟩;refine awp_seq ?_;refine asr ?_;refine sM ?_;refine sF ?_;refine sL .here ?_;refine sN ?_;refine sS ?_;refine aops_nil ?_;refine awp_cond rfl (fun h2=> ?_) (fun h2=> ?_)
   ·simp only [nf] at h2;refine awp_skip ?_;refine awp_seq ?_;refine awp_block ?_;refine asr ?_;refine sF ?_;refine sL .here ?_;refine sM ?_;refine st_p (fun _=>by exact y_indexMap (.plain rfl) (.plain rfl) rfl (by refine⟨?_,?_⟩;(omega);rfl)) rfl ?_;refine sV ?_;refine aops_call (blt_lt rfl) (.plain rfl) (.cons (.imp (.plain rfl) (AV.Imp.agg (RowOf.imp (enc:=encSg)))) .nil) (ACalls.here (greatS_c _) ?_);refine sM ?_;refine gF ?_;refine gL0 .here ?_;refine gM ?_;refine st_g rfl rfl rfl SaysI.out (fun hc _=>by exact y_indexMap (.opt rfl hc) (.opt rfl hc) rfl (by refine⟨?_,?_⟩;(omega);rfl)) rfl ?_;refine st_g rfl rfl rfl SaysI.out (fun hc _=>by exact y_fieldE (.opt rfl hc) (le_ rfl)) rfl ?_;refine gU0 ?_;refine gN0 ?_;refine gG0 ?_;refine gM0 ?_;refine gF ?_;refine gL0 .here ?_;refine gM ?_;refine st_g rfl rfl rfl SaysI.out (fun hc _=>by exact y_indexMap (.opt rfl hc) (.opt rfl hc) rfl (by refine⟨?_,?_⟩;(omega);rfl)) rfl ?_;refine st_g rfl rfl rfl SaysI.out (fun hc _=>by exact y_fieldE (.opt rfl hc) (le_ rfl)) rfl ?_;refine gU0 ?_;refine gN0 ?_;refine gH0 ?_;refine st_g rfl rfl rfl SaysI.out (fun hc _=>by exact y_and' hc (.opt rfl hc) rfl rfl) rfl ?_;refine sK ?_;refine aops_nil ?_;refine awp_cond rfl (fun h3=> ?_) (fun h3=> ?_)
    ·simp only [nf] at h3;refine asr ?_;refine sA ?_;refine aops_nil ?_;refine awp_ret ?_;refine retG (.inr rfl) (.cons (.tmp rfl) .nil) (VShift.of1 (AV.Imp.refl _) (.nil _)) ⟨congrArg (fun x:(Bool)=>(AV.bool x)) (show _=(Pn.greatP y) from ?_),rfl⟩;rw [eq_comm,Pn.greatP,Bool.or_eq_true];exact .inr (List.any_eq_true.2 ⟨_,List.getElem_mem (by assumption),by simpa using h3⟩)
    ·simp only [nf] at h3;have hgk:(fun s=>Pn.greatS s||decide (20<(s.items.length:Int)) && decide ((s.items.length:Int)≤200)) y.stages[k]=false:=by
      rw [Bool.eq_false_iff,ne_eq];intro e9;simp only [Bool.or_eq_true,Bool.and_eq_true,decide_eq_true_eq] at e9;obtain⟨a9,b9⟩:=h3;rcases e9 with e9|e9
      ·rw [e9] at a9;cases a9
      ·omega
     refine awp_skip ?_;refine awp_region ?_;refine sM ?_;refine sY ?_ (hb:=by omega);refine sA ?_;refine aops_nil ?_;refine⟨k+1,⟨by omega,fun i hi hik=> ?_⟩,by omega,?_⟩
     ·by_cases e9:i=k
      ·subst e9;exact hgk
      ·exact hinv i hi (by omega)
     ·exact Weak.of2 (by (repeat (first|exact .nil _|refine .cons rfl (by exact AV.Imp.refl _) ?_));done) (by (repeat (exact .refl _));done)
   ·simp only [nf] at h2;refine awp_exit ?_;refine asr ?_;refine sA ?_;refine aops_nil ?_;refine awp_ret ?_;refine retG (.inr rfl) (.cons (.tmp rfl) .nil) (VShift.of1 (AV.Imp.refl _) (.nil _)) ⟨congrArg (fun x:(Bool)=>(AV.bool x)) (show _=(Pn.greatP y) from ?_),rfl⟩;rw [eq_comm,Pn.greatP,Bool.or_eq_false_iff];refine⟨by simp;omega,List.any_eq_false.2 (fun c hc=> ?_)⟩;obtain⟨i,hi,rfl⟩:=List.getElem_of_mem hc;have:=hinv i hi (by omega);simp_all
end Go.Proofs
set_option maxRecDepth 10000
namespace Go.Proofs
open Go.Aw Wl Pn
theorem measure_step (e:Pn.Ex) (p:Nat) (ih: ∀ x∈e.args,∀ d n:Int,0≤n∧n≤100→0≤d∧d≤101→ACalls Tryz.prog 139 [.agg (encE x),.int d,.ptr p 0] [.cells p [.int n]] (fun v st=>v= .int (Pn.msE x d n).1∧st=[.cells p [.int (Pn.msE x d n).2]])) (d n:Int) (hn:0≤n∧n≤100) (hd:0≤d∧d≤101):ACalls Tryz.prog 139 [.agg (encE e),.int d,.ptr p 0] [.cells p [.int n]] (fun v st=>v= .int (Pn.msE e d n).1∧st=[.cells p [.int (Pn.msE e d n).2]]):=by
  refine acalls_body Tryz.func139 (by kernel_rfl) rfl Tryz.ntmps139 (le_ rfl) ?_;rw [Tryz.results139];rw [Pn.msE_eq];refine asr ?_;refine sB fun n3=> ?_;refine sA ?_;refine aops_nil ?_;refine asr ?_;refine sM ?_;refine sZ ?_;refine sL k1 ?_;refine sY ?_ (hb:=by omega);refine sZ ?_;refine st_s (fun _=>by exact y_storeW (by rfl) rfl (.plain rfl) (.plain rfl) (by exact u1) (by rfl)) ?_;refine aops_nil ?_;refine awp_seq ?_;refine asr ?_;refine sM ?_;refine sZ ?_;refine sL k1 ?_;refine sG ?_;refine sM ?_;refine gM ?_;refine gG0 ?_;refine sK ?_;refine aops_nil ?_;refine awp_cond rfl (fun h1=> ?_) (fun h1=> ?_)
  ·simp only [nf] at h1;have hlim:100<n+1∨100<d:=by omega
   refine asr ?_;refine sM ?_;refine sA ?_;refine aops_nil ?_;refine awp_ret ?_;rw [if_pos hlim];exact retG (.inr rfl) (.cons (.tmp rfl) .nil) (VShift.of2 (AV.Imp.refl _) (by (repeat (first|exact .nil _|apply ItLe2.cons (by exact k1)));done)) ⟨rfl,rfl⟩
  ·simp only [nf] at h1;have hlim: ¬ (100<n+1∨100<d):=by omega
   rw [if_neg hlim];refine awp_skip ?_;refine asr ?_;refine sM ?_;refine sA ?_;refine aops_nil ?_;refine awp_seq ?_;refine asr ?_;refine sF ?_;refine sL .here ?_;refine sN ?_;refine sM ?_;refine aops_nil ?_;refine awp_block ?_;refine awp_loop2 (X:=Nat×Int×Int) [1,2,26,27] (.cons rfl (.cons rfl (.cons rfl (.cons rfl .nil)))) (fun σ x=>((7,.int x.2.1):Nat×AV)::((28,.int (x.1:Int)):Nat×AV)::σ) (fun R x=> .cells p [.int x.2.2]::R) (fun x=>x.1≤e.args.length∧Pn.msL e.args d d (n+1)=Pn.msL (e.args.drop x.1) d x.2.1 x.2.2∧(x.1:Int)≤x.2.2∧x.2.2≤101∧d≤x.2.1∧x.2.1≤101) (fun x=>e.args.length - x.1) (0,d,n+1) (by exact Weak.of2 (by (repeat (first|exact .nil _|refine .cons rfl (by exact AV.Imp.refl _) ?_));done) (by (repeat (first|exact .refl _|apply ItLe2.cons (by exact k1)));done)) ⟨Nat.zero_le _,rfl,by show ((0:Nat):Int)≤n+1;omega,by show n+1≤101;omega,Int.le_refl _,hd.2⟩ ?_;rintro⟨k,m,q⟩ ⟨hk,hinv,hkq,hq,hm,hm2⟩;simp only at hk hinv hkq hq hm hm2;dsimp only;refine asr ?_;refine sS ?_;refine aops_nil ?_;refine awp_seq ?_;refine awp_cond rfl (fun h2=> ?_) (fun h2=> ?_)
   ·simp only [nf] at h2;have hkl:k<e.args.length:=by omega
    refine awp_skip ?_;refine awp_seq ?_;refine awp_block ?_;refine asr ?_;refine st_p (fun _=>by exact y_indexMap (.plain rfl) (.plain rfl) rfl (by refine⟨?_,?_⟩;(omega);rfl)) rfl ?_;refine sV ?_;refine sC fun n9=> ?_;refine st_s (fun _=>by exact y_storeW (by rfl) rfl (.plain rfl) (.plain rfl) (by exact .here) (by rfl)) ?_;refine aops_nil ?_;refine awp_seq ?_;refine asr ?_;refine sM ?_;refine sZ ?_;refine sL k1 ?_;refine sG ?_;refine aops_nil ?_;refine awp_cond rfl (fun h3=> ?_) (fun h3=> ?_)
    ·simp only [nf] at h3;have hfin:Pn.msL e.args d d (n+1)=(m,q):=by rw [hinv,List.drop_eq_getElem_cons hkl,Pn.msL,if_pos (by omega)]
     refine awp_exit ?_;refine asr ?_;refine sM ?_;refine sA ?_;refine aops_nil ?_;refine awp_ret ?_;rw [hfin];exact retG (.inr rfl) (.cons (.tmp rfl) .nil) (VShift.of2 (AV.Imp.refl _) (by (repeat (first|exact .nil _|apply ItLe2.cons (by exact k1)));done)) ⟨rfl,rfl⟩
    ·simp only [nf] at h3;refine awp_skip ?_;have hbd:=Pn.msE_bd e.args[k] (d+1) q (by omega) (by omega);refine awp_region ?_;refine sM ?_;refine sW .here ?_;refine sM ?_;refine sY ?_ (hb:=by omega);refine sM ?_;refine aops_call (blt_lt rfl) (.plain rfl) (.cons (.plain rfl) (.cons (.plain rfl) (.cons (.plain rfl) .nil))) (ACalls.upd (its:=[.cells p _]) (by apply Takes.cons (by exact k1);exact .nil _) (ih _ (List.getElem_mem hkl) (d+1) q ⟨by omega,by omega⟩ ⟨by omega,by omega⟩) ?_);refine st_p (fun _=>by exact y_max (.plain rfl) (.plain rfl)) rfl ?_;refine sA ?_;refine aops_nil ?_;refine awp_region ?_;refine sY ?_ (hb:=by omega);refine sM ?_;refine aops_nil ?_;refine⟨(k+1,max m (Pn.msE e.args[k] (d+1) q).1,(Pn.msE e.args[k] (d+1) q).2),⟨by show k+1≤_;omega,?_,by show ((k+1:Nat):Int)≤(Pn.msE _ _ _).2;omega,hbd.2.1,by show d≤max _ _;omega,by show max _ _≤101;omega⟩,by show e.args.length - (k+1)<e.args.length - k;omega,?_⟩
     ·rw [hinv,List.drop_eq_getElem_cons hkl,Pn.msL,if_neg (by omega)]
     ·exact Weak.of2 (by (repeat (first|exact .nil _|refine .cons rfl (by exact AV.Imp.refl _) ?_));done) (by (repeat (first|exact .nil _|apply ItLe2.cons (by first|exact .here|exact k1)));done)
   ·simp only [nf] at h2;have hfin:Pn.msL e.args d d (n+1)=(m,q):=by rw [hinv,List.drop_eq_nil_of_le (by omega),Pn.msL]
    refine awp_exit ?_;refine asr ?_;refine sM ?_;refine sA ?_;refine aops_nil ?_;refine awp_ret ?_;rw [hfin];exact retG (.inr rfl) (.cons (.tmp rfl) .nil) (VShift.of2 (AV.Imp.refl _) (by (repeat (first|exact .nil _|apply ItLe2.cons (by exact .here)));done)) ⟨rfl,rfl⟩
theorem measure_c (e:Pn.Ex) (p:Nat): ∀ d n:Int,0≤n∧n≤100→0≤d∧d≤101→ACalls Tryz.prog 139 [.agg (encE e),.int d,.ptr p 0] [.cells p [.int n]] (fun v st=>v= .int (Pn.msE e d n).1∧st=[.cells p [.int (Pn.msE e d n).2]]):=by
  induction e using Pn.Ex.ind with
  |h e ih=>exact measure_step e p ih
theorem letter_c (c:Int) :ACalls Tryz.prog 192 [(AV.val (.int .i32 c))] [] (fun v st=>v=(AV.bool (decide (97≤c) && decide (c≤122)))∧st=[]):=by
  refine acalls_body Tryz.func192 (by kernel_rfl) rfl Tryz.ntmps192 (le_ rfl) ?_;rw [Tryz.results192];refine asr ?_;refine sA ?_;refine aops_nil ?_;refine asr ?_;refine sM ?_;refine st_p (fun _=>by exact y_geq (.plain rfl) (.plain rfl)) rfl ?_;refine sM ?_;refine gM ?_;refine gH0 ?_;refine sJ ?_;refine sA ?_;refine aops_nil ?_;refine awp_ret ?_;refine retG (.inr rfl) (.cons (.tmp rfl) .nil) (VShift.of1 (AV.Imp.refl _) (.nil _)) ⟨congrArg (fun x:(Bool)=>(AV.bool x)) (show _=(decide (97≤c) && decide (c≤122)) from ?_),rfl⟩;rfl
theorem isName_c (b:ByteArray) :ACalls Tryz.prog 167 [(AV.val (.string b))] [] (fun v st=>v=(AV.bool (Sv.isName b))∧st=[]):=by
  refine acalls_body Tryz.func167 (by kernel_rfl) rfl Tryz.ntmps167 (le_ rfl) ?_;rw [Tryz.results167];have hbl:=bys_len b;refine asr ?_;refine sA ?_;refine aops_nil ?_;refine asr ?_;refine sA ?_;refine aops_nil ?_;refine awp_seq ?_;refine asr ?_;refine sM ?_;refine st_n (fun _=>by exact y_rangeStr (by rfl) (.plain rfl)) rfl fun nI=> ?_;refine aops_nil ?_;refine awp_block ?_;refine awp_loop2 (X:=Nat) [0,3,7] (.cons rfl (.cons rfl (.cons rfl .nil))) (fun σ x=>σ) (fun R x=> .raw nI (.stringIter b x)::R) (fun x=>x≤b.size∧ ∀ i,i<x→Sv.okAt (bys b) i=true) (fun x=>b.size - x) 0 (by exact Weak.of2 (by (repeat (first|exact .nil _|refine .cons rfl (by exact AV.Imp.refl _) ?_));done) (by (repeat (exact .refl _));done)) ⟨Nat.zero_le _,by omega⟩ ?_;rintro k ⟨hk,hinv⟩;refine awp_seq ?_;rcases Nat.lt_or_ge k b.size with hp|hp
  ·refine awp_region ?_;refine st_w (fun _=>by exact y_nextStr (.plain rfl) (by exact .here) hp) rfl ?_;refine sE ?_;refine aops_nil ?_;refine awp_seq ?_;refine awp_cond rfl (fun h1=> ?_) (fun h1=> ?_)
   ·simp only [nf] at h1;refine awp_skip ?_;refine awp_block ?_;refine asr ?_;refine sE ?_;refine sE ?_;refine sA ?_;refine sA ?_;refine aops_nil ?_;refine asr ?_;refine sM ?_;refine sM ?_;refine aops_call (blt_lt rfl) (.plain rfl) (.cons (.plain rfl) .nil) (ACalls.here (letter_c ((Utf8.decode b k).1:Int)) ?_);refine sO ?_;refine sM ?_;refine gM ?_;refine gQ0 ?_;refine gM0 ?_;refine gM ?_;refine gR0 ?_;refine gM0 ?_;refine gM ?_;refine gS0 ?_;refine gM0 ?_;refine gM ?_;refine gG0 ?_;refine st_g rfl rfl rfl SaysI.out (fun hc _=>by exact y_or' hc (.opt rfl hc) rfl rfl) rfl ?_;refine st_g rfl rfl rfl SaysI.out (fun hc _=>by exact y_and' hc (.opt rfl hc) rfl rfl) rfl ?_;refine st_g rfl rfl rfl SaysI.out (fun hc _=>by exact y_or' hc (.opt rfl hc) rfl rfl) rfl ?_;refine sJ ?_;refine aops_nil ?_;refine awp_cond rfl (fun h2=> ?_) (fun h2=> ?_)
    ·simp only [nf] at h2;have hok:Sv.okAt (bys b) k=false:=by
      rw [Pn.okAt_dec hp,Bool.eq_false_iff];simp only [ne_eq,Bool.or_eq_true,Bool.and_eq_true,decide_eq_true_eq];simp at h2;omega
     refine asr ?_;refine sA ?_;refine aops_nil ?_;refine awp_ret ?_;refine retG (.inr rfl) (.cons (.tmp rfl) .nil) (VShift.of1 (AV.Imp.refl _) (.nil _)) ⟨congrArg (fun x:(Bool)=>(AV.bool x)) (show _=(Sv.isName b) from ?_),rfl⟩;rw [Sv.isName_bad (by rw [hbl];exact hp) hok]
    ·simp only [nf] at h2;have hok:Sv.okAt (bys b) k=true:=by
      rw [Pn.okAt_dec hp];simp only [Bool.or_eq_true,Bool.and_eq_true,decide_eq_true_eq];simp at h2;omega
     have hw1:(Utf8.decode b k).2=1:=by
      rcases Pn.dec_cases b k hp with ⟨_,h9⟩|⟨h8,_⟩
      ·exact h9
      ·exfalso;simp at h2;omega
     refine awp_skip ?_;refine⟨k+1,⟨by omega,fun i hik=> ?_⟩,by omega,?_⟩
     ·by_cases e9:i=k
      ·subst e9;exact hok
      ·exact hinv i (by omega)
     ·rw [hw1];exact Weak.of2 (by (repeat (first|exact .nil _|refine .cons rfl (by exact AV.Imp.refl _) ?_));done) (by (repeat (exact .refl _));done)
   ·cases h1
  ·refine awp_region ?_;refine st_p (fun _=>by exact y_nextStrEnd (.plain rfl) (by exact .here) hp) rfl ?_;refine sE ?_;refine aops_nil ?_;refine awp_seq ?_;refine awp_cond rfl (fun h3=> ?_) (fun h3=> ?_)
   ·cases h3
   ·simp only [nf] at h3;refine awp_exit ?_;refine asr ?_;refine sM ?_;refine st_p (fun _=>by exact y_strLen (by rfl) (.plain rfl)) rfl ?_;refine st_p (fun _=>by exact y_geq (.plain rfl) (.plain rfl)) rfl ?_;refine sM ?_;refine gM ?_;refine st_g rfl rfl rfl SaysI.out (fun hc _=>by exact y_strLen (by rfl) (.opt rfl hc)) rfl ?_;refine gH0 ?_;refine sJ ?_;refine sA ?_;refine aops_nil ?_;refine awp_ret ?_;refine retG (.inr rfl) (.cons (.tmp rfl) .nil) (VShift.of1 (AV.Imp.refl _) (.nil _)) ⟨congrArg (fun x:(Bool)=>(AV.bool x)) (show _=(Sv.isName b) from ?_),rfl⟩;rw [Sv.isName_good (fun i hi=>hinv i (by omega)),Bool.eq_iff_iff];simp only [Bool.and_eq_true,decide_eq_true_eq];omega
end Go.Proofs
namespace Pn
def b2i (b:Bool):Int:=if b=true then 1 else 0
def iabs (n:Int):Int:=max n (-n)
def timesF (a b:Int):Int×Int:=if b≠0∧(1099511627776:Int).tdiv (iabs b)<iabs a then (0,14) else (a*b,0)
def opV (op a b:Int):Int×Int:=
  if op=3 then (a+b,0) else if op=4 then (a - b,0) else if op=5 then timesF a b
  else if op=6 then (if b=0 then (0,24) else (a.tdiv b,0)) else if op=7 then (if b=0 then (0,24) else (a.tmod b,0))
  else if op=8 then (b2i (decide (a=b)),0) else if op=9 then (b2i (!decide (a=b)),0)
  else if op=10 then (b2i (decide (a<b)),0) else if op=11 then (b2i (decide (a≤b)),0)
  else if op=12 then (b2i (decide (b<a)),0) else if op=13 then (b2i (decide (b≤a)),0)
  else if op=14 then (b2i (!decide (a=0) && !decide (b=0)),0) else (b2i (!decide (a=0)|| !decide (b=0)),0)
theorem tdiv_bd {a c:Int} (hc:0<c) (ha:0≤a) (h:a≤(1099511627776:Int).tdiv c):a*c≤1099511627776:=by
  rw [Int.tdiv_eq_ediv_of_nonneg (by decide)] at h;have h1:=Int.mul_le_mul_of_nonneg_right h (Int.le_of_lt hc);have h2:(1099511627776:Int) / c*c≤1099511627776:=Int.ediv_mul_le _ (by omega);omega
theorem times_bd {a b:Int} (h: ¬ (b≠0∧(1099511627776:Int).tdiv (iabs b)<iabs a)): -1099511627776≤a*b∧a*b≤1099511627776:=by
  rcases Classical.em (b=0) with e|e
  ·subst e;simp
  ·have h1:iabs a≤(1099511627776:Int).tdiv (iabs b):=by
    rcases Int.lt_or_le ((1099511627776:Int).tdiv (iabs b)) (iabs a) with h2|h2
    ·exact absurd ⟨e,h2⟩ h
    ·exact h2
   have h3:=tdiv_bd (c:=iabs b) (by unfold iabs;omega) (a:=iabs a) (by unfold iabs;omega) h1;have ea:iabs a=a∨iabs a= -a:=by unfold iabs;omega
   have eb:iabs b=b∨iabs b= -b:=by unfold iabs;omega
   have hnn:0≤iabs a*iabs b:=Int.mul_nonneg (by unfold iabs;omega) (by unfold iabs;omega);rcases ea with ea|ea<;>rcases eb with eb|eb<;>rw [ea,eb] at h3 hnn
   ·omega
   ·rw [Int.mul_neg] at h3 hnn;omega
   ·rw [Int.neg_mul] at h3 hnn;omega
   ·rw [Int.neg_mul_neg] at h3 hnn;omega
theorem ite_q {lo hi:Int} (c:Prop) [Decidable c] {x y:Int×Int} (hx:lo≤x.1∧x.1≤hi) (hy:lo≤y.1∧y.1≤hi):lo≤(if c then x else y).1∧(if c then x else y).1≤hi:=by
  split
  ·exact hx
  ·exact hy
theorem opV_bd {op a b:Int} (ha: -1099511627776≤a∧a≤1099511627776) (hb: -1099511627776≤b∧b≤1099511627776): -2199023255553≤(opV op a b).1∧(opV op a b).1≤2199023255553:=by
  have hb2: ∀ x,0≤b2i x∧b2i x≤1:=fun x=>by cases x<;>decide
  have t1: -1099511627776≤a.tdiv b∧a.tdiv b≤1099511627776:=by
   have:=Int.natAbs_tdiv_le_natAbs a b;omega
  have t2: -1099511627776≤a.tmod b∧a.tmod b≤1099511627776:=by
   have h1:=Int.natAbs_tmod a b;have h2:=Nat.mod_le a.natAbs b.natAbs;omega
  have hb3: ∀ x,-2199023255553≤b2i x∧b2i x≤2199023255553:=fun x=>by have:=hb2 x;omega
  have t3: -2199023255553≤(timesF a b).1∧(timesF a b).1≤2199023255553:=by
   unfold timesF;split
   ·exact⟨by decide,by decide⟩
   ·rename_i h;have:=times_bd h;exact⟨by show _≤a*b;omega,by show a*b≤_;omega⟩
  have t4: -2199023255553≤a+b∧a+b≤2199023255553:=by omega
  have t5: -2199023255553≤a - b∧a - b≤2199023255553:=by omega
  have t6: -2199023255553≤a.tdiv b∧a.tdiv b≤2199023255553:=by omega
  have t7: -2199023255553≤a.tmod b∧a.tmod b≤2199023255553:=by omega
  have t8: -2199023255553≤(0:Int)∧(0:Int)≤2199023255553:=by omega
  unfold opV;refine ite_q _ t4 (ite_q _ t5 (ite_q _ t3 (ite_q _ (ite_q _ t8 t6) (ite_q _ (ite_q _ t8 t7) (ite_q _ (hb3 _) (ite_q _ (hb3 _) (ite_q _ (hb3 _) (ite_q _ (hb3 _) (ite_q _ (hb3 _) (ite_q _ (hb3 _) (ite_q _ (hb3 _) (hb3 _))))))))))))
end Pn
namespace Pn
def arity (e:Ex):Int:=([0,0,0,1,2]:List Int).getD e.kind.toNat default
def known (op:Int):Bool:=decide (3≤op) && decide (op≤15)
def rest1 (e:Ex):Bool:=
  if e.kind=1 then !decide (e.op=0)|| !decide (e.name.size=0)
  else if e.kind=2 then !decide (e.op=0)|| !decide (e.value=0)
  else !decide (e.name.size=0)|| !decide (e.value=0)
def chk1 (e:Ex):Int:=
  if e.kind<1∨4<e.kind then 8
  else if rest1 e=true∨(e.args.length:Int)≠arity e then 1
  else if e.kind=1∧(e.value<0∨1099511627776<e.value) then 2
  else if e.kind=2∧Sv.isName e.name=false then 5
  else if (e.kind=3∧e.op≠1∧e.op≠2)∨(e.kind=4∧known e.op=false) then 8 else 0
end Pn
namespace Pn
theorem nil_nil:((⟨#[]⟩:ByteArray).toList==(⟨#[]⟩:ByteArray).toList)=true:=by rw [beq_iff_eq]
end Pn
namespace Pn
mutual
def ptE:Ex→List Ex
  | .mk k o n v as0=> .mk k o n v as0::ptL as0
def ptL:List Ex→List Ex
  | []=>[]
  |e::l=>ptE e++ptL l
end
theorem ptE_eq (e:Ex):ptE e=e::ptL e.args:=by cases e;rw [ptE];rfl
theorem ptL_take: ∀ (l:List Ex) (k:Nat) (hk:k<l.length),ptL l=ptL (l.take k)++(ptE l[k]++ptL (l.drop (k+1)))∧ptL (l.take (k+1))=ptL (l.take k)++ptE l[k]
  |e::l,0,_=>by
   simp only [List.take_zero,List.getElem_cons_zero,List.drop_one,List.tail_cons,List.take_succ_cons];rw [ptL,ptL,ptL];simp [ptL]
  |e::l,k+1,hk=>by
   have hk':k<l.length:=by simpa using hk
   obtain⟨h1,h2⟩:=ptL_take l k hk';rw [ptL,List.take_succ_cons,List.take_succ_cons,ptL,ptL,List.getElem_cons_succ,List.drop_succ_cons];refine⟨by rw [h1];simp,by rw [h2];simp⟩
def At (L:List Ex) (o:Nat) (e:Ex):Prop:= ∃ R,L.drop o=ptE e++R
theorem At.head {L:List Ex} {o:Nat} {e:Ex} (h:At L o e): ∃ hk:o<L.length,L[o]=e:=by
  obtain⟨R,hR⟩:=h;rw [ptE_eq] at hR;have hlt:o<L.length:=by
   rcases Nat.lt_or_ge o L.length with h|h
   ·exact h
   ·rw [List.drop_eq_nil_of_le h] at hR;cases hR
  refine⟨hlt,?_⟩;rw [List.drop_eq_getElem_cons hlt,List.cons_append,List.cons.injEq] at hR;exact hR.1
theorem At.arg {L:List Ex} {o:Nat} {e:Ex} (h:At L o e) {k:Nat} (hk:k<e.args.length):At L (o+1+(ptL (e.args.take k)).length) e.args[k]:=by
  obtain⟨R,hR⟩:=h;rw [ptE_eq,(ptL_take e.args k hk).1] at hR;refine⟨ptL (e.args.drop (k+1))++R,?_⟩;rw [show o+1+(ptL (e.args.take k)).length=o+(1+(ptL (e.args.take k)).length) by omega,←List.drop_drop,hR];rw [←List.drop_drop];simp
theorem At.self (e:Ex):At (ptE e) 0 e:=⟨[],by simp⟩
def firstE:List Ex→Int
  | []=>0
  |x::r=>if chk1 x≠0 then chk1 x else firstE r
theorem firstE_t {L:List Ex} {k:Nat} (hk:k<L.length) (h:chk1 L[k]≠0):firstE (L.drop k)=chk1 L[k]:=by
  rw [List.drop_eq_getElem_cons hk,firstE,if_pos h]
theorem firstE_f {L:List Ex} {k:Nat} (hk:k<L.length) (h: ¬ chk1 L[k]≠0):firstE (L.drop k)=firstE (L.drop (k+1)):=by
  rw [List.drop_eq_getElem_cons hk,firstE,if_neg h]
def chkE (e:Ex):Int:=if 100<(msE e 1 0).2 then 4 else if 12<(msE e 1 0).1 then 22 else firstE (ptE e)
theorem msL_sm: ∀ (l:List Ex) (d m p:Int),0≤p→d≤100→(∀ x∈l,∀ q:Int,0≤q→(msE x (d+1) q).2≤100→(msE x (d+1) q).1≤100→Sm x)→(msL l d m p).2≤100→(msL l d m p).1≤100→(∀ x∈l,Sm x)∧(l.length:Int)≤100 - p
  | [],d,m,p,_,_,_,h,_=>by
   rw [msL] at h;exact⟨fun x hx=>(by cases hx),by simp;exact h⟩
  |e::l,d,m,p,hp,hd,ih,h,h2=>by
   rw [msL] at h h2;split at h
   ·exact absurd h (by simp;omega)
   ·rename_i hp2;rw [if_neg hp2] at h2;have hb:=msE_bd e (d+1) p (by omega) (by omega);obtain⟨a,b⟩:=msL_sm l d (max m (msE e (d+1) p).1) (msE e (d+1) p).2 (by omega) hd (fun x hx=>ih x (List.mem_cons_of_mem _ hx)) h h2;have hmono: ∀ (l:List Ex) (d m p:Int),m≤(msL l d m p).1:=by
     intro l;induction l with
     |nil=>intro d m p;rw [msL];exact Int.le_refl _
     |cons x l ih2=>
      intro d m p;rw [msL];split
      ·exact Int.le_refl _
      ·have:=ih2 d (max m (msE x (d+1) p).1) (msE x (d+1) p).2;omega
    have h3:=hmono l d (max m (msE e (d+1) p).1) (msE e (d+1) p).2;refine⟨fun x hx=> ?_,by rw [List.length_cons];push_cast;omega⟩;rcases List.mem_cons.1 hx with rfl|hx
    ·exact ih x (List.mem_cons_self ..) p hp (by omega) (by omega)
    ·exact a x hx
theorem msE_sm (e:Ex): ∀ d p:Int,0≤p→(msE e d p).2≤100→(msE e d p).1≤100→Sm e:=by
  induction e using Ex.ind with
  |h e ih=>
   intro d p hp h h2;rw [msE_eq] at h h2;split at h
   ·rename_i hc;rw [if_pos hc] at h2;simp only at h h2;omega
   ·rename_i hc;rw [if_neg hc] at h2;obtain⟨a,b⟩:=msL_sm e.args d d (p+1) (by omega) (by omega) (fun x hx q hq=>ih x hx (d+1) q hq) h h2;exact .mk e (by omega) a
end Pn
namespace Pn
def argT (op:Int):Int:=if op≤7 then 1 else if op≤9 then 0 else if op≤13 then 1 else 2
def resT (op:Int):Int:=if op≤7 then 1 else 2
end Pn
