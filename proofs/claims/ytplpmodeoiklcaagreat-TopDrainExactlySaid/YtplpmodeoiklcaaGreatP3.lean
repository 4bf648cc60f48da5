/- A part of the proof. No condition. -/
import Derived.Test.YtplpmodeoiklcaaGreatP2
set_option linter.unusedVariables false
set_option linter.unusedSimpArgs false
namespace Go.Aw
open Go.RowKit (Below)
section any
variable {P:Program} {n:Nat} {ops:Array Oper} {K:Nat} {A:List Item}
theorem inv_stepQ {ks:List Kd} {vals:Nat→AV} {sts:Nat→List Item} {σ0:Fr} {F:List Item} {g0 g:Ghost} {L:Array Bool} {a:Act} {w:World} (hks:ks.length=ops.toList.length) (hok:orderOk ops ks=true)
  (q:Nat) (hkq:ks[q]?=some .write) (hs: ∀ i,i<ops.toList.length→i≠q→StepOk P n ops K A ops.toList ks vals sts σ0 i) (h:InvL n ops K ks vals sts σ0 (A++F) g0 L g a w) {j:Nat} (hjq:j≠q) (hj:j∈Region.ready .any ops L)
  {Q:Exit→Act→World→Prop} {R:Act→World→Prop} (hR: ∀ g' a' w',InvL n ops K ks vals sts σ0 (A++F) g0 (L.setIfInBounds j true) g' a' w'→R a' w'):wpOp P ops Q j R a w:=by
  obtain⟨hedge,hdep,-⟩:=orderOk_spec (orderOk.p hok).1 hks;unfold Region.ready at hj;rw [List.mem_filter,List.mem_range] at hj;obtain⟨hjn,hj2⟩:=hj;simp only [Bool.and_eq_true,Bool.not_eq_true'] at hj2;obtain⟨hjL,hjafter⟩:=hj2;have hjL':L.getD j false=false:=by
   have:j<L.size:=by rw [h.size];exact hjn
   simp only [Array.getD_eq_getD_getElem?] at hjL ⊢;rw [Array.getElem?_eq_getElem this] at hjL ⊢;exact hjL
  have ho:ops[j]?=some ops[j]:=Array.getElem?_eq_getElem hjn;have hoL:ops.toList[j]?=some ops[j]:=by simp [ho]
  have hjl:j<ops.toList.length:=by simpa using hjn
  have hkj:ks[j]?=some ks[j]:=List.getElem?_eq_getElem (by omega);generalize hoj:ops[j]=o at*;generalize hkjj:ks[j]=k at*;have hafter: ∀ e∈o.after.toList,Region.binds .any e=true→L.getD e.on false=true:=by
   intro e he hb;simp only [ho,Option.map_some,Option.getD_some] at hjafter;rw [Array.all_eq_true_iff_forall_mem] at hjafter;have:=hjafter e (by simpa using he);simpa [hb] using this
  have hclosed':Closed ops.toList (fun i=>(L.setIfInBounds j true).getD i false=true):=by
   intro j' o' ho' hS e he hb;have hsz:j<L.size:=by rw [h.size];exact hjn
   simp only [getD_set hsz] at hS ⊢;by_cases hjj:j'=j
   ·subst hjj;rw [hoL] at ho';cases ho';have:=hafter e he hb;split
    ·rfl
    ·exact this
   ·rw [if_neg hjj] at hS;have:=h.closed j' o' ho' hS e he hb;split
    ·rfl
    ·exact this
  have hsz:j<L.size:=by rw [h.size];exact hjn
  have before_in: ∀ i,Dep ops.toList i j→i≠j→L.getD i false=true:=by
   intro i hd hne;have:=hd _ hclosed' (by rw [getD_set hsz];simp);rw [getD_set hsz,if_neg hne] at this;exact this
  have after_out: ∀ i,Dep ops.toList j i→L.getD i false=false:=by
   intro i hd;cases hc:L.getD i false with
   |false=>rfl
   |true=>
    have:=hd _ h.closed hc;rw [hjL'] at this;cases this
  have order: ∀ i x kx,ops.toList[i]?=some x→ks[i]?=some kx→i≠j→(i<j→clash ops x o kx k=true)→(j<i→clash ops o x k kx=true)→(L.getD i false=true↔i<j):=by
   intro i x kx hx hkx hne h1 h2;rcases Nat.lt_or_gt_of_ne hne with hlt|hgt
   ·exact⟨fun _=>hlt,fun _=>before_in i (hdep i j x o kx k hlt hx hoL hkx hkj (h1 hlt)) hne⟩
   ·refine⟨fun hc=> ?_,fun hc=>by omega⟩;rw [after_out i (hdep j i o x k kx hgt hoL hx hkj hkx (h2 hgt))] at hc;cases hc
  have hget: ∀ i,i<ops.size→ ∃ x kx,ops.toList[i]?=some x∧ks[i]?=some kx:=fun i hi=>⟨ops[i],ks[i]'(by simp at hks;omega),by simp [hi],List.getElem?_eq_getElem _⟩
  have hslots:Slots g (frOf ops.toList vals σ0 j) a (o.looksAt ops):=by
   intro t ht v hv;refine h.slots.slot t v ?_;rw [look_frS (j:=j) ops.size,show min ops.size j=j by omega]
   ·exact hv
   ·intro i hi hd;obtain⟨x,kx,hx,hkx⟩:=hget i hi;have hdx:x.dst=some t:=by simpa [hx] using hd
    by_cases hij:i=j
    ·subst hij;simp [hjL']
    ·refine order i x kx hx hkx hij (fun _=> ?_) (fun _=> ?_)
     ·simp [clash,hdx,ht]
     ·simp [clash,hdx,ht]
  have hsts_const: ∀ i,i<ops.size→ks[i]?≠some .write→ks[i]?≠some .new→sts (i+1)=sts i:=by
   intro i hi hne hne2;obtain⟨x,kx,hx,hkx⟩:=hget i hi;have hiq:i≠q:=fun e=>hne (by rw [e];exact hkq);have:=(hs i (by simpa using hi) hiq x kx hx hkx).2;cases kx with
   |free=>exact this.2
   |read=>exact this.2
   |write=>exact absurd hkx hne
   |peek=>exact this.2
   |new=>exact absurd hkx hne2
  have hsts_new: ∀ i,i<ops.size→ks[i]?=some .new→sts (i+1)=newI sts i++sts i:=by
   intro i hi hne;obtain⟨x,kx,hx,hkx⟩:=hget i hi;rw [hkx] at hne;cases hne;have hiq:i≠q:=fun e=>by rw [e,hkq] at hkx;cases hkx
   obtain⟨its,h1,_⟩:=(hs i (by simpa using hi) hiq x .new hx hkx).2;rw [newI_eq h1];exact h1
  have hst:k= .write→stS ks sts (fun i=>L.getD i false) ops.size=sts j:=by
   intro hk;subst hk;rw [stS_eq (j:=j) ops.size hsts_const hsts_new,show min ops.size j=j by omega];intro i hi hw';obtain⟨x,kx,hx,hkx⟩:=hget i hi;by_cases hij:i=j
   ·subst hij;simp [hjL']
   ·rcases hw' with hw'|hw'<;>rw [hkx] at hw'<;>cases hw'<;>refine order i x _ hx hkx hij (fun _=> ?_) (fun _=> ?_)<;>simp [clash]
  have hst_read:k= .read→ ∃ N,(stS ks sts (fun i=>L.getD i false) ops.size).Perm (sts j++N):=by
   intro hk;subst hk;have:=stS_read (j:=j) (L:=fun i=>L.getD i false) ops.size hsts_const hsts_new (fun i hi hw'=> ?_) (fun i hi hw' hij=> ?_)
   ·rwa [show min ops.size j=j by omega] at this
   ·obtain⟨x,kx,hx,hkx⟩:=hget i hi;by_cases hij:i=j
    ·subst hij;simp [hjL']
    ·rw [hkx] at hw';cases hw';exact order i x _ hx hkx hij (fun _=>by simp [clash]) (fun _=>by simp [clash])
   ·obtain⟨x,kx,hx,hkx⟩:=hget i hi;rw [hkx] at hw';cases hw';exact (order i x _ hx hkx (by omega) (fun _=>by simp [clash]) (fun _=>by omega)).2 hij
  have hstep:=hs j hjl hjq o k hoL hkj;have hidj:g.loc (K+j)=none:=h.ids j hjn hjL';have finish: ∀ (g':Ghost) (u:Value) (w':World),g.to (K+j) g'→(vals j).holds g' u→RelW g' (stS ks sts (fun i=>(L.setIfInBounds j true).getD i false) ops.size++(A++F)) w'→R (a.put o.dst u) w':=by
   intro g' u w' hto hv hw';refine hR g' _ w' ⟨by simp [h.size],hclosed',?_,hw',⟨h.ext.le.trans hto.le,fun i hi=>(hto.keep i (Nat.lt_of_lt_of_le hi h.ext.le.next) (by have:=h.old;omega)).trans (h.ext.keep i hi)⟩,?_,Nat.le_trans h.next hto.le.next,h.old⟩
   ·refine⟨?_,by cases o.dst<;>exact h.slots.defers,?_⟩
    ·have:=h.slots.size;cases hd:o.dst<;>simp [Act.put,this]
    ·intro t v hlook;by_cases hdt:o.dst=some t
     ·have:look (frS ops.toList vals σ0 (fun i=>(L.setIfInBounds j true).getD i false) ops.size) t=some (vals j):=by
       rw [look_frS (j:=j+1) ops.size,show min ops.size (j+1)=j+1 by omega]
       ·rw [frOf,look_putF,if_pos (by simp [hoL,hdt])]
       ·intro i hi hd;obtain⟨x,kx,hx,hkx⟩:=hget i hi;have hdx:x.dst=some t:=by simpa [hx] using hd
        rw [getD_set hsz];by_cases hij:i=j
        ·subst hij;simp
        ·rw [if_neg hij];rw [order i x kx hx hkx hij (fun _=>by simp [clash,hdx,hdt]) (fun _=>by simp [clash,hdx,hdt])];omega
      rw [this] at hlook;cases hlook;have hlt:=hstep.1 t hdt;exact⟨u,by simp [hdt,Act.put,h.slots.size,hlt],hv⟩
     ·have:look (frS ops.toList vals σ0 (fun i=>(L.setIfInBounds j true).getD i false) ops.size) t=look (frS ops.toList vals σ0 (fun i=>L.getD i false) ops.size) t:=by
       have hgen: ∀ m,look (frS ops.toList vals σ0 (fun i=>(L.setIfInBounds j true).getD i false) m) t=look (frS ops.toList vals σ0 (fun i=>L.getD i false) m) t:=by
        intro m;induction m with
        |zero=>rfl
        |succ m ih=>
         simp only [frS,getD_set hsz];by_cases hm:m=j
         ·subst hm;have hne: ¬ ((ops.toList[m]?).bind (·.dst)=some t):=by simp [hoL,hdt]
          simp only [hjL',if_true,look_putF,if_neg hne,Bool.false_eq_true,if_false];simpa only [getD_set hsz] using ih
         ·rw [if_neg hm];split
          ·rw [look_putF,look_putF];split
           ·rfl
           ·simpa only [getD_set hsz] using ih
          ·simpa only [getD_set hsz] using ih
       exact hgen _
      rw [this] at hlook;obtain⟨u',p,q⟩:=h.slots.slot t v hlook;refine⟨u',?_,v.mono hto.le q⟩;cases hd:o.dst with
      |none=>simpa [Act.put] using p
      |some d=>
       have:d≠t:=fun e=>hdt (by rw [hd,e]);simp [Act.put,Array.getElem?_setIfInBounds_ne this,p]
   ·intro i hi hLi;rw [getD_set hsz] at hLi;by_cases hij:i=j
    ·subst hij;simp at hLi
    ·rw [if_neg hij] at hLi;rw [hto.keep (K+i) (by have:=h.next;omega) (by omega)];exact h.ids i hi hLi
  have hst_same:k≠ .write→k≠ .new→stS ks sts (fun i=>(L.setIfInBounds j true).getD i false) ops.size=stS ks sts (fun i=>L.getD i false) ops.size:=by
   intro hk hk2;have: ∀ m,stS ks sts (fun i=>(L.setIfInBounds j true).getD i false) m=stS ks sts (fun i=>L.getD i false) m:=by
    intro m;induction m with
    |zero=>rfl
    |succ m ih=>
     simp only [stS,getD_set hsz] at ih ⊢;by_cases hm:m=j
     ·subst hm;have: ¬ (ks[m]?=some .write):=by rw [hkj];simpa using hk
      have h2: ¬ (ks[m]?=some .new):=by rw [hkj];simpa using hk2
      simp only [this,h2,and_false,if_false];exact ih
     ·rw [if_neg hm];split
      ·rfl
      ·split
       ·rw [ih]
       ·exact ih
   exact this _
  have hst_write:k= .write→stS ks sts (fun i=>(L.setIfInBounds j true).getD i false) ops.size=sts (j+1):=by
   intro hk;subst hk;rw [stS_eq (j:=j+1) ops.size hsts_const hsts_new,show min ops.size (j+1)=j+1 by omega];intro i hi hw';obtain⟨x,kx,hx,hkx⟩:=hget i hi;rw [getD_set hsz];by_cases hij:i=j
   ·subst hij;simp
   ·have:=order i x kx hx hkx hij (fun _=>by rcases hw' with hw'|hw'<;>rw [hkx] at hw'<;>cases hw'<;>simp [clash]) (fun _=>by rcases hw' with hw'|hw'<;>rw [hkx] at hw'<;>cases hw'<;>simp [clash]);rw [if_neg hij,this];omega
  unfold wpOp;rw [ho];simp only;have run: ∀ (st1 st2 F1:List Item),YieldsG P ops o (frOf ops.toList vals σ0 j) st1 (K+j) (vals j) st2→(stS ks sts (fun i=>L.getD i false) ops.size++(A++F)).Perm (st1++F1)→(stS ks sts (fun i=>(L.setIfInBounds j true).getD i false) ops.size++(A++F)).Perm (st2++F1)→
   if Region.wanted o (yielded ops a.tmps) then o.wp P a w R Q∨(o.asks P a w∧LetsOut Q) else R (a.put o.dst undef) w:=by
   intro st1 st2 F1 hy e1 e2;have:=hy F1 g a w (h.world.perm e1) hidj hslots;split
   ·rename_i hwn;rw [if_pos hwn] at this;refine .inl (this.wp fun u w' ⟨g',hto,hw',hv⟩=>finish g' u w' hto hv (hw'.perm e2.symm))
   ·rename_i hwn;rw [if_neg hwn] at this;obtain⟨e,hv⟩:=this;exact finish g undef w (Ghost.to.refl g _) hv (((h.world.perm e1)).perm (by rw [←e];exact e2.symm))
  have swap: ∀ X:List Item,(X++(A++F)).Perm (A++(X++F)):=fun X=>by
   rw [←List.append_assoc,←List.append_assoc];exact List.Perm.append_right F List.perm_append_comm
  cases k with
  |free=>exact run A A (stS ks sts (fun i=>L.getD i false) ops.size++F) hstep.2.1 (swap _) (by rw [hst_same (by simp) (by simp)];exact swap _)
  |read=>
   obtain⟨N,hN⟩:=hst_read rfl;have hp:(stS ks sts (fun i=>L.getD i false) ops.size++(A++F)).Perm (sts j++(N++(A++F))):=by rw [←List.append_assoc (sts j)];exact hN.append_right _
   exact run (sts j) (sts j) (N++(A++F)) hstep.2.1 hp (by rw [hst_same (by simp) (by simp)];exact hp)
  |write=>exact run (sts j) (sts (j+1)) (A++F) hstep.2 (by rw [hst rfl]) (by rw [hst_write rfl])
  |peek=>exact absurd (noPeek_at (orderOk.p hok).2 hkj) id
  |new=>
   obtain⟨its,h1,h2⟩:=hstep.2;refine run (stS ks sts (fun i=>L.getD i false) ops.size) (its++stS ks sts (fun i=>L.getD i false) ops.size) (A++F) (h2 _) (List.Perm.refl _) (List.Perm.append_right _ ?_);have:=stS_new (sts:=sts) (L:=fun i=>L.getD i false) (L':=fun i=>(L.setIfInBounds j true).getD i false) hkj hjL' (by simp [getD_set hsz]) (fun i hi=>by simp [getD_set hsz,hi]) (fun i hi hw'=>by
    have hin:i<ops.size:=by
     have:=(List.getElem?_eq_some_iff.1 hw').1;simp at hks;omega
    obtain⟨x,kx,hx,hkx⟩:=hget i hin;rw [hkx] at hw';cases hw';have:=order i x .write hx hkx (by omega) (fun _=>by omega) (fun _=>by simp [clash]);cases hc:L.getD i false with
    |false=>rfl
    |true=>have:=this.1 hc;omega) ops.size
   rw [if_pos hjn,newI_eq h1] at this;exact this
theorem ready_all {L:Array Bool} (hL:L.size=ops.size) (hedge: ∀ j o,ops.toList[j]?=some o→ ∀ e∈o.after.toList,Region.binds .any e=true→e.on<j) (hr:Region.ready .any ops L=[]): ∀ i,i<ops.size→L.getD i false=true:=by
  intro i;induction i using Nat.strongRecOn with
  |_ i ih=>
   intro hi;cases hc:L.getD i false with
   |true=>rfl
   |false=>
    exfalso;have hmem:i∈Region.ready .any ops L:=by
     unfold Region.ready;rw [List.mem_filter,List.mem_range];refine⟨hi,?_⟩;have hL2:L.getD i true=false:=by
      have hlt:i<L.size:=by rw [hL];exact hi
      simp only [Array.getD_eq_getD_getElem?] at hc ⊢;rw [Array.getElem?_eq_getElem hlt] at hc ⊢;exact hc
     simp only [hL2,Bool.not_false,Bool.true_and,Array.getElem?_eq_getElem hi,Option.map_some,Option.getD_some];rw [Array.all_eq_true_iff_forall_mem];intro e he;cases hb:Region.binds .any e with
     |false=>rfl
     |true=>
      have hlt:=hedge i ops[i] (by simp [hi]) e (by simpa using he) hb;simp [ih e.on hlt (by omega)]
    rw [hr] at hmem;cases hmem
theorem any_runL {ks:List Kd} {vals:Nat→AV} {sts:Nat→List Item} {σ0:Fr} {F:List Item} {g0:Ghost} (hks:ks.length=ops.toList.length) (hok:orderOk ops ks=true) {q:Nat} (hqs:q+1=ops.size) (hkq:ks[q]?=some .write)
  (hs: ∀ i,i<ops.toList.length→i≠q→StepOk P n ops K A ops.toList ks vals sts σ0 i) (hall: ∀ i,i<q→Dep ops.toList i q) {oq:Oper} (hoq:ops[q]?=some oq) {Q:Exit→Act→World→Prop}
  (hQ: ∀ g a w,g0.ext g→RelF n g (frOf ops.toList vals σ0 q) a→RelW g (sts q++(A++F)) w→if Region.wanted oq (yielded ops a.tmps) then oq.wp P a w (fun a' w'=>Q .normal a' w') Q∨(oq.asks P a w∧LetsOut Q) else Q .normal (a.put oq.dst undef) w):
  ∀ (fuel:Nat) (L:Array Bool) (g:Ghost) (a:Act) (w:World),InvL n ops K ks vals sts σ0 (A++F) g0 L g a w→L.getD q false=false→L.toList.countP (fun b=> !b)=fuel→wpAny P .any ops Q fuel L a w:=by
  obtain⟨hedge,_,_⟩:=orderOk_spec (orderOk.p hok).1 hks;intro fuel;induction fuel with
  |zero=>
   intro L g a w h hLq hf;exfalso;have hlt:q<L.size:=by rw [h.size];omega
   have:=List.countP_eq_zero.1 hf L[q] (by simp);simp only [Array.getD_eq_getD_getElem?,Array.getElem?_eq_getElem hlt,Option.getD_some] at hLq;simp [hLq] at this
  |succ fuel ih=>
   intro L g a w h hLq hf;refine⟨fun hr=> ?_,fun j hj=> ?_⟩
   ·have:=ready_all h.size hedge hr q (by omega);rw [hLq] at this;cases this
   have hj':=hj;unfold Region.ready at hj';rw [List.mem_filter,List.mem_range] at hj';obtain⟨hjn,hj2⟩:=hj';simp only [Bool.and_eq_true,Bool.not_eq_true'] at hj2;have hlt:j<L.size:=by rw [h.size];exact hjn
   have hjL:L[j]=false:=by
    have:=hj2.1;simpa [Array.getD_eq_getD_getElem?,Array.getElem?_eq_getElem hlt] using this
   have hcount:(L.setIfInBounds j true).toList.countP (fun b=> !b)=fuel:=by
    have hset:(L.setIfInBounds j true).toList=L.toList.set j true:=by simp
    rw [hset,List.countP_set (by simpa using hlt)];simp [hjL,hf]
   by_cases hjq:j=q
   ·subst hjq;have ho:ops[j]?=some oq:=hoq;have hafter: ∀ e∈oq.after.toList,Region.binds .any e=true→L.getD e.on false=true:=by
     intro e he hb;have hja:=hj2.2;simp only [ho,Option.map_some,Option.getD_some] at hja;rw [Array.all_eq_true_iff_forall_mem] at hja;have:=hja e (by simpa using he);simpa [hb] using this
    have hclosed':Closed ops.toList (fun i=>(L.setIfInBounds j true).getD i false=true):=by
     intro j' o' ho' hS e he hb;simp only [getD_set hlt] at hS ⊢;by_cases hjj:j'=j
     ·subst hjj;have ho2:ops.toList[j']?=some oq:=by simpa using ho
      rw [ho2] at ho';cases ho';have:=hafter e he hb;split
      ·rfl
      ·exact this
     ·rw [if_neg hjj] at hS;have:=h.closed j' o' ho' hS e he hb;split
      ·rfl
      ·exact this
    have hin: ∀ i,i<j→L.getD i false=true:=by
     intro i hi;have:=hall i hi _ hclosed' (by rw [getD_set hlt];simp);rw [getD_set hlt,if_neg (by omega)] at this;exact this
    have hiff: ∀ i,i<ops.size→(L.getD i false=true↔i<j):=fun i hi=>by
     rcases Nat.lt_or_ge i j with h1|h1
     ·exact⟨fun _=>h1,fun _=>hin i h1⟩
     ·obtain rfl:i=j:=by omega
      rw [hLq];simp
    have hfr:RelF n g (frOf ops.toList vals σ0 j) a:=by
     refine⟨h.slots.size,h.slots.defers,fun t v hv=>h.slots.slot t v ?_⟩;rw [look_frS (j:=j) ops.size (fun i hi _=>hiff i hi),show min ops.size j=j by omega];exact hv
    have hget: ∀ i,i<ops.size→ ∃ x kx,ops.toList[i]?=some x∧ks[i]?=some kx:=fun i hi=>⟨ops[i],ks[i]'(by simp at hks;omega),by simp [hi],List.getElem?_eq_getElem _⟩
    have hst:stS ks sts (fun i=>L.getD i false) ops.size=sts j:=by
     rw [stS_eq (j:=j) ops.size (fun i hi hne hne2=> ?_) (fun i hi hne=> ?_) (fun i hi _=>hiff i hi),show min ops.size j=j by omega]
     ·obtain⟨x,kx,hx,hkx⟩:=hget i hi;have hiq:i≠j:=fun e=>hne (by rw [e];exact hkq);have:=(hs i (by simpa using hi) hiq x kx hx hkx).2;cases kx with
      |free=>exact this.2
      |read=>exact this.2
      |write=>exact absurd hkx hne
      |peek=>exact this.2
      |new=>exact absurd hkx hne2
     ·obtain⟨x,kx,hx,hkx⟩:=hget i hi;rw [hkx] at hne;cases hne;have hiq:i≠j:=fun e=>by rw [e,hkq] at hkx;cases hkx
      obtain⟨its,h1,_⟩:=(hs i (by simpa using hi) hiq x .new hx hkx).2;rw [newI_eq h1];exact h1
    have hq:=hQ g a w h.ext hfr (by rw [←hst];exact h.world);have hzero:fuel=0:=by
     rw [←hcount];refine List.countP_eq_zero.2 fun b hb=> ?_;obtain⟨i,hi,rfl⟩:=List.getElem_of_mem hb;have hi':i<ops.size:=by simpa [h.size] using hi
     have h1:(L.setIfInBounds j true).getD i false=true:=by
      rw [getD_set hlt];split
      ·rfl
      ·exact hin i (by omega)
     simp only [Array.getD_eq_getD_getElem?] at h1;have h2:(L.setIfInBounds j true)[i]?=some ((L.setIfInBounds j true).toList[i]):=by rw [←Array.getElem?_toList,List.getElem?_eq_getElem hi]
     rw [h2,Option.getD_some] at h1;intro hc;rw [h1] at hc;exact absurd hc (by decide)
    have hend: ∀ a' w',Q .normal a' w'→wpAny P .any ops Q fuel (L.setIfInBounds j true) a' w':=by
     intro a' w' hq';rw [hzero];refine⟨?_,hq'⟩;unfold Region.ready;rw [List.filter_eq_nil_iff];intro i hi;rw [List.mem_range] at hi;have h1:(L.setIfInBounds j true).getD i false=true:=by
      rw [getD_set hlt];split
      ·rfl
      ·exact hin i (by omega)
     have hsz:i<(L.setIfInBounds j true).size:=by simp [h.size];exact hi
     simp only [Array.getD_eq_getD_getElem?,Array.getElem?_eq_getElem hsz,Option.getD_some] at h1 ⊢;simp [h1]
    unfold wpOp;rw [ho];simp only;split
    ·rename_i hwn;rw [if_pos hwn] at hq;rcases hq with hq|hq
     ·exact .inl (Oper.wp_mono hend hq)
     ·exact .inr hq
    ·rename_i hwn;rw [if_neg hwn] at hq;exact hend _ _ hq
   ·refine inv_stepQ hks hok q hkq hs h hjq hj fun g' a' w' h'=>ih _ g' a' w' h' ?_ hcount;rw [getD_set hlt,if_neg (fun e=>hjq e.symm)];exact hLq
def lastOk (l:List Oper):Bool:=(List.range (l.length - 1)).all fun i=>((bms l []).getD (l.length - 1) 0).testBit i
theorem awp_anyL {id:Nat} {l:List Oper} {o:Oper} {ks:List Kd} {σ:Fr} {st:List Item} {Q:Exit→Fr→List Item→Prop} (hm:P.follows .mixedOrders=true)
  (B:List Item) (ht:Takes st B A) (hd: ∀ K,Drv P n (l++[o]).toArray K A (fun σ' B'=>AOps P n (l++[o]).toArray [o] σ' (B'++A) (Q .normal)) 0 l ks σ B) (hok:orderOk (l++[o]).toArray (ks++[.write])=true) (hlast:lastOk (l++[o])=true):AWP P n (.region id (l++[o]).toArray true) σ st Q:=by
  intro F g a w hf hw0;have hw:RelW g (B++(A++F)) w:=by rw [←List.append_assoc];exact hw0.perm (ht.perm.append_right F)
  refine Code.wp_mono (Q:=fun e a' w'=>e= .normal∧ ∃ g' σ' st',g.ext g'∧RelF n g' σ' a'∧RelW g' (st'++F) w'∧Q .normal σ' st') (fun e a' w' ⟨he,g',σ',st',r⟩=>by subst he;exact⟨g',σ',st',r⟩) ?_;refine wp_region_any hm ?_;obtain⟨vals,sts,h0,hks,hs,hq⟩:=(Drv.steps (P:=P) (n:=n) (ops:=(l++[o]).toArray) (K:=g.next) (A:=A) (Q:=fun σ' B'=>AOps P n (l++[o]).toArray [o] σ' (B'++A) (Q .normal)) l [] ks [] (fun _=> .val undef) (fun _=>B) σ l ks rfl rfl rfl (fun i hi=>by simp at hi) (hd g.next))
  have hbump:g.ext {g with next:=g.next+(l++[o]).length}:=⟨⟨rfl,rfl,fun _ _ _ h=>h,fun _ _ h=>h,by simp⟩,fun _ _=>rfl⟩
  have hN:(l++[o]).toArray.toList=l++[o]:=by simp
  have hfrL: ∀ i,i≤l.length→frOf (l++[o]) vals σ i=frOf l vals σ i:=by
   intro i;induction i with
   |zero=>intro _;rfl
   |succ i ih=>
    intro hi;simp only [frOf,ih (by omega)];rw [List.getElem?_append_left (by omega)]
  have hs': ∀ i,i<(l++[o]).length→i≠l.length→StepOk P n (l++[o]).toArray g.next A (l++[o]) (ks++[.write]) vals sts σ i:=by
   intro i hi hne x k hx hk;have hi2:i<l.length:=by simp at hi;omega
   rw [List.getElem?_append_left hi2] at hx;rw [List.getElem?_append_left (by omega)] at hk;have:=hs i hi2 x k hx hk;rw [hfrL i (by omega)];exact this
  have hfr: ∀ m,frS (l++[o]) vals σ (fun i=>(Array.replicate (l++[o]).toArray.size false).getD i false) m=σ:=by
   intro m;induction m with
   |zero=>rfl
   |succ m ih=>
    simp only [frS];rw [if_neg,ih];simp only [Array.getD_eq_getD_getElem?,Array.getElem?_replicate];split<;>simp
  have hst: ∀ m,stS (ks++[.write]) sts (fun i=>(Array.replicate (l++[o]).toArray.size false).getD i false) m=sts 0:=by
   intro m;induction m with
   |zero=>rfl
   |succ m ih=>
    have hno:(Array.replicate (l++[o]).toArray.size false).getD m false=false:=by
     simp only [Array.getD_eq_getD_getElem?,Array.getElem?_replicate];split<;>simp
    simp only [stS];rw [if_neg (by rw [hno];simp),if_neg (by rw [hno];simp),ih]
  have hdepall: ∀ i,i<l.length→Dep (l++[o]).toArray.toList i l.length:=by
   intro i hi;rw [hN];unfold lastOk at hlast;rw [List.all_eq_true] at hlast;have:=hlast i (List.mem_range.2 (by simp;exact hi));simp only [List.length_append,List.length_singleton,Nat.add_sub_cancel] at this;exact bms_dep (l++[o]) (l++[o]) [] [] rfl rfl (fun j i hb=>by simp at hb) l.length i this
  have hks2:(ks++[Kd.write]).length=(l++[o]).length:=by simp [hks]
  refine any_runL (P:=P) (n:=n) (ops:=(l++[o]).toArray) (K:=g.next) (A:=A) (ks:=ks++[.write]) (vals:=vals) (sts:=sts) (σ0:=σ) (F:=F) (g0:=g) (q:=l.length) (oq:=o) (by rw [hN];exact hks2) hok (by simp) (by rw [←hks];simp) (by rw [hN];exact hs') hdepall (by simp) ?_ (l++[o]).toArray.size _ {g with next:=g.next+(l++[o]).length} a _ ?_ ?_ ?_
  ·intro g' a' w' hx hf' hw';rw [hN,hfrL _ (Nat.le_refl _)] at hf';have h1:=hq F g' a' w' hf' (by rw [List.append_assoc];exact hw');have h2:=wpList_ext hx h1;unfold wpList at h2;exact h2
  ·refine⟨by simp,?_,?_,?_,hbump,?_,by simp,Nat.le_refl _⟩
   ·intro j o ho hS;simp only [Array.getD_eq_getD_getElem?,Array.getElem?_replicate] at hS;split at hS<;>simp at hS
   ·rw [hN,hfr];exact⟨hf.size,hf.defers,(hf.mono hbump.le).slot⟩
   ·rw [hst,h0];exact (hw.drew).evolve (row:=none) hbump.le ⟨rfl,rfl,rfl,Nat.le_refl _,fun _ _ _=>rfl⟩ (fun b hb=>by cases hb) (fun b o v hv=> .inl ⟨hv,by simp⟩) (fun it _ b _=>⟨by simp,fun _=>rfl⟩) (fun i hi=>hw.fresh i (by simp at hi;omega))
   ·intro i hi _;exact hw.fresh _ (Nat.le_add_right _ _)
  ·simp [Array.getD_eq_getD_getElem?,Array.getElem?_replicate]
  ·simp [List.countP_replicate]
theorem awp_anyLk {id:Nat} {l:List Oper} {ks:List Kd} {σ:Fr} {st:List Item} {Q:Exit→Fr→List Item→Prop} (B:List Item) (ht:Takes st B A) (k:Nat) {o:Oper} (hlen:l.length=k+1) (ho:l[k]?=some o) (hm:P.follows .mixedOrders=true)
  (hok:orderOk l.toArray (ks++[.write])=true) (hlast:lastOk l=true)
  (hd: ∀ K,Drv P n l.toArray K A (fun σ' B'=>AOps P n l.toArray [o] σ' (B'++A) (Q .normal)) 0 (l.take k) ks σ B):AWP P n (.region id l.toArray true) σ st Q:=by
  have e:l.take k++[o]=l:=by
   have h1:l.take (k+1)=l.take k++[o]:=by rw [List.take_add_one,ho];rfl
   rw [←h1,List.take_of_length_le (by omega)]
  have h:=awp_anyL (n:=n) (id:=id) (l:=l.take k) (o:=o) (ks:=ks) (σ:=σ) (Q:=Q) hm B ht;rw [e] at h;exact h hd hok hlast
end any
end Go.Aw
set_option maxRecDepth 10000
namespace Go.Proofs
open Go.Aw Wl Pn
theorem send_c (r o:Nat) (y:Pn.Sg) (rn:Pn.Rn) (st0:List Aw.Item) (hst:RS r o y rn st0) (q:Int) (hq:(rn.err=0→0≤q∧q.toNat<rn.out.length)∧rn.out.length≤2∧ ∀ l∈rn.out,l.length≤100000) (v:Int):ACalls Tryz.prog 90 [.ptr r 0,.int q,.int v] st0 (fun v9 st=>v9= .tup []∧RS r o y (Pn.rsend rn q.toNat v) st):=by
  refine acalls_body Tryz.func90 (by kernel_rfl) rfl Tryz.ntmps90 (le_ rfl) ?_;rw [Tryz.results90];obtain⟨os,rfl,hos⟩:=hst;obtain⟨hn,h2,hl⟩:=hq;rw [hos,List.length_map] at hn h2;unfold RNI ROI encRn;refine asr ?_;refine sM ?_;refine sZ ?_;refine sF ?_;refine sL .here ?_;refine sQ ?_;refine aops_nil ?_;refine awp_cond rfl (fun h1=> ?_) (fun h1=> ?_)
  ·simp only [nf] at h1;have hq9:=hn (by assumption);obtain⟨n,rfl⟩:=Int.eq_ofNat_of_zero_le hq9.1;rcases Pn.os_cases os n hq9.2 h2 with ⟨⟨t1,l1⟩,rfl,rfl⟩|⟨⟨t1,l1⟩,⟨t2,l2⟩,rfl,rfl⟩|⟨⟨t2,l2⟩,⟨t1,l1⟩,rfl,rfl⟩
   all_goals have hl1:=hl l1 (by rw [hos];simp)
   all_goals dsimp only [List.map,List.length]
   ·refine awp_anyT (ks:=[.free,.free,.free,.free,.free,.free,.free,.free,.free,.free,.free,.read,.free,.free,.write,.free,.write]) [.tail t1,.cells o _] (by apply Takes.cons (by exact k2);apply Takes.cons (by exact k1);exact .nil _) (by kernel_rfl) (fun K=> ?_) ?_
    ·refine rM ?_;refine rZ ?_;refine rF ?_;refine rL .here ?_;refine rM ?_;refine rM ?_;refine rZ ?_;refine rF ?_;refine rL .here ?_;refine rM ?_;refine dr_p (fun _=>by exact y_indexArr (.plain rfl) (.plain rfl) rfl (by omega)) rfl ?_;refine dr_r (fun _=>by exact y_load (.plain rfl) (by exact k1) rfl) rfl ?_;refine rM ?_;refine dr_p (fun _=>by exact y_buildSlice (.cons (.plain rfl) inferInstance (by rfl) .nil) rfl (le_ rfl)) rfl ?_;refine dr_append (by rfl) (.plain rfl) (.plain rfl) (by (simp;try omega)) rfl fun tN=> ?_;refine dr_p (fun _=>by exact y_indexArr (.plain rfl) (.plain rfl) rfl (by omega)) rfl ?_;refine dr_s (fun _=>by exact y_storeW (by rfl) rfl (.plain rfl) (.plain rfl) (by exact u1) (by rfl)) ?_;refine dr_nil ?_;refine retG (.inl rfl) .nil (VShift.of2 (st':=RNI r o y (Pn.rsend rn 0 v) [(tN,l1++[v])]) (AV.Imp.refl _) (by rw [Pn.rsend_t (by assumption)];simp only [RNI,ROI,encRn,List.map,List.length];(repeat (first|exact .refl _|apply ItLe2.cons (by exact k2)|apply ItLe2.cells (by exact k1) (by repeat (first|exact .nil|refine .cons (by exact AV.Imp.grow_of rfl) ?_))));done)) ⟨rfl,_,rfl,by rw [Pn.rsend_t (by assumption),hos];rfl⟩
    ·kernel_rfl
   ·refine awp_anyT (ks:=[.free,.free,.free,.free,.free,.free,.free,.free,.free,.free,.free,.read,.free,.free,.write,.free,.write]) [.tail t1,.cells o _] (by apply Takes.cons (by exact k2);apply Takes.cons (by exact k1);exact .nil _) (by kernel_rfl) (fun K=> ?_) ?_
    ·refine rM ?_;refine rZ ?_;refine rF ?_;refine rL .here ?_;refine rM ?_;refine rM ?_;refine rZ ?_;refine rF ?_;refine rL .here ?_;refine rM ?_;refine dr_p (fun _=>by exact y_indexArr (.plain rfl) (.plain rfl) rfl (by omega)) rfl ?_;refine dr_r (fun _=>by exact y_load (.plain rfl) (by exact k1) rfl) rfl ?_;refine rM ?_;refine dr_p (fun _=>by exact y_buildSlice (.cons (.plain rfl) inferInstance (by rfl) .nil) rfl (le_ rfl)) rfl ?_;refine dr_append (by rfl) (.plain rfl) (.plain rfl) (by (simp;try omega)) rfl fun tN=> ?_;refine dr_p (fun _=>by exact y_indexArr (.plain rfl) (.plain rfl) rfl (by omega)) rfl ?_;refine dr_s (fun _=>by exact y_store (by rfl) rfl (.plain rfl) (.plain rfl) (by exact u1) (le_ rfl)) ?_;refine dr_nil ?_;refine retG (.inl rfl) .nil (VShift.of2 (st':=RNI r o y (Pn.rsend rn 0 v) [(tN,l1++[v]),(t2,l2)]) (AV.Imp.refl _) (by rw [Pn.rsend_t (by assumption)];simp only [RNI,ROI,encRn,List.map,List.length];(repeat (first|exact .refl _|apply ItLe2.cons (by exact k2)|apply ItLe2.cells (by exact k1) (by repeat (first|exact .nil|refine .cons (by first|exact AV.Imp.refl _|exact AV.Imp.grow_of rfl) ?_))));done)) ⟨rfl,_,rfl,by rw [Pn.rsend_t (by assumption),hos];rfl⟩
    ·kernel_rfl
   ·refine awp_anyT (ks:=[.free,.free,.free,.free,.free,.free,.free,.free,.free,.free,.free,.read,.free,.free,.write,.free,.write]) [.tail t1,.cells o _] (by apply Takes.cons (by exact k3);apply Takes.cons (by exact k1);exact .nil _) (by kernel_rfl) (fun K=> ?_) ?_
    ·refine rM ?_;refine rZ ?_;refine rF ?_;refine rL .here ?_;refine rM ?_;refine rM ?_;refine rZ ?_;refine rF ?_;refine rL .here ?_;refine rM ?_;refine dr_p (fun _=>by exact y_indexArr (.plain rfl) (.plain rfl) rfl (by omega)) rfl ?_;refine dr_r (fun _=>by exact y_load (.plain rfl) (by exact k1) rfl) rfl ?_;refine rM ?_;refine dr_p (fun _=>by exact y_buildSlice (.cons (.plain rfl) inferInstance (by rfl) .nil) rfl (le_ rfl)) rfl ?_;refine dr_append (by rfl) (.plain rfl) (.plain rfl) (by (simp;try omega)) rfl fun tN=> ?_;refine dr_p (fun _=>by exact y_indexArr (.plain rfl) (.plain rfl) rfl (by omega)) rfl ?_;refine dr_s (fun _=>by exact y_store (by rfl) rfl (.plain rfl) (.plain rfl) (by exact u1) (le_ rfl)) ?_;refine dr_nil ?_;refine retG (.inl rfl) .nil (VShift.of2 (st':=RNI r o y (Pn.rsend rn 1 v) [(t2,l2),(tN,l1++[v])]) (AV.Imp.refl _) (by rw [Pn.rsend_t (by assumption)];simp only [RNI,ROI,encRn,List.map,List.length];(repeat (first|exact .refl _|apply ItLe2.cons (by first|exact k1|exact k2)|apply ItLe2.cells (by exact k1) (by repeat (first|exact .nil|refine .cons (by first|exact AV.Imp.refl _|exact AV.Imp.grow_of rfl) ?_))));done)) ⟨rfl,_,rfl,by rw [Pn.rsend_t (by assumption),hos];rfl⟩
    ·kernel_rfl
  ·simp only [nf] at h1;refine awp_skip ?_;refine retG (.inl rfl) .nil VShift.refl ⟨rfl,os,by rw [Pn.rsend_f (by assumption)];rfl,by rw [Pn.rsend_f (by assumption)];exact hos⟩
theorem eval3_c (r o:Nat) (y:Pn.Sg) (rn:Pn.Rn) (os:List (Option Nat×List Int)) (hk:1≤y.kind∧y.kind≤10) (a b:Int):ACalls Tryz.prog 91 [.ptr r 0,.int a,.int b] (RNI r o y rn os) (fun v9 st=>v9= .int (Pn.reval y rn a b).2∧st=RNI r o y (Pn.reval y rn a b).1 os):=by
  refine acalls_body Tryz.func91 (by kernel_rfl) rfl Tryz.ntmps91 (le_ rfl) ?_;rw [Tryz.results91];unfold RNI ROI encRn;refine asr ?_;refine sA ?_;refine aops_nil ?_;refine asr ?_;refine sM ?_;refine sZ ?_;refine sF ?_;refine sF ?_;refine sL .here ?_;refine aops_call (blt_lt rfl) (.plain rfl) (.cons (.plain rfl) .nil) (ACalls.here (known_c y.kind hk) ?_);refine sM ?_;refine sE ?_;refine sE ?_;refine sC fun n7=> ?_;refine st_s (fun _=>by exact y_storeW (by rfl) rfl (.plain rfl) (.plain rfl) (by exact .here) (by rfl)) ?_;refine sA ?_;refine aops_nil ?_;refine awp_seq ?_;refine awp_any0 (ks:=[.free,.free,.free,.free,.free,.free,.free,.free,.free,.free,.free,.free,.free,.free,.free,.free,.free]) (by kernel_rfl) (fun K=> ?_) ?_
  ·refine rM ?_;refine rZ ?_;refine rF ?_;refine rF ?_;refine dr_p (fun _=>by exact y_loadAggN (cs':=[_,_,_,_,_]) (.plain rfl) (by exact k1) (le_ rfl) (by rfl)) rfl ?_;refine rF ?_;refine rL .here ?_;refine rM ?_;refine rM ?_;refine dr_p (fun _=>by exact y_buildSlice (.cons (.plain rfl) inferInstance (by rfl) (.cons (.plain rfl) inferInstance (by rfl) .nil)) rfl (le_ rfl)) rfl ?_;refine dr_p (fun _=>by exact y_call (.plain rfl) (.cons (.imp (.plain rfl) (Sl.imp (enc:=encStV))) (.cons (.imp (.plain rfl) (Sl.imp (enc:=Go.Aw.encI))) .nil)) (ACalls.pure (bind_c (Pn.hnames y.kind) [a,b] (by simpa using Pn.hnames_len y.kind) (by have:=Pn.hnames_len y.kind;omega)))) rfl ?_;refine dr_p (fun _=>by exact y_call (.plain rfl) (.cons (.imp (.plain rfl) (AV.Imp.agg (RowOf.imp (enc:=encE)))) (.cons (.imp (.plain rfl) (Sl.imp (enc:=encBd))) .nil)) (ACalls.pure (eval_c y.expr _ (by have:=Pn.hnames_len y.kind;unfold Pn.bindM;rw [List.length_zipWith];simp;omega)))) rfl ?_;refine rM ?_;refine rE ?_;refine rE ?_;refine rA ?_;refine rA ?_;refine dr_nil ⟨rfl,?_⟩;refine awp_seq ?_;refine asr ?_;refine sM ?_;refine sZ ?_;refine sF ?_;refine sL k1 ?_;refine sQ ?_;refine aops_nil ?_;refine awp_cond rfl (fun h1=> ?_) (fun h1=> ?_)
   ·simp only [nf] at h1;refine awp_region ?_;refine sM ?_;refine sM ?_;refine sZ ?_;refine sF ?_;refine st_storeN (cs':=[_,_,_,_,_,_,_,_,_,_,_,_,_,_]) (by rfl) rfl (.plain rfl) (.plain rfl) (by exact u1) (le_ rfl) (by rfl) ?_;refine aops_nil ?_;refine asr ?_;refine sM ?_;refine sA ?_;refine aops_nil ?_;refine awp_ret ?_;have h9:rn.err=0:=by assumption
    exact retG (.inr rfl) (.cons (.tmp rfl) .nil) (VShift.of2 (st':=RNI r o y (Pn.reval y rn a b).1 os) (AV.Imp.refl _) (by simp only [Pn.reval,if_pos h9,RNI,ROI,encRn];(repeat (first|apply ItLe2.cons (by exact k1)|exact .sub (List.sublist_cons_self _ _)));done)) ⟨rfl,rfl⟩
   ·simp only [nf] at h1;refine awp_skip ?_;refine asr ?_;refine sM ?_;refine sA ?_;refine aops_nil ?_;refine awp_ret ?_;have h9: ¬ rn.err=0:=by assumption
    exact retG (.inr rfl) (.cons (.tmp rfl) .nil) (VShift.of2 (st':=RNI r o y (Pn.reval y rn a b).1 os) (AV.Imp.refl _) (by simp only [Pn.reval,if_neg h9,RNI,ROI,encRn];(repeat (first|apply ItLe2.cons (by exact k1)|exact .sub (List.sublist_cons_self _ _)));done)) ⟨rfl,rfl⟩
  ·kernel_rfl
theorem eval2_c (r o:Nat) (y:Pn.Sg) (rn:Pn.Rn) (st0:List Aw.Item) (hst:RS r o y rn st0) (hk:1≤y.kind∧y.kind≤10) (a b:Int):ACalls Tryz.prog 91 [.ptr r 0,.int a,.int b] st0 (fun v9 st=>v9= .int (Pn.reval y rn a b).2∧RS r o y (Pn.reval y rn a b).1 st):=by
  obtain⟨os,rfl,hos⟩:=hst;exact (eval3_c r o y rn os hk a b).mono fun v9 st ⟨h1,h2⟩=>⟨h1,os,h2,hos⟩
theorem source_c (r o:Nat) (y:Pn.Sg) (rn:Pn.Rn) (st0:List Aw.Item) (hst:RS r o y rn st0) (hr:Pn.Rok y rn) (hc:0≤rn.s.count∧rn.s.count<y.items.length) (i v:Int):ACalls Tryz.prog 123 [.ptr r 0,.int i,.int v] st0 (fun v9 st=>v9= .tup []∧RS r o y (Pn.rcount (Pn.rsend rn 0 (y.items.getD rn.s.count.toNat default)) (rn.s.count+1)) st):=by
  refine acalls_body Tryz.func123 (by kernel_rfl) rfl Tryz.ntmps123 (le_ rfl) ?_;rw [Tryz.results123];obtain⟨os,rfl,hos⟩:=hst;unfold RNI ROI encRn;have hi:=hr.sg.len;refine awp_seq ?_;refine awp_anyLk (ks:=[.free,.free,.free,.free,.free,.free,.free,.free,.free,.free,.free,.free,.free]) [] (.nil _) 13 rfl rfl (by kernel_rfl) (by kernel_rfl) (by kernel_rfl) (fun K=> ?_);dsimp only [List.take]
  ·refine rM ?_;refine rM ?_;refine rZ ?_;refine rF ?_;refine rF ?_;refine rL .here ?_;refine rM ?_;refine rZ ?_;refine rF ?_;refine rF ?_;refine rL .here ?_;refine dr_p (fun _=>by exact y_indexT (l:=y.items) (.plain rfl) (.plain rfl) (by omega) (by omega)) rfl ?_;refine rU ?_;refine dr_nil ?_;refine aops_call (blt_lt rfl) (.plain rfl) (.cons (.plain rfl) (.cons (.plain rfl) (.cons (.plain rfl) .nil))) ((send_c r o y rn _ ⟨_,rfl,hos⟩ 0 hr.send (y.items.getD rn.s.count.toNat default)).mono ?_);rintro v9 st ⟨rfl,os1,rfl,hos1⟩;unfold RNI encRn;rw [Pn.rsend_s1,Pn.rsend_e1];refine aops_nil ?_;refine awp_region ?_;refine sM ?_;refine sZ ?_;refine sF ?_;refine sF ?_;refine sL .here ?_;refine sY ?_ (hb:=by omega);refine sZ ?_;refine sF ?_;refine sF ?_;refine st_storeN (cs':=[_,_,_,_,_,_,_,_,_,_,_,_,_,_]) (by rfl) rfl (.plain rfl) (.plain rfl) (by exact .here) (le_ rfl) (by rfl) ?_;refine aops_nil ?_;exact retG (.inl rfl) .nil (VShift.of2 (st':=RNI r o y (Pn.rcount (Pn.rsend rn 0 (y.items.getD rn.s.count.toNat default)) (rn.s.count+1)) os1) (AV.Imp.refl _) (by simp only [RNI,ROI,encRn,Pn.rsend_s1,Pn.rsend_e1,Pn.rcount];(repeat (exact .refl _));done)) ⟨rfl,_,rfl,hos1⟩
theorem sum_c (r o:Nat) (y:Pn.Sg) (rn:Pn.Rn) (st0:List Aw.Item) (hst:RS r o y rn st0) (hr:Pn.Rok y rn) (hh: ∀ n∈rn.s.held,Pn.num n=true) (hhl:rn.s.held.length≤1000):ACalls Tryz.prog 128 [.ptr r 0] st0 (fun v9 st=>v9= .tup []∧RS r o y (Pn.rsum rn) st):=by
  refine acalls_body Tryz.func128 (by kernel_rfl) rfl Tryz.ntmps128 (le_ rfl) ?_;rw [Tryz.results128];obtain⟨os,rfl,hos⟩:=hst;unfold RNI ROI encRn;refine asr ?_;refine sA ?_;refine aops_nil ?_;refine awp_seq ?_;refine asr ?_;refine sM ?_;refine sZ ?_;refine sF ?_;refine sF ?_;refine sL .here ?_;refine sN ?_;refine sM ?_;refine aops_nil ?_;refine awp_block ?_;refine awp_loop2 (X:=Nat) [0,9,10] (.cons rfl (.cons rfl (.cons rfl .nil))) (fun σ x=>((2,.int (Pn.sumK rn.s.held rn.err x).1):Nat×AV)::((11,.int (x:Int)):Nat×AV)::σ) (fun R x=> .cells r (encRn y rn.s o os.length (Pn.sumK rn.s.held rn.err x).2)::R) (fun x=>x≤rn.s.held.length) (fun x=>rn.s.held.length - x) 0 (by exact Weak.of2 (by (repeat (first|exact .nil _|refine .cons rfl (by exact AV.Imp.refl _) ?_));done) (by (repeat (exact .refl _));done)) (Nat.zero_le _) ?_;rintro k hk;have hbd:=Pn.sumK_bd rn.s.held rn.err hh k hk;unfold encRn;refine asr ?_;refine sS ?_;refine aops_nil ?_;refine awp_seq ?_;refine awp_cond rfl (fun h1=> ?_) (fun h1=> ?_)
  ·simp only [nf] at h1;have hkl:k<rn.s.held.length:=by omega
   have hgk:rn.s.held.getD k default=rn.s.held[k]:=by rw [List.getD,List.getElem?_eq_getElem hkl,Option.getD_some]
   have hnk:=Pn.num_t.1 (hh _ (List.getElem_mem hkl));refine awp_skip ?_;refine awp_seq ?_;refine awp_block ?_;refine asr ?_;refine st_p (fun _=>by exact y_indexMap (.plain rfl) (.plain rfl) rfl (by refine⟨?_,?_⟩;(omega);rfl)) rfl ?_;refine sU ?_;refine sA ?_;refine aops_nil ?_;refine asr ?_;refine sM ?_;refine sM ?_;refine sY ?_ (hb:=by omega);refine sA ?_;refine aops_nil ?_;refine asr ?_;refine sM ?_;refine aops_call (blt_lt rfl) (.plain rfl) (.cons (.plain rfl) .nil) (ACalls.here (num_c _) ?_);refine sO ?_;refine sM ?_;refine gM ?_;refine gZ0 ?_;refine gF0 ?_;refine gL0 .here ?_;refine gQ0 ?_;refine sJ ?_;refine aops_nil ?_;refine awp_cond rfl (fun h2=> ?_) (fun h2=> ?_)
   ·simp only [nf] at h2;refine awp_region ?_;refine sM ?_;refine sZ ?_;refine sF ?_;refine st_storeN (cs':=[_,_,_,_,_,_,_,_,_,_,_,_,_,_]) (by rfl) rfl (.plain rfl) (.plain rfl) (by exact .here) (le_ rfl) (by rfl) ?_;refine aops_nil ?_;refine awp_region ?_;refine sY ?_ (hb:=by omega);refine sM ?_;refine aops_nil ?_;refine⟨k+1,by omega,by omega,?_⟩;have hs9:=Pn.sumK_t (l:=rn.s.held) (e:=rn.err) (k:=k) (by rw [hgk];simp_all);have hs8:=Pn.sumK_1 rn.s.held rn.err k;rw [hgk] at hs8;exact Weak.of2 (by (repeat (first|exact .nil _|refine .cons rfl (by first|exact AV.Imp.refl _|rw [hs8];exact AV.Imp.refl _|exact Sl.imp|exact AV.Imp.agg RowOf.imp|exact AV.Imp.grow_sl|exact AV.Imp.nil_grow|exact AV.Imp.full_grow|exact AV.Imp.own_grow|exact AV.Imp.grow_of rfl|exact AV.Imp.sl_of rfl|exact AV.Imp.int_of (by omega)|exact AV.Imp.of_eq (by first|omega|simpa)) ?_));done) (by (repeat (first|exact .refl _|apply ItLe2.cells (by exact .here) (by repeat (first|exact .nil|refine .cons (by first|exact AV.Imp.refl _|rw [hs9];exact AV.Imp.refl _|exact Sl.imp|exact AV.Imp.agg RowOf.imp|exact AV.Imp.grow_sl|exact AV.Imp.nil_grow|exact AV.Imp.full_grow|exact AV.Imp.own_grow|exact AV.Imp.grow_of rfl|exact AV.Imp.sl_of rfl|exact AV.Imp.int_of (by omega)|exact AV.Imp.of_eq (by first|omega|simpa)) ?_))));done)
   ·simp only [nf] at h2;refine awp_skip ?_;refine awp_region ?_;refine sY ?_ (hb:=by omega);refine sM ?_;refine aops_nil ?_;refine⟨k+1,by omega,by omega,?_⟩;have hs9:=Pn.sumK_f (l:=rn.s.held) (e:=rn.err) (k:=k) (by rw [hgk];rintro⟨a9,b9⟩;simp_all);have hs8:=Pn.sumK_1 rn.s.held rn.err k;rw [hgk] at hs8;exact Weak.of2 (by (repeat (first|exact .nil _|refine .cons rfl (by first|exact AV.Imp.refl _|rw [hs8];exact AV.Imp.refl _|exact Sl.imp|exact AV.Imp.agg RowOf.imp|exact AV.Imp.grow_sl|exact AV.Imp.nil_grow|exact AV.Imp.full_grow|exact AV.Imp.own_grow|exact AV.Imp.grow_of rfl|exact AV.Imp.sl_of rfl|exact AV.Imp.int_of (by omega)|exact AV.Imp.of_eq (by first|omega|simpa)) ?_));done) (by (repeat (first|exact .refl _|apply ItLe2.cells (by exact .here) (by repeat (first|exact .nil|refine .cons (by first|exact AV.Imp.refl _|rw [hs9];exact AV.Imp.refl _|exact Sl.imp|exact AV.Imp.agg RowOf.imp|exact AV.Imp.grow_sl|exact AV.Imp.nil_grow|exact AV.Imp.full_grow|exact AV.Imp.own_grow|exact AV.Imp.grow_of rfl|exact AV.Imp.sl_of rfl|exact AV.Imp.int_of (by omega)|exact AV.Imp.of_eq (by first|omega|simpa)) ?_))));done)
  ·simp only [nf] at h1;obtain rfl:k=rn.s.held.length:=by omega
   refine awp_exit ?_;refine asr ?_;refine sM ?_;refine sM ?_;refine aops_call (blt_lt rfl) (.plain rfl) (.cons (.plain rfl) (.cons (.plain rfl) (.cons (.plain rfl) .nil))) ((send_c r o y ({rn with err:=(Pn.sumK rn.s.held rn.err rn.s.held.length).2}:Pn.Rn) _ ⟨_,rfl,hos⟩ 0 (Pn.Rok.of (rn':=({rn with err:=(Pn.sumK rn.s.held rn.err rn.s.held.length).2}:Pn.Rn)) hr rfl).send (Pn.sumK rn.s.held rn.err rn.s.held.length).1).mono ?_);rintro v9 st ⟨rfl,os1,rfl,hos1⟩;unfold RNI encRn;rw [Pn.rsend_s1,Pn.rsend_e1];refine aops_nil ?_;refine awp_region ?_;refine sM ?_;refine sZ ?_;refine sF ?_;refine sF ?_;refine st_storeN (cs':=[_,_,_,_,_,_,_,_,_,_,_,_,_,_]) (by rfl) rfl (.plain rfl) (.plain rfl) (by exact .here) (le_ rfl) (by rfl) ?_;refine aops_nil ?_;exact retG (.inl rfl) .nil (VShift.of2 (st':=RNI r o y (Pn.rsum rn) os1) (AV.Imp.refl _) (by simp only [RNI,ROI,encRn,Pn.rsend_s1,Pn.rsend_e1,Pn.rsum];(repeat (first|exact .refl _|apply ItLe2.cells (by exact .here) (by repeat (first|exact .nil|refine .cons (by first|exact AV.Imp.refl _|exact Sl.imp) ?_))));done)) ⟨rfl,_,rfl,hos1⟩
end Go.Proofs
set_option maxRecDepth 10000
namespace Go.Proofs
open Go.Aw Wl Pn
theorem h1_c (r o:Nat) (y:Pn.Sg) (rn:Pn.Rn) (st0:List Aw.Item) (hst:RS r o y rn st0) (hr:Pn.Rok y rn) (i v:Int):ACalls Tryz.prog 121 [.ptr r 0,.int i,.int v] st0 (fun v9 st=>v9= .tup []∧RS r o y (Pn.rsend rn 0 v) st):=by
  refine acalls_body Tryz.func121 (by kernel_rfl) rfl Tryz.ntmps121 (le_ rfl) ?_;rw [Tryz.results121];obtain⟨os,rfl,hos⟩:=hst;unfold RNI ROI encRn;refine awp_region ?_;refine sM ?_;refine sM ?_;refine aops_call (blt_lt rfl) (.plain rfl) (.cons (.plain rfl) (.cons (.plain rfl) (.cons (.plain rfl) .nil))) ((send_c r o y rn _ ⟨_,rfl,hos⟩ 0 hr.send v).mono ?_);rintro v9 st ⟨rfl,os1,rfl,hos1⟩;unfold RNI encRn;rw [Pn.rsend_s1,Pn.rsend_e1];refine aops_nil ?_;exact retG (.inl rfl) .nil (VShift.of2 (st':=RNI r o y (Pn.rsend rn 0 v) os1) (AV.Imp.refl _) (by simp only [RNI,ROI,encRn,Pn.rsend_s1,Pn.rsend_e1];(repeat (exact .refl _));done)) ⟨rfl,_,rfl,hos1⟩
theorem h2_c (r o:Nat) (y:Pn.Sg) (rn:Pn.Rn) (st0:List Aw.Item) (hst:RS r o y rn st0) (i:Int):ACalls Tryz.prog 122 [.ptr r 0,.int i] st0 (fun v9 st=>v9= .tup []∧RS r o y (Pn.rend rn) st):=by
  refine acalls_body Tryz.func122 (by kernel_rfl) rfl Tryz.ntmps122 (le_ rfl) ?_;rw [Tryz.results122];obtain⟨os,rfl,hos⟩:=hst;unfold RNI ROI encRn;refine awp_region ?_;refine sM ?_;refine sZ ?_;refine sF ?_;refine sF ?_;refine st_storeN (cs':=[_,_,_,_,_,_,_,_,_,_,_,_,_,_]) (by rfl) rfl (.plain rfl) (.plain rfl) (by exact .here) (le_ rfl) (by rfl) ?_;refine aops_nil ?_;exact retG (.inl rfl) .nil (VShift.of2 (st':=RNI r o y (Pn.rend rn) os) (AV.Imp.refl _) (by simp only [RNI,ROI,encRn,Pn.rsend_s1,Pn.rsend_e1,Pn.rend];(repeat (exact .refl _));done)) ⟨rfl,_,rfl,hos⟩
theorem h3_c (r o:Nat) (y:Pn.Sg) (rn:Pn.Rn) (st0:List Aw.Item) (hst:RS r o y rn st0) (hr:Pn.Rok y rn) (i v:Int):ACalls Tryz.prog 124 [.ptr r 0,.int i,.int v] st0 (fun v9 st=>v9= .tup []∧RS r o y (Pn.rsend (Pn.reval y rn v 0).1 0 (Pn.reval y rn v 0).2) st):=by
  refine acalls_body Tryz.func124 (by kernel_rfl) rfl Tryz.ntmps124 (le_ rfl) ?_;rw [Tryz.results124];obtain⟨os,rfl,hos⟩:=hst;unfold RNI ROI encRn;refine awp_region ?_;refine sM ?_;refine sM ?_;refine sM ?_;refine aops_call (blt_lt rfl) (.plain rfl) (.cons (.plain rfl) (.cons (.plain rfl) (.cons (.plain rfl) .nil))) ((eval2_c r o y rn _ ⟨_,rfl,hos⟩ hr.sg.kind v 0).mono ?_);rintro v9 st ⟨rfl,os1,rfl,hos1⟩;unfold RNI encRn;refine aops_call (blt_lt rfl) (.plain rfl) (.cons (.plain rfl) (.cons (.plain rfl) (.cons (.plain rfl) .nil))) ((send_c r o y (Pn.reval y rn v 0).1 _ ⟨_,rfl,hos1⟩ 0 (Pn.Rok.of (rn':=(Pn.reval y rn v 0).1) hr rfl).send (Pn.reval y rn v 0).2).mono ?_);rintro v9 st ⟨rfl,os2,rfl,hos2⟩;unfold RNI encRn;rw [Pn.rsend_s1,Pn.rsend_e1];refine aops_nil ?_;exact retG (.inl rfl) .nil (VShift.of2 (st':=RNI r o y (Pn.rsend (Pn.reval y rn v 0).1 0 (Pn.reval y rn v 0).2) os2) (AV.Imp.refl _) (by simp only [RNI,ROI,encRn,Pn.rsend_s1,Pn.rsend_e1];(repeat (exact .refl _));done)) ⟨rfl,_,rfl,hos2⟩
theorem h4_c (r o:Nat) (y:Pn.Sg) (rn:Pn.Rn) (st0:List Aw.Item) (hst:RS r o y rn st0) (hr:Pn.Rok y rn) (i v:Int):ACalls Tryz.prog 125 [.ptr r 0,.int i,.int v] st0 (fun v9 st=>v9= .tup []∧RS r o y (if (Pn.reval y rn v 0).2=1 then Pn.rsend (Pn.reval y rn v 0).1 0 v else (Pn.reval y rn v 0).1) st):=by
  refine acalls_body Tryz.func125 (by kernel_rfl) rfl Tryz.ntmps125 (le_ rfl) ?_;rw [Tryz.results125];obtain⟨os,rfl,hos⟩:=hst;unfold RNI ROI encRn;refine asr ?_;refine sM ?_;refine sM ?_;refine aops_call (blt_lt rfl) (.plain rfl) (.cons (.plain rfl) (.cons (.plain rfl) (.cons (.plain rfl) .nil))) ((eval2_c r o y rn _ ⟨_,rfl,hos⟩ hr.sg.kind v 0).mono ?_);rintro v9 st ⟨rfl,os1,rfl,hos1⟩;unfold RNI encRn;refine sQ ?_;refine aops_nil ?_;refine awp_cond rfl (fun h1=> ?_) (fun h1=> ?_)
  ·simp only [nf] at h1;refine awp_region ?_;refine sM ?_;refine sM ?_;refine aops_call (blt_lt rfl) (.plain rfl) (.cons (.plain rfl) (.cons (.plain rfl) (.cons (.plain rfl) .nil))) ((send_c r o y (Pn.reval y rn v 0).1 _ ⟨_,rfl,hos1⟩ 0 (Pn.Rok.of (rn':=(Pn.reval y rn v 0).1) hr rfl).send v).mono ?_);rintro v9 st ⟨rfl,os2,rfl,hos2⟩;unfold RNI encRn;rw [Pn.rsend_s1,Pn.rsend_e1];refine aops_nil ?_;exact retG (.inl rfl) .nil (VShift.of2 (st':=RNI r o y (Pn.rsend (Pn.reval y rn v 0).1 0 v) os2) (AV.Imp.refl _) (by simp only [RNI,ROI,encRn,Pn.rsend_s1,Pn.rsend_e1];(repeat (exact .refl _));done)) ⟨rfl,by rw [if_pos (by assumption)];exact⟨_,rfl,hos2⟩⟩
  ·simp only [nf] at h1;refine awp_skip ?_;exact retG (.inl rfl) .nil (VShift.of2 (st':=RNI r o y (Pn.reval y rn v 0).1 os1) (AV.Imp.refl _) (by simp only [RNI,ROI,encRn,Pn.rsend_s1,Pn.rsend_e1];(repeat (exact .refl _));done)) ⟨rfl,by rw [if_neg (by assumption)];exact⟨_,rfl,hos1⟩⟩
theorem h5_c (r o:Nat) (y:Pn.Sg) (rn:Pn.Rn) (st0:List Aw.Item) (hst:RS r o y rn st0) (hr:Pn.Rok y rn) (hh: ∀ n∈rn.s.held,Pn.num n=true) (hhl:rn.s.held.length≤1000) (i:Int):ACalls Tryz.prog 127 [.ptr r 0,.int i] st0 (fun v9 st=>v9= .tup []∧RS r o y (Pn.rend (if 0<rn.s.held.length then Pn.rsum rn else rn)) st):=by
  refine acalls_body Tryz.func127 (by kernel_rfl) rfl Tryz.ntmps127 (le_ rfl) ?_;rw [Tryz.results127];obtain⟨os,rfl,hos⟩:=hst;unfold RNI ROI encRn;refine awp_seq ?_;refine asr ?_;refine sM ?_;refine sZ ?_;refine sF ?_;refine sF ?_;refine sL .here ?_;refine sN ?_;refine sG ?_;refine aops_nil ?_;refine awp_cond rfl (fun h1=> ?_) (fun h1=> ?_)
  ·simp only [nf] at h1;refine awp_region ?_;refine sM ?_;refine aops_call (blt_lt rfl) (.plain rfl) (.cons (.plain rfl) .nil) ((sum_c r o y rn _ ⟨_,rfl,hos⟩ hr hh hhl).mono ?_);rintro v9 st ⟨rfl,os1,rfl,hos1⟩;unfold RNI encRn;refine aops_nil ?_;refine awp_region ?_;refine sM ?_;refine sZ ?_;refine sF ?_;refine sF ?_;refine st_storeN (cs':=[_,_,_,_,_,_,_,_,_,_,_,_,_,_]) (by rfl) rfl (.plain rfl) (.plain rfl) (by exact .here) (le_ rfl) (by rfl) ?_;refine aops_nil ?_;exact retG (.inl rfl) .nil (VShift.of2 (st':=RNI r o y (Pn.rend (Pn.rsum rn)) os1) (AV.Imp.refl _) (by simp only [RNI,ROI,encRn,Pn.rsend_s1,Pn.rsend_e1,Pn.rend,Pn.rsum];(repeat (exact .refl _));done)) ⟨rfl,by rw [if_pos (by omega)];exact⟨_,rfl,hos1⟩⟩
  ·simp only [nf] at h1;refine awp_skip ?_;refine awp_region ?_;refine sM ?_;refine sZ ?_;refine sF ?_;refine sF ?_;refine st_storeN (cs':=[_,_,_,_,_,_,_,_,_,_,_,_,_,_]) (by rfl) rfl (.plain rfl) (.plain rfl) (by exact .here) (le_ rfl) (by rfl) ?_;refine aops_nil ?_;exact retG (.inl rfl) .nil (VShift.of2 (st':=RNI r o y (Pn.rend rn) os) (AV.Imp.refl _) (by simp only [RNI,ROI,encRn,Pn.rsend_s1,Pn.rsend_e1,Pn.rend];(repeat (exact .refl _));done)) ⟨rfl,by rw [if_neg (by omega)];exact⟨_,rfl,hos⟩⟩
theorem h6_c (r o:Nat) (y:Pn.Sg) (rn:Pn.Rn) (st0:List Aw.Item) (hst:RS r o y rn st0) (hr:Pn.Rok y rn) (i v:Int):ACalls Tryz.prog 129 [.ptr r 0,.int i,.int v] st0 (fun v9 st=>v9= .tup []∧RS r o y (Pn.rrep rn v y.size.toNat) st):=by
  refine acalls_body Tryz.func129 (by kernel_rfl) rfl Tryz.ntmps129 (le_ rfl) ?_;rw [Tryz.results129];obtain⟨os,rfl,hos⟩:=hst;unfold RNI ROI encRn;have hsz:=hr.sg.size2;refine asr ?_;refine sM ?_;refine sZ ?_;refine sF ?_;refine sF ?_;refine sL .here ?_;refine sM ?_;refine aops_nil ?_;refine awp_block ?_;refine awp_loop2 (X:=Nat×List Aw.Item) (rest:=[]) [0,2,10] (.cons rfl (.cons rfl (.cons rfl .nil))) (fun σ x=>((11,.int (x.1:Int)):Nat×AV)::σ) (fun R x=>x.2) (fun x=>x.1≤y.size.toNat∧RS r o y (Pn.rrep rn v x.1) x.2) (fun x=>y.size.toNat - x.1) (0,RNI r o y rn os) (by exact Weak.of2 (by (repeat (first|exact .nil _|refine .cons rfl (by exact AV.Imp.refl _) ?_));done) (by (repeat (exact .refl _));done)) ⟨Nat.zero_le _,os,rfl,hos⟩ ?_;rintro⟨k,st⟩ ⟨hk,hrs⟩;simp only at hk hrs;dsimp only;refine asr ?_;refine sS ?_;refine aops_nil ?_;refine awp_seq ?_;refine awp_cond rfl (fun h1=> ?_) (fun h1=> ?_)
  ·simp only [nf] at h1;refine awp_skip ?_;refine awp_seq ?_;refine awp_block ?_;refine awp_region ?_;refine sM ?_;refine sM ?_;refine aops_call (blt_lt rfl) (.plain rfl) (.cons (.plain rfl) (.cons (.plain rfl) (.cons (.plain rfl) .nil))) ((send_c r o y (Pn.rrep rn v k) st hrs 0 (hr.rep v (by omega)) v).mono ?_);rintro v9 st1 ⟨rfl,hrs1⟩;refine aops_nil ?_;refine awp_region ?_;refine sY ?_ (hb:=by omega);refine sM ?_;refine aops_nil ?_;refine⟨(k+1,st1),⟨by show k+1≤_;omega,hrs1⟩,by show y.size.toNat - (k+1)<y.size.toNat - k;omega,Weak.of2 (by (repeat (first|exact .nil _|refine .cons rfl (by exact AV.Imp.refl _) ?_));done) (by exact .refl _)⟩
  ·simp only [nf] at h1;refine awp_exit ?_;obtain rfl:k=y.size.toNat:=by omega
   exact retG (.inl rfl) .nil VShift.refl ⟨rfl,hrs⟩
theorem h7_c (r o:Nat) (y:Pn.Sg) (rn:Pn.Rn) (st0:List Aw.Item) (hst:RS r o y rn st0) (hr:Pn.Rok y rn) (hc:0≤rn.s.count) (i v:Int):ACalls Tryz.prog 130 [.ptr r 0,.int i,.int v] st0 (fun v9 st=>v9= .tup []∧RS r o y (if rn.s.count<y.size then Pn.rsend (Pn.rcount rn (rn.s.count+1)) 0 v else rn) st):=by
  refine acalls_body Tryz.func130 (by kernel_rfl) rfl Tryz.ntmps130 (le_ rfl) ?_;rw [Tryz.results130];obtain⟨os,rfl,hos⟩:=hst;unfold RNI ROI encRn;have hsz:=hr.sg.size2;refine awp_seq ?_;refine awp_any0 (ks:=[.free,.free,.free,.free,.free,.free,.free,.free,.free,.free,.free]) (by kernel_rfl) (fun K=> ?_) ?_
  ·refine rM ?_;refine rZ ?_;refine rF ?_;refine rF ?_;refine rL .here ?_;refine rM ?_;refine rZ ?_;refine rF ?_;refine rF ?_;refine rL .here ?_;refine rS ?_;refine dr_nil ⟨rfl,?_⟩;refine awp_cond rfl (fun h1=> ?_) (fun h1=> ?_)
   ·simp only [nf] at h1;refine asr ?_;refine sM ?_;refine sZ ?_;refine sF ?_;refine sF ?_;refine sL .here ?_;refine sY ?_ (hb:=by omega);refine sZ ?_;refine sF ?_;refine sF ?_;refine st_storeN (cs':=[_,_,_,_,_,_,_,_,_,_,_,_,_,_]) (by rfl) rfl (.plain rfl) (.plain rfl) (by exact .here) (le_ rfl) (by rfl) ?_;refine aops_nil ?_;refine awp_region ?_;refine sM ?_;refine sM ?_;refine aops_call (blt_lt rfl) (.plain rfl) (.cons (.plain rfl) (.cons (.plain rfl) (.cons (.plain rfl) .nil))) ((send_c r o y (Pn.rcount rn (rn.s.count+1)) _ ⟨_,rfl,hos⟩ 0 (Pn.Rok.of (rn':=Pn.rcount rn (rn.s.count+1)) hr rfl).send v).mono ?_);rintro v9 st ⟨rfl,os1,rfl,hos1⟩;unfold RNI encRn;rw [Pn.rsend_s1,Pn.rsend_e1];refine aops_nil ?_;exact retG (.inl rfl) .nil (VShift.of2 (st':=RNI r o y (Pn.rsend (Pn.rcount rn (rn.s.count+1)) 0 v) os1) (AV.Imp.refl _) (by simp only [RNI,ROI,encRn,Pn.rsend_s1,Pn.rsend_e1,Pn.rcount];(repeat (exact .refl _));done)) ⟨rfl,by rw [if_pos (by omega)];exact⟨_,rfl,hos1⟩⟩
   ·simp only [nf] at h1;refine awp_skip ?_;exact retG (.inl rfl) .nil (VShift.of2 (st':=RNI r o y rn os) (AV.Imp.refl _) (by simp only [RNI,ROI,encRn,Pn.rsend_s1,Pn.rsend_e1];(repeat (exact .refl _));done)) ⟨rfl,by rw [if_neg (by omega)];exact⟨_,rfl,hos⟩⟩
  ·kernel_rfl
theorem h8_c (r o:Nat) (y:Pn.Sg) (rn:Pn.Rn) (st0:List Aw.Item) (hst:RS r o y rn st0) (hr:Pn.Rok y rn) (ho2:rn.out.length=2) (v:Int) (hb:(Pn.reval y rn v 0).1.err=0→(Pn.reval y rn v 0).2=0∨(Pn.reval y rn v 0).2=1) (i:Int):ACalls Tryz.prog 131 [.ptr r 0,.int i,.int v] st0 (fun v9 st=>v9= .tup []∧RS r o y (Pn.rsend (Pn.reval y rn v 0).1 (1 - (Pn.reval y rn v 0).2).toNat v) st):=by
  refine acalls_body Tryz.func131 (by kernel_rfl) rfl Tryz.ntmps131 (le_ rfl) ?_;rw [Tryz.results131];obtain⟨os,rfl,hos⟩:=hst;unfold RNI ROI encRn;have hbd: -1099511627776≤(Pn.reval y rn v 0).2∧(Pn.reval y rn v 0).2≤1099511627776:=Pn.evalE_bd _ _;refine awp_region ?_;refine sM ?_;refine sM ?_;refine sM ?_;refine aops_call (blt_lt rfl) (.plain rfl) (.cons (.plain rfl) (.cons (.plain rfl) (.cons (.plain rfl) .nil))) ((eval2_c r o y rn _ ⟨_,rfl,hos⟩ hr.sg.kind v 0).mono ?_);rintro v9 st ⟨rfl,os1,rfl,hos1⟩;unfold RNI encRn;refine st_p (fun _=>by exact y_sub (.plain rfl) (.plain rfl) (by omega)) rfl ?_;refine sM ?_;refine aops_call (blt_lt rfl) (.plain rfl) (.cons (.plain rfl) (.cons (.plain rfl) (.cons (.plain rfl) .nil))) ((send_c r o y (Pn.reval y rn v 0).1 _ ⟨_,rfl,hos1⟩ (1 - (Pn.reval y rn v 0).2) ⟨fun h9=>by have:=hb h9;have:(Pn.reval y rn v 0).1.out.length=2:=ho2;omega,by show rn.out.length≤2;omega,(Pn.Rok.of (rn':=(Pn.reval y rn v 0).1) hr rfl).send.2.2⟩ v).mono ?_);rintro v9 st ⟨rfl,os2,rfl,hos2⟩;unfold RNI encRn;rw [Pn.rsend_s1,Pn.rsend_e1];refine aops_nil ?_;exact retG (.inl rfl) .nil (VShift.of2 (st':=RNI r o y (Pn.rsend (Pn.reval y rn v 0).1 (1 - (Pn.reval y rn v 0).2).toNat v) os2) (AV.Imp.refl _) (by simp only [RNI,ROI,encRn,Pn.rsend_s1,Pn.rsend_e1];(repeat (exact .refl _));done)) ⟨rfl,_,rfl,hos2⟩
theorem h9_c (r o:Nat) (y:Pn.Sg) (rn:Pn.Rn) (st0:List Aw.Item) (hst:RS r o y rn st0) (hr:Pn.Rok y rn) (i v:Int) (hi:0≤i∧i≤1):ACalls Tryz.prog 133 [.ptr r 0,.int i,.int v,.eptr [.val (.func (.func 121) #[] #[])]] st0 (fun v9 st=>v9= .tup []∧RS r o y (Pn.rcount (Pn.rsend rn 0 v) (1 - i)) st):=by
  refine acalls_body Tryz.func133 (by kernel_rfl) rfl Tryz.ntmps133 (le_ rfl) ?_;rw [Tryz.results133];obtain⟨os,rfl,hos⟩:=hst;unfold RNI ROI encRn;refine asr ?_;refine sU ?_;refine sM ?_;refine sM ?_;refine sM ?_;refine aops_call (blt_lt rfl) (.plain rfl) (.cons (.plain rfl) (.cons (.plain rfl) (.cons (.plain rfl) .nil))) ((h1_c r o y rn _ ⟨_,rfl,hos⟩ hr i v).mono ?_);rintro v9 st ⟨rfl,os1,rfl,hos1⟩;unfold RNI encRn;rw [Pn.rsend_s1,Pn.rsend_e1];refine aops_nil ?_;refine awp_region ?_;refine sM ?_;refine sM ?_;refine st_p (fun _=>by exact y_sub (.plain rfl) (.plain rfl) (by omega)) rfl ?_;refine sZ ?_;refine sF ?_;refine sF ?_;refine st_storeN (cs':=[_,_,_,_,_,_,_,_,_,_,_,_,_,_]) (by rfl) rfl (.plain rfl) (.plain rfl) (by exact .here) (le_ rfl) (by rfl) ?_;refine aops_nil ?_;exact retG (.inl rfl) .nil (VShift.of2 (st':=RNI r o y (Pn.rcount (Pn.rsend rn 0 v) (1 - i)) os1) (AV.Imp.refl _) (by simp only [RNI,ROI,encRn,Pn.rsend_s1,Pn.rsend_e1,Pn.rcount];(repeat (exact .refl _));done)) ⟨rfl,_,rfl,hos1⟩
theorem h10_c (r o:Nat) (y:Pn.Sg) (rn:Pn.Rn) (st0:List Aw.Item) (hst:RS r o y rn st0) (i v:Int):ACalls Tryz.prog 136 [.ptr r 0,.int i,.int v] st0 (fun v9 st=>v9= .tup []∧RS r o y rn st):=by
  refine acalls_body Tryz.func136 (by kernel_rfl) rfl Tryz.ntmps136 (le_ rfl) ?_;rw [Tryz.results136];refine awp_skip ?_;exact retG (.inl rfl) .nil VShift.refl ⟨rfl,hst⟩
theorem batch_c (r o:Nat) (y:Pn.Sg) (rn:Pn.Rn) (st0:List Aw.Item) (hst:RS r o y rn st0) (hr:Pn.Rok y rn) (hh: ∀ n∈rn.s.held,Pn.num n=true) (hhl:rn.s.held.length≤500) (i v:Int) (hv:Pn.num v=true):ACalls Tryz.prog 126 [.ptr r 0,.int i,.int v] st0 (fun v9 st=>v9= .tup []∧RS r o y (Pn.rbatch y rn v) st):=by
  refine acalls_body Tryz.func126 (by kernel_rfl) rfl Tryz.ntmps126 (le_ rfl) ?_;rw [Tryz.results126];obtain⟨os,rfl,hos⟩:=hst;unfold RNI ROI encRn;refine awp_seq ?_;rcases Classical.em (rn.s.held=[]) with hq0|hq0
  ·refine awp_region ?_;refine sM ?_;refine sM ?_;refine sZ ?_;refine sF ?_;refine sF ?_;refine sL .here ?_;refine st_p (fun _=>by exact y_call (.plain rfl) (.cons (.imp (.plain rfl) (AV.Imp.of_eq (by rw [hq0]))) .nil) (ACalls.pure cloneI0_c)) rfl ?_;refine sM ?_;refine st_p (fun _=>by exact y_buildSlice (.cons (.plain rfl) inferInstance (by rfl) .nil) rfl (le_ rfl)) rfl ?_;refine st_append0 (by rfl) (.plain rfl) (.plain rfl) (by (simp;try omega)) rfl fun tN=> ?_;refine sZ ?_;refine sF ?_;refine sF ?_;refine st_storeN (cs':=[_,_,_,_,_,_,_,_,_,_,_,_,_,_]) (by rfl) rfl (.plain rfl) (.plain rfl) (by exact u1) (le_ rfl) (by rfl) ?_;refine aops_nil ?_;refine awp_seq ?_;refine awp_weak (Weak.items2 (st':= .cells r (encRn y ({rn with s:={rn.s with held:=rn.s.held++[v]}}:Pn.Rn).s o os.length rn.err)::ROI o os) (by simp only [ROI,encRn];(repeat (first|apply ItLe2.cons (by exact k1)|apply ItLe2.cells (by exact k1) (by repeat (first|exact .nil|refine .cons (by first|exact AV.Imp.refl _|exact AV.Imp.sl_of (by rw [hq0])) ?_))|exact .sub (List.sublist_cons_self _ _)));done)) ?_;unfold encRn;dsimp only;refine awp_any0 (ks:=[.free,.free,.free,.free,.free,.free,.free,.free,.free,.free,.free,.free]) (by kernel_rfl) (fun K=> ?_) ?_
   ·refine rM ?_;refine rZ ?_;refine rF ?_;refine rF ?_;refine rL .here ?_;refine rN ?_;refine rM ?_;refine rZ ?_;refine rF ?_;refine rF ?_;refine rL .here ?_;refine rQ ?_;refine dr_nil ⟨rfl,?_⟩;refine awp_cond rfl (fun h1=> ?_) (fun h1=> ?_)
    ·simp only [nf] at h1;have hb9:(((rn.s.held++[v]).length:Nat):Int)=y.size:=by simpa using h1
     refine awp_region ?_;refine sM ?_;refine aops_call (blt_lt rfl) (.plain rfl) (.cons (.plain rfl) .nil) ((sum_c r o y ({rn with s:={rn.s with held:=rn.s.held++[v]}}:Pn.Rn) _ ⟨_,rfl,hos⟩ (hr.of rfl) (by intro n hn;rcases List.mem_append.1 hn with h|h;exact hh n h;rw [List.mem_singleton.1 h];exact hv) (by show (rn.s.held++[v]).length≤1000;simp;omega)).mono ?_);rintro v9 st ⟨rfl,os1,rfl,hos1⟩;unfold RNI encRn;refine aops_nil ?_;exact retG (.inl rfl) .nil (VShift.of2 (st':=RNI r o y (Pn.rsum ({rn with s:={rn.s with held:=rn.s.held++[v]}}:Pn.Rn)) os1) (AV.Imp.refl _) (by simp only [RNI,ROI,encRn,Pn.rsend_s1,Pn.rsend_e1,Pn.rsum];(repeat (exact .refl _));done)) ⟨rfl,by rw [Pn.rbatch,if_pos hb9];exact⟨_,rfl,hos1⟩⟩
    ·simp only [nf] at h1;have hb9: ¬ (((rn.s.held++[v]).length:Nat):Int)=y.size:=by simpa using h1
     refine awp_skip ?_;exact retG (.inl rfl) .nil (VShift.of2 (st':=RNI r o y ({rn with s:={rn.s with held:=rn.s.held++[v]}}:Pn.Rn) os) (AV.Imp.refl _) (by simp only [RNI,ROI,encRn,Pn.rsend_s1,Pn.rsend_e1];(repeat (exact .refl _));done)) ⟨rfl,by rw [Pn.rbatch,if_neg hb9];exact⟨_,rfl,hos⟩⟩
   ·kernel_rfl
  ·refine awp_region ?_;refine sM ?_;refine sM ?_;refine sZ ?_;refine sF ?_;refine sF ?_;refine sL .here ?_;refine st_n (fun _=>by exact y_callOwn (.plain rfl) (.cons (.plain rfl) .nil) (cloneI1_c rn.s.held hq0 (by omega))) rfl fun n9=> ?_;refine sM ?_;refine st_p (fun _=>by exact y_buildSlice (.cons (.plain rfl) inferInstance (by rfl) .nil) rfl (le_ rfl)) rfl ?_;refine st_append (by rfl) (.imp (.plain rfl) AV.Imp.own_grow) (.plain rfl) (by simp;omega) rfl fun t9=> ?_;refine sZ ?_;refine sF ?_;refine sF ?_;refine st_storeN (cs':=[_,_,_,_,_,_,_,_,_,_,_,_,_,_]) (by rfl) rfl (.plain rfl) (.plain rfl) (by exact u1) (le_ rfl) (by rfl) ?_;refine aops_nil ?_;refine awp_seq ?_;refine awp_weak (Weak.items2 (st':= .cells r (encRn y ({rn with s:={rn.s with held:=rn.s.held++[v]}}:Pn.Rn).s o os.length rn.err)::ROI o os) (by simp only [ROI,encRn];(repeat (first|apply ItLe2.cons (by exact k1)|apply ItLe2.cells (by exact k1) (by repeat (first|exact .nil|refine .cons (by first|exact AV.Imp.refl _|exact AV.Imp.sl_of (by rfl)) ?_))|exact .sub (List.sublist_cons_self _ _)));done)) ?_;unfold encRn;dsimp only;refine awp_any0 (ks:=[.free,.free,.free,.free,.free,.free,.free,.free,.free,.free,.free,.free]) (by kernel_rfl) (fun K=> ?_) ?_
   ·refine rM ?_;refine rZ ?_;refine rF ?_;refine rF ?_;refine rL .here ?_;refine rN ?_;refine rM ?_;refine rZ ?_;refine rF ?_;refine rF ?_;refine rL .here ?_;refine rQ ?_;refine dr_nil ⟨rfl,?_⟩;refine awp_cond rfl (fun h2=> ?_) (fun h2=> ?_)
    ·simp only [nf] at h2;have hb9:(((rn.s.held++[v]).length:Nat):Int)=y.size:=by simpa using h2
     refine awp_region ?_;refine sM ?_;refine aops_call (blt_lt rfl) (.plain rfl) (.cons (.plain rfl) .nil) ((sum_c r o y ({rn with s:={rn.s with held:=rn.s.held++[v]}}:Pn.Rn) _ ⟨_,rfl,hos⟩ (hr.of rfl) (by intro n hn;rcases List.mem_append.1 hn with h|h;exact hh n h;rw [List.mem_singleton.1 h];exact hv) (by show (rn.s.held++[v]).length≤1000;simp;omega)).mono ?_);rintro v9 st ⟨rfl,os1,rfl,hos1⟩;unfold RNI encRn;refine aops_nil ?_;exact retG (.inl rfl) .nil (VShift.of2 (st':=RNI r o y (Pn.rsum ({rn with s:={rn.s with held:=rn.s.held++[v]}}:Pn.Rn)) os1) (AV.Imp.refl _) (by simp only [RNI,ROI,encRn,Pn.rsend_s1,Pn.rsend_e1,Pn.rsum];(repeat (exact .refl _));done)) ⟨rfl,by rw [Pn.rbatch,if_pos hb9];exact⟨_,rfl,hos1⟩⟩
    ·simp only [nf] at h2;have hb9: ¬ (((rn.s.held++[v]).length:Nat):Int)=y.size:=by simpa using h2
     refine awp_skip ?_;exact retG (.inl rfl) .nil (VShift.of2 (st':=RNI r o y ({rn with s:={rn.s with held:=rn.s.held++[v]}}:Pn.Rn) os) (AV.Imp.refl _) (by simp only [RNI,ROI,encRn,Pn.rsend_s1,Pn.rsend_e1];(repeat (exact .refl _));done)) ⟨rfl,by rw [Pn.rbatch,if_neg hb9];exact⟨_,rfl,hos⟩⟩
   ·kernel_rfl
theorem zip_c (r o:Nat) (y:Pn.Sg) (rn:Pn.Rn) (st0:List Aw.Item) (hst:RS r o y rn st0) (hr:Pn.Rok y rn) (hcn:0≤rn.s.count∧rn.s.count≤3) (i v:Int):ACalls Tryz.prog 134 [.ptr r 0,.int i,.int v] st0 (fun v9 st=>v9= .tup []∧RS r o y (Pn.rzip y rn i v) st):=by
  refine acalls_body Tryz.func134 (by kernel_rfl) rfl Tryz.ntmps134 (le_ rfl) ?_;rw [Tryz.results134];obtain⟨os,rfl,hos⟩:=hst;unfold RNI ROI encRn;refine awp_seq ?_;refine asr ?_;refine sM ?_;refine sQ ?_;refine aops_nil ?_;refine awp_cond rfl (fun h1=> ?_) (fun h1=> ?_)
  ·simp only [nf] at h1;refine awp_seq ?_;refine asr ?_;refine sM ?_;refine sZ ?_;refine sF ?_;refine sF ?_;refine sL .here ?_;refine st_p (fun _=>by exact y_andK (.plain rfl) (.plain rfl) (and2K _ _ hcn)) rfl ?_;refine sQ ?_;refine aops_nil ?_;refine awp_cond rfl (fun h2=> ?_) (fun h2=> ?_)
   ·simp only [nf] at h2;refine awp_region ?_;refine sM ?_;refine sM ?_;refine st_p (fun _=>by exact y_buildSlice (.cons (.plain rfl) inferInstance (by rfl) .nil) rfl (le_ rfl)) rfl ?_;refine sZ ?_;refine sF ?_;refine sF ?_;refine st_storeN (cs':=[_,_,_,_,_,_,_,_,_,_,_,_,_,_]) (by rfl) rfl (.plain rfl) (.plain rfl) (by exact .here) (le_ rfl) (by rfl) ?_;refine aops_nil ?_;refine awp_ret ?_;exact retG (.inr rfl) .nil (VShift.of2 (st':=RNI r o y ({rn with s:={rn.s with held:=[v]}}:Pn.Rn) os) (AV.Imp.refl _) (by simp only [RNI,ROI,encRn,Pn.rsend_s1,Pn.rsend_e1];(repeat (first|exact .refl _|apply ItLe2.cells (by exact .here) (by repeat (first|exact .nil|refine .cons (by first|exact AV.Imp.refl _|exact Sl.imp) ?_))));done)) ⟨rfl,by rw [Pn.rzip,if_pos (by assumption),if_pos (by assumption)];exact⟨_,rfl,hos⟩⟩
   ·simp only [nf] at h2;refine awp_skip ?_;refine awp_ret ?_;exact retG (.inr rfl) .nil (VShift.of2 (st':=RNI r o y rn os) (AV.Imp.refl _) (by simp only [RNI,ROI,encRn,Pn.rsend_s1,Pn.rsend_e1];(repeat (exact .refl _));done)) ⟨rfl,by rw [Pn.rzip,if_pos (by assumption),if_neg (by assumption)];exact⟨_,rfl,hos⟩⟩
  ·simp only [nf] at h1;refine awp_skip ?_;refine asr ?_;refine sM ?_;refine sZ ?_;refine sF ?_;refine sF ?_;refine sL .here ?_;refine sN ?_;refine sQ ?_;refine aops_nil ?_;refine awp_cond rfl (fun h3=> ?_) (fun h3=> ?_)
   ·simp only [nf] at h3;have hl1:(rn.s.held.length:Int)=1:=by omega
    refine asr ?_;refine sM ?_;refine sZ ?_;refine sF ?_;refine sF ?_;refine sL .here ?_;refine st_p (fun _=>by exact y_indexT (l:=rn.s.held) (q:=0) (.plain rfl) (.plain rfl) (by decide) (by simp;omega)) rfl ?_;refine sU ?_;refine sA ?_;refine aops_nil ?_;refine asr ?_;refine sM ?_;refine sZ ?_;refine sF ?_;refine sF ?_;refine st_storeN (cs':=[_,_,_,_,_,_,_,_,_,_,_,_,_,_]) (by rfl) rfl (.plain rfl) (.plain rfl) (by exact .here) (le_ rfl) (by rfl) ?_;refine aops_nil ?_;refine awp_weak (Weak.items2 (st':= .cells r (encRn y ({rn with s:={rn.s with held:=[]}}:Pn.Rn).s o os.length rn.err)::ROI o os) (by simp only [ROI,encRn];(repeat (first|exact .refl _|apply ItLe2.cells (by exact .here) (by repeat (first|exact .nil|refine .cons (by first|exact AV.Imp.refl _|exact Sl.imp) ?_))));done)) ?_;unfold encRn;dsimp only;refine awp_region ?_;refine sM ?_;refine sM ?_;refine sM ?_;refine sM ?_;refine aops_call (blt_lt rfl) (.plain rfl) (.cons (.plain rfl) (.cons (.plain rfl) (.cons (.plain rfl) .nil))) ((eval2_c r o y ({rn with s:={rn.s with held:=[]}}:Pn.Rn) _ ⟨_,rfl,hos⟩ hr.sg.kind (rn.s.held.getD 0 default) v).mono ?_);rintro v9 st ⟨rfl,os1,rfl,hos1⟩;unfold RNI encRn;refine aops_call (blt_lt rfl) (.plain rfl) (.cons (.plain rfl) (.cons (.plain rfl) (.cons (.plain rfl) .nil))) ((send_c r o y (Pn.reval y ({rn with s:={rn.s with held:=[]}}:Pn.Rn) (rn.s.held.getD 0 default) v).1 _ ⟨_,rfl,hos1⟩ 0 (Pn.Rok.of (rn':=(Pn.reval y ({rn with s:={rn.s with held:=[]}}:Pn.Rn) (rn.s.held.getD 0 default) v).1) hr rfl).send (Pn.reval y ({rn with s:={rn.s with held:=[]}}:Pn.Rn) (rn.s.held.getD 0 default) v).2).mono ?_);rintro v9 st ⟨rfl,os2,rfl,hos2⟩;unfold RNI encRn;rw [Pn.rsend_s1,Pn.rsend_e1];refine aops_nil ?_;exact retG (.inl rfl) .nil (VShift.of2 (st':=RNI r o y (Pn.rsend (Pn.reval y ({rn with s:={rn.s with held:=[]}}:Pn.Rn) (rn.s.held.getD 0 default) v).1 0 (Pn.reval y ({rn with s:={rn.s with held:=[]}}:Pn.Rn) (rn.s.held.getD 0 default) v).2) os2) (AV.Imp.refl _) (by simp only [RNI,ROI,encRn,Pn.rsend_s1,Pn.rsend_e1];(repeat (exact .refl _));done)) ⟨rfl,by rw [Pn.rzip,if_neg (by assumption),if_pos hl1];exact⟨_,rfl,hos2⟩⟩
   ·simp only [nf] at h3;have hl1: ¬ (rn.s.held.length:Int)=1:=by omega
    refine awp_skip ?_;exact retG (.inl rfl) .nil (VShift.of2 (st':=RNI r o y rn os) (AV.Imp.refl _) (by simp only [RNI,ROI,encRn,Pn.rsend_s1,Pn.rsend_e1];(repeat (exact .refl _));done)) ⟨rfl,by rw [Pn.rzip,if_neg (by assumption),if_neg hl1];exact⟨_,rfl,hos⟩⟩
theorem cloneV1_c (l:List Int) (hn:l≠[]) (hl:l.length≤1000000):ACalls Tryz.prog 13 [.sl 1 (l.map Go.Aw.encI)] [] (fun v st=> ∃ j,v= .vec 1 (some j) l.length∧st=[.vec (some j) (l.map AV.int)]):=by
  refine acalls_body Tryz.func13 (by kernel_rfl) rfl Tryz.ntmps13 (le_ rfl) ?_;rw [Tryz.results13];refine asr ?_;refine sA ?_;refine aops_nil ?_;refine awp_seq ?_;refine asr ?_;refine sM ?_;refine st_p (fun _=>by exact y_eqNilF (.plain rfl) (by simpa using hn)) rfl ?_;refine aops_nil ?_;refine awp_cond rfl (fun h1=> ?_) (fun h1=> ?_)
  ·cases h1
  ·simp only [nf] at h1;refine awp_skip ?_;refine asr ?_;refine st_p (fun _=>by exact y_buildSlice .nil rfl (le_ rfl)) rfl ?_;refine sM ?_;refine aops_weak (Weak.vec0 []) ?_;refine st_n (fun _=>by exact y_vappend (by rfl) (by rfl) (.imp (.plain rfl) AV.Imp.full_vec) (by rfl) (.plain rfl) (by simpa using hn) (by simp;omega) .here) rfl fun nj=> ?_;refine sA ?_;refine aops_nil ?_;refine awp_ret ?_;exact retG (.inr rfl) (.cons (.tmp rfl) .nil) VShift.refl ⟨nj,by rw [List.length_map,Nat.zero_add];rfl,by rw [List.nil_append,enc1_flat]⟩
theorem endMerge_c (r o:Nat) (y:Pn.Sg) (rn:Pn.Rn) (st0:List Aw.Item) (hst:RS r o y rn st0) (hhl:rn.s.held.length≤500) (i:Int):ACalls Tryz.prog 132 [.ptr r 0,.int i] st0 (fun v9 st=>v9= .tup []∧RS r o y ({rn with s:={rn.s with held:=((rn.s.held++[i]).mergeSort fun a b=>decide (a≤b)),ended:=decide (((rn.s.held++[i]).length:Int)=2)}}:Pn.Rn) st):=by
  refine acalls_body Tryz.func132 (by kernel_rfl) rfl Tryz.ntmps132 (le_ rfl) ?_;rw [Tryz.results132];obtain⟨os,rfl,hos⟩:=hst;unfold RNI ROI encRn;refine awp_seq ?_;rcases Classical.em (rn.s.held=[]) with hq0|hq0
  ·refine awp_region ?_;refine sM ?_;refine sM ?_;refine sZ ?_;refine sF ?_;refine sF ?_;refine sL .here ?_;refine st_p (fun _=>by exact y_call (.plain rfl) (.cons (.imp (.plain rfl) (AV.Imp.of_eq (by rw [hq0]))) .nil) (ACalls.pure cloneI0_c)) rfl ?_;refine sM ?_;refine st_p (fun _=>by exact y_buildSlice (.cons (.plain rfl) inferInstance (by rfl) .nil) rfl (le_ rfl)) rfl ?_;refine aops_weak (Weak.vec0 []) ?_;refine st_n (fun _=>by exact y_vappend (xs:=[]) (by rfl) (by rfl) (.imp (.plain rfl) AV.Imp.full_vec) (by rfl) (.plain rfl) (by simp) (by simp) .here) rfl fun nv=> ?_;refine sZ ?_;refine sF ?_;refine sF ?_;refine st_storeN (cs':=[_,_,_,_,_,_,_,_,_,_,_,_,_,_]) (by rfl) rfl (.plain rfl) (.plain rfl) (by exact u1) (le_ rfl) (by rfl) ?_;refine aops_nil ?_;refine awp_seq ?_;refine awp_items (st':= .vec (some nv) ((rn.s.held++[i]).map AV.int):: .cells r [.int y.kind,.int y.size,.int y.expr.kind,.int y.expr.op,.val (.string y.expr.name),.int y.expr.value,.sl 5 (encExs y.expr.args),.sl 1 (y.items.map Go.Aw.encI),.vec 1 (some nv) (rn.s.held++[i]).length,.int rn.s.count,.bool rn.s.ended,.arr o 0 os.length,.int rn.err,.int 0]::ROI o os) (by simp [hq0,ROI]) ?_;refine awp_region ?_;refine sM ?_;refine sZ ?_;refine sF ?_;refine sF ?_;refine sL k1 ?_;refine aops_call (blt_lt rfl) (.plain rfl) (.cons (.plain rfl) .nil) (ACalls.upd (its:=[.vec (some nv) _]) (by apply Takes.cons (by exact .here);exact .nil _) (sortI_c (some nv) (rn.s.held++[i]) (by simp;omega)) ?_);refine aops_nil ?_;refine awp_region ?_;refine sM ?_;refine sM ?_;refine sZ ?_;refine sF ?_;refine sF ?_;refine sL k1 ?_;refine st_p (fun _=>by exact y_vlen (.plain rfl)) rfl ?_;refine sQ ?_;refine sZ ?_;refine sF ?_;refine sF ?_;refine st_storeN (cs':=[_,_,_,_,_,_,_,_,_,_,_,_,_,_]) (by rfl) rfl (.plain rfl) (.plain rfl) (by exact u1) (le_ rfl) (by rfl) ?_;refine aops_weak (Weak.freezeV (cs:=[.int y.kind,.int y.size,.int y.expr.kind,.int y.expr.op,.val (.string y.expr.name),.int y.expr.value,.sl 5 (encExs y.expr.args),.sl 1 (y.items.map Go.Aw.encI),.vec 1 (some nv) (rn.s.held++[i]).length,.int rn.s.count,.bool (decide (((rn.s.held++[i]).length:Int)=2)),.arr o 0 os.length,.int rn.err,.int 0]) (i:=8) (sz:=1) (t:=some nv) (m:=(rn.s.held++[i]).length) (xs:=((rn.s.held++[i]).mergeSort fun a b=>decide (a≤b)).map Go.Aw.encI) (by rw [List.length_map,List.length_mergeSort]) (by intro x hx;obtain⟨b,_,rfl⟩:=List.mem_map.1 hx;rfl) rfl (by rw [enc1_flat];apply Takes.cons (by exact .here);apply Takes.cons (by exact .here);exact .nil _)) ?_;refine aops_nil ?_;exact retG (.inl rfl) .nil (VShift.of2 (st':=RNI r o y ({rn with s:={rn.s with held:=((rn.s.held++[i]).mergeSort fun a b=>decide (a≤b)),ended:=decide (((rn.s.held++[i]).length:Int)=2)}}:Pn.Rn) os) (AV.Imp.refl _) (by simp only [RNI,ROI,encRn,Pn.rsend_s1,Pn.rsend_e1];(repeat (exact .refl _));done)) ⟨rfl,_,rfl,hos⟩
  ·refine awp_region ?_;refine sM ?_;refine sM ?_;refine sZ ?_;refine sF ?_;refine sF ?_;refine sL .here ?_;refine st_n (fun _=>by exact y_callVec (.plain rfl) (.cons (.plain rfl) .nil) (cloneV1_c rn.s.held hq0 (by omega))) rfl fun n9=> ?_;refine sM ?_;refine st_p (fun _=>by exact y_buildSlice (.cons (.plain rfl) inferInstance (by rfl) .nil) rfl (le_ rfl)) rfl ?_;refine st_n (fun _=>by exact y_vappend (xs:=rn.s.held.map AV.int) (by rfl) (by rfl) (.plain rfl) (by rw [List.length_map,Nat.mul_one]) (.plain rfl) (by simp) (by simp;omega) (by exact .here)) rfl fun nv=> ?_;refine sZ ?_;refine sF ?_;refine sF ?_;refine st_storeN (cs':=[_,_,_,_,_,_,_,_,_,_,_,_,_,_]) (by rfl) rfl (.plain rfl) (.plain rfl) (by exact u1) (le_ rfl) (by rfl) ?_;refine aops_nil ?_;refine awp_seq ?_;refine awp_items (st':= .vec (some nv) ((rn.s.held++[i]).map AV.int):: .cells r [.int y.kind,.int y.size,.int y.expr.kind,.int y.expr.op,.val (.string y.expr.name),.int y.expr.value,.sl 5 (encExs y.expr.args),.sl 1 (y.items.map Go.Aw.encI),.vec 1 (some nv) (rn.s.held++[i]).length,.int rn.s.count,.bool rn.s.ended,.arr o 0 os.length,.int rn.err,.int 0]::ROI o os) (by simp [hq0,ROI]) ?_;refine awp_region ?_;refine sM ?_;refine sZ ?_;refine sF ?_;refine sF ?_;refine sL k1 ?_;refine aops_call (blt_lt rfl) (.plain rfl) (.cons (.plain rfl) .nil) (ACalls.upd (its:=[.vec (some nv) _]) (by apply Takes.cons (by exact .here);exact .nil _) (sortI_c (some nv) (rn.s.held++[i]) (by simp;omega)) ?_);refine aops_nil ?_;refine awp_region ?_;refine sM ?_;refine sM ?_;refine sZ ?_;refine sF ?_;refine sF ?_;refine sL k1 ?_;refine st_p (fun _=>by exact y_vlen (.plain rfl)) rfl ?_;refine sQ ?_;refine sZ ?_;refine sF ?_;refine sF ?_;refine st_storeN (cs':=[_,_,_,_,_,_,_,_,_,_,_,_,_,_]) (by rfl) rfl (.plain rfl) (.plain rfl) (by exact u1) (le_ rfl) (by rfl) ?_;refine aops_weak (Weak.freezeV (cs:=[.int y.kind,.int y.size,.int y.expr.kind,.int y.expr.op,.val (.string y.expr.name),.int y.expr.value,.sl 5 (encExs y.expr.args),.sl 1 (y.items.map Go.Aw.encI),.vec 1 (some nv) (rn.s.held++[i]).length,.int rn.s.count,.bool (decide (((rn.s.held++[i]).length:Int)=2)),.arr o 0 os.length,.int rn.err,.int 0]) (i:=8) (sz:=1) (t:=some nv) (m:=(rn.s.held++[i]).length) (xs:=((rn.s.held++[i]).mergeSort fun a b=>decide (a≤b)).map Go.Aw.encI) (by rw [List.length_map,List.length_mergeSort]) (by intro x hx;obtain⟨b,_,rfl⟩:=List.mem_map.1 hx;rfl) rfl (by rw [enc1_flat];apply Takes.cons (by exact .here);apply Takes.cons (by exact .here);exact .nil _)) ?_;refine aops_nil ?_;exact retG (.inl rfl) .nil (VShift.of2 (st':=RNI r o y ({rn with s:={rn.s with held:=((rn.s.held++[i]).mergeSort fun a b=>decide (a≤b)),ended:=decide (((rn.s.held++[i]).length:Int)=2)}}:Pn.Rn) os) (AV.Imp.refl _) (by simp only [RNI,ROI,encRn,Pn.rsend_s1,Pn.rsend_e1];(repeat (exact .refl _));done)) ⟨rfl,_,rfl,hos⟩
theorem endZip_c (r o:Nat) (y:Pn.Sg) (rn:Pn.Rn) (st0:List Aw.Item) (hst:RS r o y rn st0) (i:Int) (hcn:0≤rn.s.count∧rn.s.count≤3) (hi:0≤i∧i≤1):ACalls Tryz.prog 135 [.ptr r 0,.int i] st0 (fun v9 st=>v9= .tup []∧RS r o y ({rn with s:={rn.s with count:=Aw.orI rn.s.count (i+1),held:=if i=1 then [] else rn.s.held,ended:=decide (Aw.orI rn.s.count (i+1)=3)}}:Pn.Rn) st):=by
  refine acalls_body Tryz.func135 (by kernel_rfl) rfl Tryz.ntmps135 (le_ rfl) ?_;rw [Tryz.results135];obtain⟨os,rfl,hos⟩:=hst;unfold RNI ROI encRn;refine awp_seq ?_;refine awp_anyT (ks:=[.free,.free,.free,.free,.read,.free,.free,.free,.free,.free,.free,.write]) [.cells r _] (by apply Takes.cons (by exact .here);exact .nil _) (by kernel_rfl) (fun K=> ?_) ?_
  ·refine rM ?_;refine rZ ?_;refine rF ?_;refine rF ?_;refine dr_r (fun _=>by exact y_load (.plain rfl) (by exact .here) rfl) rfl ?_;refine rM ?_;refine dr_p (fun _=>by exact y_shlK (.plain rfl) (.plain rfl) (shlK _ i hi)) rfl ?_;refine dr_p (fun _=>by exact y_orK (.plain rfl) (.plain rfl) (orK _ rn.s.count (i+1) hcn (by omega))) rfl ?_;refine rZ ?_;refine rF ?_;refine rF ?_;refine dr_storeN (cs':=[_,_,_,_,_,_,_,_,_,_,_,_,_,_]) (by rfl) rfl (.plain rfl) (.plain rfl) (by exact .here) (le_ rfl) (by rfl) ?_;refine dr_nil ?_;refine awp_seq ?_;refine asr ?_;refine sM ?_;refine sQ ?_;refine aops_nil ?_;refine awp_cond rfl (fun h1=> ?_) (fun h1=> ?_)
   ·simp only [nf] at h1;refine awp_region ?_;refine sM ?_;refine sZ ?_;refine sF ?_;refine sF ?_;refine st_storeN (cs':=[_,_,_,_,_,_,_,_,_,_,_,_,_,_]) (by rfl) rfl (.plain rfl) (.plain rfl) (by exact .here) (le_ rfl) (by rfl) ?_;refine aops_nil ?_;refine awp_region ?_;refine sM ?_;refine sM ?_;refine sZ ?_;refine sF ?_;refine sF ?_;refine sL .here ?_;refine sQ ?_;refine sZ ?_;refine sF ?_;refine sF ?_;refine st_storeN (cs':=[_,_,_,_,_,_,_,_,_,_,_,_,_,_]) (by rfl) rfl (.plain rfl) (.plain rfl) (by exact .here) (le_ rfl) (by rfl) ?_;refine aops_nil ?_;exact retG (.inl rfl) .nil (VShift.of2 (st':=RNI r o y ({rn with s:={rn.s with count:=Aw.orI rn.s.count (i+1),held:=[],ended:=decide (Aw.orI rn.s.count (i+1)=3)}}:Pn.Rn) os) (AV.Imp.refl _) (by simp only [RNI,ROI,encRn,Pn.rsend_s1,Pn.rsend_e1];(repeat (first|exact .refl _|apply ItLe2.cells (by exact .here) (by repeat (first|exact .nil|refine .cons (by first|exact AV.Imp.refl _|exact Sl.imp) ?_))));done)) ⟨rfl,by rw [if_pos (by assumption)];exact⟨_,rfl,hos⟩⟩
   ·simp only [nf] at h1;refine awp_skip ?_;refine awp_region ?_;refine sM ?_;refine sM ?_;refine sZ ?_;refine sF ?_;refine sF ?_;refine sL .here ?_;refine sQ ?_;refine sZ ?_;refine sF ?_;refine sF ?_;refine st_storeN (cs':=[_,_,_,_,_,_,_,_,_,_,_,_,_,_]) (by rfl) rfl (.plain rfl) (.plain rfl) (by exact .here) (le_ rfl) (by rfl) ?_;refine aops_nil ?_;exact retG (.inl rfl) .nil (VShift.of2 (st':=RNI r o y ({rn with s:={rn.s with count:=Aw.orI rn.s.count (i+1),held:=rn.s.held,ended:=decide (Aw.orI rn.s.count (i+1)=3)}}:Pn.Rn) os) (AV.Imp.refl _) (by simp only [RNI,ROI,encRn,Pn.rsend_s1,Pn.rsend_e1];(repeat (exact .refl _));done)) ⟨rfl,by rw [if_neg (by assumption)];exact⟨_,rfl,hos⟩⟩
  ·kernel_rfl
end Go.Proofs
namespace Pn
theorem tyE_congr (e:Ex) (l l':List Bd) (h: ∀ n,(findB l n).2=(findB l' n).2∧(findB l n).1.type=(findB l' n).1.type):tyE e l=tyE e l':=by
  induction e using Ex.ind with
  |h e ih=>
   have hL: ∀ as0:List Ex,(∀ x∈as0,tyE x l=tyE x l')→tyL as0 l=tyL as0 l':=by
    intro as0;induction as0 with
    |nil=>intro _;rw [tyL,tyL]
    |cons a as0 iha=>
     intro h2;rw [tyL,tyL,h2 a (List.mem_cons_self ..),iha (fun x hx=>h2 x (List.mem_cons_of_mem _ hx))]
   rw [tyE_eq,tyE_eq e l',hL e.args ih,(h e.name).1,(h e.name).2]
theorem idxF_congr {α β:Type} (p:α→Bool) (q:β→Bool): ∀ (l:List α) (l':List β),l.map p=l'.map q→Wl.idxF p l=Wl.idxF q l':=by
  intro l l' h;unfold Wl.idxF;have:l.findIdx? p=l'.findIdx? q:=by
   induction l generalizing l' with
   |nil=>cases l' with
    |nil=>rfl
    |cons b l'=>cases h
   |cons a l ih=>cases l' with
    |nil=>cases h
    |cons b l'=>
     simp only [List.map_cons,List.cons.injEq] at h;simp only [List.findIdx?_cons,h.1,ih l' h.2]
  rw [this]
theorem bindM_names {ns:List ByteArray} {vs:List Int} (h:ns.length≤vs.length):(bindM ns vs).map (·.name)=ns:=by
  unfold bindM;refine List.ext_getElem? fun i=> ?_;rw [List.getElem?_map,List.getElem?_zipWith];rcases Nat.lt_or_ge i ns.length with h1|h1
  ·rw [List.getElem?_eq_getElem h1,List.getElem?_eq_getElem (show i<vs.length by omega)];rfl
  ·rw [List.getElem?_eq_none h1];cases vs[i]?<;>rfl
theorem bindM_type {ns:List ByteArray} {vs:List Int} {b:Bd} (h:b∈bindM ns vs):b.type=1:=by
  unfold bindM at h;obtain⟨i,hi,rfl⟩:=List.getElem_of_mem h;simp
theorem findI_bindM {ns:List ByteArray} {vs vs':List Int} (h:ns.length≤vs.length) (h':ns.length≤vs'.length) (n:ByteArray):findI (bindM ns vs) n=findI (bindM ns vs') n:=by
  unfold findI;refine idxF_congr _ _ _ _ ?_;have e: ∀ l:List Bd,l.map (fun b:Bd=>Sv.same b.name n)=(l.map (·.name)).map (fun b=>Sv.same b n):=fun l=>by rw [List.map_map];rfl
  rw [e,e,bindM_names h,bindM_names h']
theorem bindM_len {ns:List ByteArray} {vs:List Int} (h:ns.length≤vs.length):(bindM ns vs).length=ns.length:=by
  unfold bindM;rw [List.length_zipWith];omega
theorem findB_type {ns:List ByteArray} {vs:List Int} (h:ns.length≤vs.length) (n:ByteArray):(findB (bindM ns vs) n).1.type=if findI (bindM ns vs) n<0∨ns.length≤(findI (bindM ns vs) n).toNat then 0 else 1:=by
  unfold findB;split
  ·rename_i h1;rw [if_pos (.inl h1)];rfl
  ·rename_i h1;rcases Nat.lt_or_ge (findI (bindM ns vs) n).toNat ns.length with h2|h2
   ·rw [if_neg (by omega)];dsimp only;have h3:(findI (bindM ns vs) n).toNat<(bindM ns vs).length:=by rw [bindM_len h];exact h2
    rw [List.getD,List.getElem?_eq_getElem h3,Option.getD_some];exact bindM_type (List.getElem_mem _)
   ·rw [if_pos (.inr h2)];dsimp only;rw [List.getD,List.getElem?_eq_none (by rw [bindM_len h];exact h2)];rfl
theorem tyE_bindM (e:Ex) {ns:List ByteArray} {vs vs':List Int} (h:ns.length≤vs.length) (h':ns.length≤vs'.length):tyE e (bindM ns vs)=tyE e (bindM ns vs'):=by
  refine tyE_congr e _ _ fun n=>⟨?_,?_⟩
  ·unfold findB;rw [findI_bindM h h' n];split<;>rfl
  ·rw [findB_type h,findB_type h',findI_bindM h h' n]
theorem vfin_ok {p:Int×Int} (h:(vfin p).2=0):p.2=0∧vfin p=(p.1,0):=by
  unfold vfin at h ⊢;split at h
  ·cases h
  ·rename_i h1;rw [if_neg h1];split at h
   ·rename_i h2;exact absurd h h2
   ·rename_i h2;rw [if_neg h2];exact⟨Classical.not_not.1 h2,rfl⟩
theorem bound_truth {l:List Bd} (h:bound l=true) (n:ByteArray) (h2:(findB l n).1.type=2):(findB l n).1.value=0∨(findB l n).1.value=1:=by
  unfold findB at h2 ⊢;split
  ·exact .inl rfl
  ·rename_i hn;rw [if_neg hn] at h2;rcases Nat.lt_or_ge (findI l n).toNat l.length with h1|h1
   ·unfold bound at h;rw [Bool.and_eq_true,List.all_eq_true] at h;have h3:=h.1 _ (List.mem_range.2 h1);unfold badB lowB highB at h3;simp only [Bool.not_eq_true',Bool.or_eq_false_iff,decide_eq_false_iff_not] at h3;obtain⟨⟨_,h4⟩,h5⟩:=h3;dsimp only at h2 ⊢;rw [if_pos h2] at h4 h5;omega
   ·rw [List.getD,List.getElem?_eq_none (by omega)];exact .inl rfl
theorem tyL_get: ∀ (as0:List Ex) (l:List Bd),(tyL as0 l).2=0→tyL as0 l=(as0.map (fun x=>(tyE x l).1),0)∧ ∀ x∈as0,(tyE x l).2=0
  | [],l,_=>⟨by rw [tyL];rfl,fun x hx=>by cases hx⟩
  |e::r,l,h=>by
   rw [tyL] at h ⊢;split at h
   ·rename_i h1;exact absurd h h1
   ·rename_i h1;obtain⟨a,b⟩:=tyL_get r l h;rw [if_neg h1,a];refine⟨rfl,fun x hx=> ?_⟩;rcases List.mem_cons.1 hx with rfl|hx
    ·exact Classical.not_not.1 h1
    ·exact b x hx
theorem vaL_get: ∀ (as0:List Ex) (l:List Bd),(vaL as0 l).2=0→vaL as0 l=(as0.map (fun x=>(vaE x l).1),0)∧ ∀ x∈as0,(vaE x l).2=0
  | [],l,_=>⟨by rw [vaL];rfl,fun x hx=>by cases hx⟩
  |e::r,l,h=>by
   rw [vaL] at h ⊢;split at h
   ·rename_i h1;exact absurd h h1
   ·rename_i h1;obtain⟨a,b⟩:=vaL_get r l h;rw [if_neg h1,a];refine⟨rfl,fun x hx=> ?_⟩;rcases List.mem_cons.1 hx with rfl|hx
    ·exact Classical.not_not.1 h1
    ·exact b x hx
theorem b2i_01 (b:Bool):b2i b=0∨b2i b=1:=by cases b<;>decide
theorem truth_va (l:List Bd) (hb:bound l=true) (e:Ex):Vd e→(tyE e l).2=0→(tyE e l).1=2→(vaE e l).2=0→(vaE e l).1=0∨(vaE e l).1=1:=by
  induction e using Ex.ind with
  |h e ih=>
   intro hv ht0 ht hv0;obtain⟨hk,ha,_,_,hkn⟩:=chk1_ok hv.chk;rw [tyE_eq] at ht0 ht;rw [vaE_eq] at hv0 ⊢;split at ht0
   ·rename_i h1;exact absurd ht0 h1
   ·rename_i h1;rw [if_neg h1] at ht;obtain⟨t1,t2⟩:=tyL_get e.args l (Classical.not_not.1 h1);split at hv0
    ·rename_i h2;exact absurd hv0 h2
    ·rename_i h2;rw [if_neg h2];obtain⟨v1,v2⟩:=vaL_get e.args l (Classical.not_not.1 h2);obtain⟨v3,v4⟩:=vfin_ok hv0;rw [v4];rw [v1] at v3 ⊢;rw [t1] at ht0 ht;dsimp only at v3 ht0 ht ⊢;unfold vaN at v3 ⊢;split at ht0
     ·rename_i h3;rw [if_pos h3] at ht;cases ht
     ·rename_i h3;rw [if_neg h3] at ht v3 ⊢;split at ht0
      ·rename_i h4;rw [if_pos h4] at ht v3 ⊢;split at ht0
       ·cases ht0
       ·rename_i h5;rw [if_neg h5] at ht;exact bound_truth hb e.name ht
      ·rename_i h4;rw [if_neg h4] at ht v3 ⊢;split at ht0
       ·rename_i h5;rw [if_pos h5] at ht v3 ⊢;rcases Classical.em (e.op=2) with hop|hop
        ·simp only [if_pos hop] at ht0 ht v3 ⊢;split at ht0
         ·cases ht0
         ·rename_i h6;have h6':=Classical.not_not.1 h6;have hl1:=hv.two.1 h5;have hlt:0<e.args.length:=by omega
          have g1:(e.args.map (fun x=>(tyE x l).1)).getD 0 default=(tyE e.args[0] l).1:=by
           rw [List.getD,List.getElem?_map,List.getElem?_eq_getElem hlt];rfl
          have g2:(e.args.map (fun x=>(vaE x l).1)).getD 0 default=(vaE e.args[0] l).1:=by
           rw [List.getD,List.getElem?_map,List.getElem?_eq_getElem hlt];rfl
          rw [g1] at h6';have:=ih e.args[0] (List.getElem_mem _) (hv.arg (List.getElem_mem _)) (t2 _ (List.getElem_mem _)) h6' (v2 _ (List.getElem_mem _));rw [g2];omega
        ·simp only [if_neg hop] at ht;split at ht<;>cases ht
       ·rename_i h5;rw [if_neg h5] at ht v3 ⊢;split at ht0
        ·cases ht0
        ·rename_i h6;rw [if_neg h6] at ht;dsimp only at ht;have hop:7<e.op:=by
          unfold resT at ht;split at ht
          ·cases ht
          ·omega
         have hkn':=hkn (by omega);unfold opV at v3 ⊢;rw [if_neg (by omega),if_neg (by omega),if_neg (by omega),if_neg (by omega),if_neg (by omega)];repeat' split
         all_goals exact b2i_01 _
theorem evalE_ok {e:Ex} {l:List Bd} (h:(evalE e l).2=0):chkE e=0∧bound l=true∧(tyE e l).2=0∧(vaE e l).2=0∧evalE e l=vaE e l∧typeE e l=tyE e l:=by
  unfold evalE at h;split at h
  ·rename_i h1;exact absurd h h1
  ·rename_i h1;have h1':=Classical.not_not.1 h1;obtain⟨a,b⟩:=typeE_ok h1';have e1:typeE e l=tyE e l:=by unfold typeE;rw [if_neg (by omega),if_neg (by rw [b];decide)]
   refine⟨a,b,by rw [←e1];exact h1',h,by unfold evalE;rw [if_neg h1],e1⟩
theorem eval_truth {x:Sg} (hx:Sgok x) (h2:hkind x.kind=2) (a b:Int) (h:(evalE x.expr (bindM (hnames x.kind) [a,b])).2=0):(evalE x.expr (bindM (hnames x.kind) [a,b])).1=0∨(evalE x.expr (bindM (hnames x.kind) [a,b])).1=1:=by
  obtain⟨h3,h4,h5,h6,h7,h8⟩:=evalE_ok h;have hc:=hx.expr (by omega);unfold chkX at hc;rw [if_neg (by omega)] at hc;split at hc
  ·cases hc
  ·split at hc
   ·cases hc
   ·rename_i h9;have h10:(typeE x.expr (bindM (hnames x.kind) [0,0])).2=0:=by
     rcases Classical.em ((typeE x.expr (bindM (hnames x.kind) [0,0])).2=0) with h|h
     ·exact h
     ·exact absurd (.inl h) h9
    have h11:(typeE x.expr (bindM (hnames x.kind) [0,0])).1=hkind x.kind:=by
     rcases Classical.em ((typeE x.expr (bindM (hnames x.kind) [0,0])).1=hkind x.kind) with h|h
     ·exact h
     ·exact absurd (.inr h) h9
    obtain⟨c1,c2⟩:=typeE_ok h10;have e1:typeE x.expr (bindM (hnames x.kind) [0,0])=tyE x.expr (bindM (hnames x.kind) [0,0]):=by unfold typeE;rw [if_neg (by omega),if_neg (by rw [c2];decide)]
    have hl:=hnames_len x.kind;rw [e1,tyE_bindM x.expr (vs':=[a,b]) (by simpa using hl) (by simpa using hl),h2] at h11;rw [h7];exact truth_va _ h4 x.expr (chkE_vd h3).1 h5 h11 h6
end Pn
namespace Pn
structure TakeOk (y:Sg) (s:Ss) (i v:Int):Prop where
  sg:Sgok y
  val:sval y s=true
  src:y.kind=1→s.count≠y.items.length
  inp:8≤y.kind→y.kind≤9→0≤i∧i≤1
  num:num v=true
theorem rnew_out (y:Sg) (s:Ss):(rnew y s).out.length=(hout y.kind).toNat∧ ∀ l∈(rnew y s).out,l.length≤0:=by
  unfold rnew;refine⟨by simp,fun l hl=> ?_⟩;dsimp only at hl;rw [(List.mem_replicate.1 hl).2];exact Nat.le_refl _
theorem rnew_ok {y:Sg} (h:Sgok y) (hk:y.kind≠10) (s:Ss):Rok y (rnew y s):=by
  obtain⟨h1,h2⟩:=rnew_out y s;have hk2:=h.kind;have hh:1≤hout y.kind∧hout y.kind≤2:=by
   have:y.kind=1∨y.kind=2∨y.kind=3∨y.kind=4∨y.kind=5∨y.kind=6∨y.kind=7∨y.kind=8∨y.kind=9:=by omega
   rcases this with h|h|h|h|h|h|h|h|h<;>rw [h]<;>decide
  exact⟨h,by omega,by omega,fun l hl=>by have:=h2 l hl;omega⟩
theorem sval_k {y:Sg} {s:Ss} (h:Sgok y) (hv:sval y s=true):0≤s.count∧s.count≤200∧s.held.length≤199∧(y.kind=9→s.count≤3)∧(y.kind=1→s.count≤y.items.length)∧ ∀ n∈s.held,num n=true:=by
  obtain⟨a,b,c⟩:=sval_ok hv;obtain⟨d,e⟩:=sbnd_bd h;have hk:=sbnd_k y;refine⟨a.1,by omega,by omega,fun h9=> ?_,fun h1=> ?_,c⟩
  ·have:=hk.1 h9;rw [this] at a;exact a.2
  ·have:=hk.2.2.1 h1;rw [this] at a;exact a.2
end Pn
namespace Pn
theorem sneed_len (y:Sg) (s:Ss):(sneed y s).1.length≤1:=by
  unfold sneed;repeat' split
  all_goals first|exact Nat.zero_le _|exact Nat.le_refl _
theorem sneed_in {y:Sg} {s:Ss} {i:Int} (h:(sneed y s).2=0) (hk:8≤y.kind∧y.kind≤9) (hi:0≤Wl.idxI (sneed y s).1 i):0≤i∧i≤1:=by
  obtain⟨hg,hv⟩:=sneed_ok h;rw [Wl.idxI_mem] at hi;have h8:y.kind=8→0≤s.count∧s.count≤1:=fun h=>by
   have:=(sval_ok hv).1;rwa [(sbnd_k y).2.1 h] at this
  unfold sneed at hi;repeat' split at hi
  all_goals simp only [List.mem_singleton,List.not_mem_nil] at hi
  all_goals first|omega| (rename_i hx;have:=h8 hx.1;omega)| (rename_i hx;have:=h8 hx;omega)
theorem takeOk {y:Sg} {s:Ss} {i v:Int} (h:(sneed y s).2=0) (h2: ¬ (s.ended=true∨(y.kind=1∧(i≠ -1∨s.count=y.items.length))∨(y.kind≠1∧ ¬ 0≤Wl.idxI (sneed y s).1 i))) (h3: ¬ (num v=false∨(y.kind=1∧v≠0))):TakeOk y s i v:=by
  obtain⟨hg,hv⟩:=sneed_ok h;refine⟨hg,hv,fun h1 h4=>h2 (.inr (.inl ⟨h1,.inr h4⟩)),fun h8 h9=>sneed_in h ⟨h8,h9⟩ ?_,?_⟩
  ·rcases Classical.em (0≤Wl.idxI (sneed y s).1 i) with h5|h5
   ·exact h5
   ·exact absurd (.inr (.inr ⟨by omega,h5⟩)) h2
  ·cases hq:num v with
   |true=>rfl
   |false=>exact absurd (.inl hq) h3
end Pn
set_option maxRecDepth 10000
namespace Go.Proofs
open Go.Aw Wl Pn
theorem begin_c (y:Pn.Sg) (s:Pn.Ss) (hk:1≤y.kind∧y.kind≤10):ACalls Tryz.prog 63 [.agg (encSg y),.agg (encSt s)] [] (fun v st=> ∃ r o,v= .ptr r 0∧RS r o y (Pn.rnew y s) st):=by
  refine acalls_body Tryz.func63 (by kernel_rfl) rfl Tryz.ntmps63 (le_ rfl) ?_;rw [Tryz.results63];refine asr ?_;refine sB fun n1=> ?_;refine sB fun n2=> ?_;refine sA ?_;refine aops_nil ?_;refine asr ?_;refine sF ?_;refine sL k1 ?_;refine aops_call (blt_lt rfl) (.plain rfl) (.cons (.plain rfl) .nil) (ACalls.here (known_c y.kind hk) ?_);refine sM ?_;refine sE ?_;refine sE ?_;refine sC fun n5=> ?_;refine st_s (fun _=>by exact y_storeW (by rfl) rfl (.plain rfl) (.plain rfl) (by exact .here) (by rfl)) ?_;refine sA ?_;refine aops_nil ?_;refine awp_seq ?_;have hho:=(Pn.hio hk).2.1;have hhc:Pn.hout y.kind=((0:Nat):Int)∨Pn.hout y.kind=((1:Nat):Int)∨Pn.hout y.kind=((2:Nat):Int):=by omega
  rcases hhc with hq|hq|hq
  ·refine awp_anyT (ks:=[.free,.free,.free,.free,.new,.free,.new,.free]) [] (.nil _) (by kernel_rfl) (fun K=> ?_) ?_
   ·refine rW k2 ?_;refine rW k1 ?_;refine rF ?_;refine rL .here ?_;refine dr_new (fun _ _=>by exact y_makeArr (n:=0) (by rfl) (.plain rfl) (.plain rfl) hq (by decide)) rfl fun nj=> ?_;refine dr_p (fun _=>by exact y_build (out:=[_,_,_,_,_,_,_,_,_,_,_,_,_,_]) (.cons (.plain rfl) inferInstance rfl (.cons (.plain rfl) inferInstance rfl (.cons (.plain rfl) inferInstance rfl .nil))) rfl rfl) rfl ?_;refine dr_new (fun _ _=>by exact y_box (.plain rfl)) rfl fun nr=> ?_;refine rA ?_;refine dr_nil ?_;refine awp_ret ?_;exact retG (.inr rfl) (.cons (.tmp rfl) .nil) (VShift.of2 (st':=RNI nr nj y (Pn.rnew y s) []) (AV.Imp.refl _) (by simp only [RNI,ROI,encRn,Pn.rnew,List.map,List.length];(repeat (first|exact .nil _|apply ItLe2.cons (by exact .here)));done)) ⟨nr,nj,rfl,_,rfl,by unfold Pn.rnew;rw [hq];rfl⟩
   ·kernel_rfl
  ·refine awp_anyT (ks:=[.free,.free,.free,.free,.new,.free,.new,.free]) [] (.nil _) (by kernel_rfl) (fun K=> ?_) ?_
   ·refine rW k2 ?_;refine rW k1 ?_;refine rF ?_;refine rL .here ?_;refine dr_new (fun _ _=>by exact y_makeArr (n:=1) (by rfl) (.plain rfl) (.plain rfl) hq (by decide)) rfl fun nj=> ?_;refine dr_p (fun _=>by exact y_build (out:=[_,_,_,_,_,_,_,_,_,_,_,_,_,_]) (.cons (.plain rfl) inferInstance rfl (.cons (.plain rfl) inferInstance rfl (.cons (.plain rfl) inferInstance rfl .nil))) rfl rfl) rfl ?_;refine dr_new (fun _ _=>by exact y_box (.plain rfl)) rfl fun nr=> ?_;refine rA ?_;refine dr_nil ?_;refine awp_ret ?_;exact retG (.inr rfl) (.cons (.tmp rfl) .nil) (VShift.of2 (st':=RNI nr nj y (Pn.rnew y s) [(none,[])]) (AV.Imp.refl _) (by simp only [RNI,ROI,encRn,Pn.rnew,List.map,List.length];(repeat (first|exact .nil _|apply ItLe2.cons (by exact .here)|apply ItLe2.cells (by exact .here) (by repeat (first|exact .nil|refine .cons (by exact AV.Imp.nil_grow) ?_))|apply ItLe2.tail0));done)) ⟨nr,nj,rfl,_,rfl,by unfold Pn.rnew;rw [hq];rfl⟩
   ·kernel_rfl
  ·refine awp_anyT (ks:=[.free,.free,.free,.free,.new,.free,.new,.free]) [] (.nil _) (by kernel_rfl) (fun K=> ?_) ?_
   ·refine rW k2 ?_;refine rW k1 ?_;refine rF ?_;refine rL .here ?_;refine dr_new (fun _ _=>by exact y_makeArr (n:=2) (by rfl) (.plain rfl) (.plain rfl) hq (by decide)) rfl fun nj=> ?_;refine dr_p (fun _=>by exact y_build (out:=[_,_,_,_,_,_,_,_,_,_,_,_,_,_]) (.cons (.plain rfl) inferInstance rfl (.cons (.plain rfl) inferInstance rfl (.cons (.plain rfl) inferInstance rfl .nil))) rfl rfl) rfl ?_;refine dr_new (fun _ _=>by exact y_box (.plain rfl)) rfl fun nr=> ?_;refine rA ?_;refine dr_nil ?_;refine awp_ret ?_;exact retG (.inr rfl) (.cons (.tmp rfl) .nil) (VShift.of2 (st':=RNI nr nj y (Pn.rnew y s) [(none,[]),(none,[])]) (AV.Imp.refl _) (by simp only [RNI,ROI,encRn,Pn.rnew,List.map,List.length];(repeat (first|exact .nil _|apply ItLe2.cons (by exact .here)|apply ItLe2.cells (by exact .here) (by repeat (first|exact .nil|refine .cons (by exact AV.Imp.nil_grow) ?_))|apply ItLe2.tail0));done)) ⟨nr,nj,rfl,_,rfl,by unfold Pn.rnew;rw [hq];rfl⟩
   ·kernel_rfl
theorem htake_c (y:Pn.Sg) (s:Pn.Ss) (i v:Int) (h:Pn.TakeOk y s i v): ∃ (f:Nat) (caps:List AV),Fun (hTake y.kind) f caps∧ ∀ r o st0,RS r o y (Pn.rnew y s) st0→ACalls Tryz.prog f ([.ptr r 0,.int i,.int v]++caps) st0 (fun v9 st=>v9= .tup []∧RS r o y (Pn.rtake y (Pn.rnew y s) i v) st):=by
  have hk1:=Pn.sval_k h.sg h.val;have hro:y.kind≠10→Pn.Rok y (Pn.rnew y s):=fun hk=>Pn.rnew_ok h.sg hk s;rcases Pn.kinds h.sg.kind with hk|hk|hk|hk|hk|hk|hk|hk|hk|hk
  ·rw [show hTake y.kind= .val (.func (.func 123) #[] #[]) by rw [hk];rfl];refine⟨_,_,inferInstance,fun r o st0 hst=> ?_⟩;have e:=(by unfold Pn.rtake;rw [if_pos hk]:Pn.rtake y (Pn.rnew y s) i v=_)
   rw [e];exact source_c r o y _ st0 hst (hro (by omega)) ⟨hk1.1,by have:=hk1.2.2.2.2.1 hk;have:=h.src hk;show s.count<_;omega⟩ i v
  ·rw [show hTake y.kind= .val (.func (.func 124) #[] #[]) by rw [hk];rfl];refine⟨_,_,inferInstance,fun r o st0 hst=> ?_⟩;have e:=(by unfold Pn.rtake;rw [if_neg (by omega),if_pos hk]:Pn.rtake y (Pn.rnew y s) i v=_)
   rw [e];exact h3_c r o y _ st0 hst (hro (by omega)) i v
  ·rw [show hTake y.kind= .val (.func (.func 125) #[] #[]) by rw [hk];rfl];refine⟨_,_,inferInstance,fun r o st0 hst=> ?_⟩;have e:=(by unfold Pn.rtake;rw [if_neg (by omega),if_neg (by omega),if_pos hk]:Pn.rtake y (Pn.rnew y s) i v=_)
   rw [e];exact h4_c r o y _ st0 hst (hro (by omega)) i v
  ·rw [show hTake y.kind= .val (.func (.func 126) #[] #[]) by rw [hk];rfl];refine⟨_,_,inferInstance,fun r o st0 hst=> ?_⟩;have e:=(by unfold Pn.rtake;rw [if_neg (by omega),if_neg (by omega),if_neg (by omega),if_pos hk]:Pn.rtake y (Pn.rnew y s) i v=_)
   rw [e];exact batch_c r o y _ st0 hst (hro (by omega)) hk1.2.2.2.2.2 (by have:=hk1.2.2.1;show s.held.length≤500;omega) i v h.num
  ·rw [show hTake y.kind= .val (.func (.func 129) #[] #[]) by rw [hk];rfl];refine⟨_,_,inferInstance,fun r o st0 hst=> ?_⟩;have e:=(by unfold Pn.rtake;rw [if_neg (by omega),if_neg (by omega),if_neg (by omega),if_neg (by omega),if_pos hk]:Pn.rtake y (Pn.rnew y s) i v=_)
   rw [e];exact h6_c r o y _ st0 hst (hro (by omega)) i v
  ·rw [show hTake y.kind= .val (.func (.func 130) #[] #[]) by rw [hk];rfl];refine⟨_,_,inferInstance,fun r o st0 hst=> ?_⟩;have e:=(by unfold Pn.rtake;rw [if_neg (by omega),if_neg (by omega),if_neg (by omega),if_neg (by omega),if_neg (by omega),if_pos hk]:Pn.rtake y (Pn.rnew y s) i v=_)
   rw [e];exact h7_c r o y _ st0 hst (hro (by omega)) hk1.1 i v
  ·rw [show hTake y.kind= .val (.func (.func 131) #[] #[]) by rw [hk];rfl];refine⟨_,_,inferInstance,fun r o st0 hst=> ?_⟩;have e:=(by unfold Pn.rtake;rw [if_neg (by omega),if_neg (by omega),if_neg (by omega),if_neg (by omega),if_neg (by omega),if_neg (by omega),if_pos hk]:Pn.rtake y (Pn.rnew y s) i v=_)
   rw [e];exact h8_c r o y _ st0 hst (hro (by omega)) (by rw [(Pn.rnew_out y s).1,hk];rfl) v (fun h9=>Pn.eval_truth h.sg (by rw [hk];rfl) v 0 (by simpa [Pn.reval,Pn.rnew] using h9)) i
  ·rw [show hTake y.kind= .clo 133 [.eptr [.val (.func (.func 121) #[] #[])]] by rw [hk];rfl];refine⟨_,_,inferInstance,fun r o st0 hst=> ?_⟩;have e:=(by unfold Pn.rtake;rw [if_neg (by omega),if_neg (by omega),if_neg (by omega),if_neg (by omega),if_neg (by omega),if_neg (by omega),if_neg (by omega),if_pos hk]:Pn.rtake y (Pn.rnew y s) i v=_)
   rw [e];exact h9_c r o y _ st0 hst (hro (by omega)) i v (h.inp (by omega) (by omega))
  ·rw [show hTake y.kind= .val (.func (.func 134) #[] #[]) by rw [hk];rfl];refine⟨_,_,inferInstance,fun r o st0 hst=> ?_⟩;have e:=(by unfold Pn.rtake;rw [if_neg (by omega),if_neg (by omega),if_neg (by omega),if_neg (by omega),if_neg (by omega),if_neg (by omega),if_neg (by omega),if_neg (by omega),if_pos hk]:Pn.rtake y (Pn.rnew y s) i v=_)
   rw [e];exact zip_c r o y _ st0 hst (hro (by omega)) ⟨hk1.1,hk1.2.2.2.1 hk⟩ i v
  ·rw [show hTake y.kind= .val (.func (.func 136) #[] #[]) by rw [hk];rfl];refine⟨_,_,inferInstance,fun r o st0 hst=> ?_⟩;have e:=(by unfold Pn.rtake;rw [if_neg (by omega),if_neg (by omega),if_neg (by omega),if_neg (by omega),if_neg (by omega),if_neg (by omega),if_neg (by omega),if_neg (by omega),if_neg (by omega)]:Pn.rtake y (Pn.rnew y s) i v=_)
   rw [e];exact h10_c r o y _ st0 hst i v
theorem hend_c (y:Pn.Sg) (s:Pn.Ss) (i:Int) (h:Pn.Sgok y) (hv:Pn.sval y s=true) (hi:y.kind=9→0≤i∧i≤1): ∃ (f:Nat) (caps:List AV),Fun (hEnd y.kind) f caps∧ ∀ r o st0,RS r o y (Pn.rnew y s) st0→ACalls Tryz.prog f ([.ptr r 0,.int i]++caps) st0 (fun v9 st=>v9= .tup []∧RS r o y (Pn.rfin y (Pn.rnew y s) i) st):=by
  have hk1:=Pn.sval_k h hv;rcases Pn.kinds h.kind with hk|hk|hk|hk|hk|hk|hk|hk|hk|hk
  ·rw [show hEnd y.kind= .val (.func (.func 122) #[] #[]) by rw [hk];rfl];refine⟨_,_,inferInstance,fun r o st0 hst=> ?_⟩;have e:=(by unfold Pn.rfin;rw [if_neg (by omega),if_neg (by omega),if_neg (by omega)]:Pn.rfin y (Pn.rnew y s) i=_)
   rw [e];exact h2_c r o y _ st0 hst i
  ·rw [show hEnd y.kind= .val (.func (.func 122) #[] #[]) by rw [hk];rfl];refine⟨_,_,inferInstance,fun r o st0 hst=> ?_⟩;have e:=(by unfold Pn.rfin;rw [if_neg (by omega),if_neg (by omega),if_neg (by omega)]:Pn.rfin y (Pn.rnew y s) i=_)
   rw [e];exact h2_c r o y _ st0 hst i
  ·rw [show hEnd y.kind= .val (.func (.func 122) #[] #[]) by rw [hk];rfl];refine⟨_,_,inferInstance,fun r o st0 hst=> ?_⟩;have e:=(by unfold Pn.rfin;rw [if_neg (by omega),if_neg (by omega),if_neg (by omega)]:Pn.rfin y (Pn.rnew y s) i=_)
   rw [e];exact h2_c r o y _ st0 hst i
  ·rw [show hEnd y.kind= .val (.func (.func 127) #[] #[]) by rw [hk];rfl];refine⟨_,_,inferInstance,fun r o st0 hst=> ?_⟩;have e:=(by unfold Pn.rfin;rw [if_pos hk]:Pn.rfin y (Pn.rnew y s) i=_)
   rw [e];exact h5_c r o y _ st0 hst (Pn.rnew_ok h (by omega) s) hk1.2.2.2.2.2 (by have:=hk1.2.2.1;show s.held.length≤1000;omega) i
  ·rw [show hEnd y.kind= .val (.func (.func 122) #[] #[]) by rw [hk];rfl];refine⟨_,_,inferInstance,fun r o st0 hst=> ?_⟩;have e:=(by unfold Pn.rfin;rw [if_neg (by omega),if_neg (by omega),if_neg (by omega)]:Pn.rfin y (Pn.rnew y s) i=_)
   rw [e];exact h2_c r o y _ st0 hst i
  ·rw [show hEnd y.kind= .val (.func (.func 122) #[] #[]) by rw [hk];rfl];refine⟨_,_,inferInstance,fun r o st0 hst=> ?_⟩;have e:=(by unfold Pn.rfin;rw [if_neg (by omega),if_neg (by omega),if_neg (by omega)]:Pn.rfin y (Pn.rnew y s) i=_)
   rw [e];exact h2_c r o y _ st0 hst i
  ·rw [show hEnd y.kind= .val (.func (.func 122) #[] #[]) by rw [hk];rfl];refine⟨_,_,inferInstance,fun r o st0 hst=> ?_⟩;have e:=(by unfold Pn.rfin;rw [if_neg (by omega),if_neg (by omega),if_neg (by omega)]:Pn.rfin y (Pn.rnew y s) i=_)
   rw [e];exact h2_c r o y _ st0 hst i
  ·rw [show hEnd y.kind= .val (.func (.func 132) #[] #[]) by rw [hk];rfl];refine⟨_,_,inferInstance,fun r o st0 hst=> ?_⟩;have e:=(by unfold Pn.rfin;rw [if_neg (by omega),if_pos hk]:Pn.rfin y (Pn.rnew y s) i=_)
   rw [e];exact endMerge_c r o y _ st0 hst (by have:=hk1.2.2.1;show s.held.length≤500;omega) i
  ·rw [show hEnd y.kind= .val (.func (.func 135) #[] #[]) by rw [hk];rfl];refine⟨_,_,inferInstance,fun r o st0 hst=> ?_⟩;have e:=(by unfold Pn.rfin;rw [if_neg (by omega),if_neg (by omega),if_pos hk]:Pn.rfin y (Pn.rnew y s) i=_)
   rw [e];exact endZip_c r o y _ st0 hst i ⟨hk1.1,hk1.2.2.2.1 hk⟩ (hi (by omega))
  ·rw [show hEnd y.kind= .val (.func (.func 122) #[] #[]) by rw [hk];rfl];refine⟨_,_,inferInstance,fun r o st0 hst=> ?_⟩;have e:=(by unfold Pn.rfin;rw [if_neg (by omega),if_neg (by omega),if_neg (by omega)]:Pn.rfin y (Pn.rnew y s) i=_)
   rw [e];exact h2_c r o y _ st0 hst i
theorem stake_c (y:Pn.Sg) (s:Pn.Ss) (i q:Int) :ACalls Tryz.prog 152 [(AV.agg (encSg y)),(AV.agg (encSt s)),(AV.int i),(AV.int q)] [] (fun v st=>v=(AV.tup [(AV.agg (encSt ((Pn.stake y s i q).1))),(AV.sl 1 (List.map encLI ((Pn.stake y s i q).2.1))),(AV.int ((Pn.stake y s i q).2.2))])∧st=[]):=by
  refine acalls_body Tryz.func152 (by kernel_rfl) rfl Tryz.ntmps152 (le_ rfl) ?_;rw [Tryz.results152];refine asr ?_;refine sB fun n1=> ?_;refine sB fun n2=> ?_;refine sC fun n3=> ?_;refine sA ?_;refine sA ?_;refine aops_nil ?_;refine asr ?_;refine sW k2 ?_;refine sW k1 ?_;refine aops_call (blt_lt rfl) (.plain rfl) (.cons (.imp (.plain rfl) (AV.Imp.agg (RowOf.imp (enc:=encSg)))) (.cons (.imp (.plain rfl) (AV.Imp.agg (RowOf.imp (enc:=encSt)))) .nil)) (ACalls.here (sneed_c y s) ?_);refine sM ?_;refine sE ?_;refine sE ?_;refine sA ?_;refine sA ?_;refine aops_nil ?_;refine awp_seq ?_;refine asr ?_;refine sM ?_;refine sR ?_;refine aops_nil ?_;refine awp_cond rfl (fun h1=> ?_) (fun h1=> ?_)
  ·simp only [nf] at h1;refine asr ?_;refine st_p (fun _=>by exact y_build (out:=[_,_,_]) .nil rfl rfl) rfl ?_;refine sM ?_;refine st_s (fun _=>by exact y_storeW (by rfl) rfl (.plain rfl) (.plain rfl) (by exact .here) (by rfl)) ?_;refine sA ?_;refine sA ?_;refine aops_nil ?_;refine awp_ret ?_;refine retG (.inr rfl) (.cons (res_cellW rfl (by exact .here) (by rfl)) (.cons (.tmp rfl) (.cons (.tmp rfl) .nil))) (VShift.of2 (AV.Imp.tup (.cons (AV.Imp.agg (RowOf.imp (enc:=encSt))) (.cons (Sl.imp (enc:=encLI)) (.cons (AV.Imp.refl _) .nil)))) (.nil _)) ⟨congrArg (fun x:(Pn.Ss)×(List (List Int))×(Int)=>(AV.tup [(AV.agg (encSt x.1)),(AV.sl 1 (List.map encLI x.2.1)),(AV.int x.2.2)])) (show (_,_,_)=(Pn.stake y s i q) from ?_),rfl⟩;rw [Pn.stake,if_pos (by assumption)];all_goals rfl
  ·simp only [nf] at h1;refine awp_skip ?_;refine asr ?_;refine sF ?_;refine sL k2 ?_;refine sQ ?_;refine sA ?_;refine aops_nil ?_;refine awp_seq ?_;refine asr ?_;refine sF ?_;refine sL k1 ?_;refine sM ?_;refine gM ?_;refine gM0 ?_;refine gM ?_;refine gR0 ?_;refine gM0 ?_;refine gF ?_;refine gL0 k1 ?_;refine gF ?_;refine gL0 k2 ?_;refine gN0 ?_;refine gQ01 ?_;refine st_g rfl rfl rfl SaysI.out (fun hc _=>by exact y_or' hc (.opt rfl hc) rfl rfl) rfl ?_;refine st_g rfl rfl rfl SaysI.out (fun hc _=>by exact y_and' hc (.opt rfl hc) rfl rfl) rfl ?_;refine sK ?_;refine sM ?_;refine gM ?_;refine gO0 ?_;refine gM0 ?_;refine gM ?_;refine gM ?_;refine st_g rfl rfl rfl SaysI.out (fun hc _=>by exact y_call (.plain rfl) (.cons (.imp (.opt rfl hc) (Sl.imp (enc:=Go.Aw.encI))) (.cons (.opt rfl hc) .nil)) (ACalls.pure (containsI_c _ _ (by have:=Pn.sneed_len y s;omega)))) rfl ?_;refine gO0 ?_;refine st_g rfl rfl rfl SaysI.out (fun hc _=>by exact y_and' hc (.opt rfl hc) rfl rfl) rfl ?_;refine sK ?_;refine aops_nil ?_;refine awp_cond rfl (fun h2=> ?_) (fun h2=> ?_)
   ·simp only [nf] at h2;have hc1:s.ended=true∨(y.kind=1∧(i≠ -1∨s.count=y.items.length))∨(y.kind≠1∧ ¬ 0≤Wl.idxI (Pn.sneed y s).1 i):=or_assoc.1 h2;refine asr ?_;refine st_p (fun _=>by exact y_build (out:=[_,_,_]) .nil rfl rfl) rfl ?_;refine st_s (fun _=>by exact y_storeW (by rfl) rfl (.plain rfl) (.plain rfl) (by exact .here) (by rfl)) ?_;refine sA ?_;refine sA ?_;refine aops_nil ?_;refine awp_ret ?_;refine retG (.inr rfl) (.cons (res_cellW rfl (by exact .here) (by rfl)) (.cons (.tmp rfl) (.cons (.tmp rfl) .nil))) (VShift.of2 (AV.Imp.tup (.cons (AV.Imp.agg (RowOf.imp (enc:=encSt))) (.cons (Sl.imp (enc:=encLI)) (.cons (AV.Imp.refl _) .nil)))) (.nil _)) ⟨congrArg (fun x:(Pn.Ss)×(List (List Int))×(Int)=>(AV.tup [(AV.agg (encSt x.1)),(AV.sl 1 (List.map encLI x.2.1)),(AV.int x.2.2)])) (show (_,_,_)=(Pn.stake y s i q) from ?_),rfl⟩;rw [Pn.stake,if_neg (by omega),if_pos hc1];all_goals rfl
   ·simp only [nf] at h2;have hc1: ¬ (s.ended=true∨(y.kind=1∧(i≠ -1∨s.count=y.items.length))∨(y.kind≠1∧ ¬ 0≤Wl.idxI (Pn.sneed y s).1 i)):=by
     rintro (a|⟨a,b⟩|⟨a,b⟩)
     ·rw [h2.1.1] at a;cases a
     ·rcases h2.1.2 with c|⟨c,d⟩
      ·exact c a
      ·exact b.elim (fun e=>e c) d
     ·rcases h2.2 with c|c
      ·exact a c
      ·exact b c
    refine awp_skip ?_;refine awp_seq ?_;refine asr ?_;refine sM ?_;refine aops_call (blt_lt rfl) (.plain rfl) (.cons (.plain rfl) .nil) (ACalls.here (num_c q) ?_);refine sO ?_;refine sM ?_;refine gM ?_;refine gM0 ?_;refine gM ?_;refine gR0 ?_;refine st_g rfl rfl rfl SaysI.out (fun hc _=>by exact y_and' hc (.opt rfl hc) rfl rfl) rfl ?_;refine sK ?_;refine aops_nil ?_;refine awp_cond rfl (fun h3=> ?_) (fun h3=> ?_)
    ·simp only [nf] at h3;have hc2:Pn.num q=false∨(y.kind=1∧q≠0):=h3;refine asr ?_;refine st_p (fun _=>by exact y_build (out:=[_,_,_]) .nil rfl rfl) rfl ?_;refine st_s (fun _=>by exact y_storeW (by rfl) rfl (.plain rfl) (.plain rfl) (by exact .here) (by rfl)) ?_;refine sA ?_;refine sA ?_;refine aops_nil ?_;refine awp_ret ?_;refine retG (.inr rfl) (.cons (res_cellW rfl (by exact .here) (by rfl)) (.cons (.tmp rfl) (.cons (.tmp rfl) .nil))) (VShift.of2 (AV.Imp.tup (.cons (AV.Imp.agg (RowOf.imp (enc:=encSt))) (.cons (Sl.imp (enc:=encLI)) (.cons (AV.Imp.refl _) .nil)))) (.nil _)) ⟨congrArg (fun x:(Pn.Ss)×(List (List Int))×(Int)=>(AV.tup [(AV.agg (encSt x.1)),(AV.sl 1 (List.map encLI x.2.1)),(AV.int x.2.2)])) (show (_,_,_)=(Pn.stake y s i q) from ?_),rfl⟩;rw [Pn.stake,if_neg (by omega),if_neg hc1,if_pos hc2];all_goals rfl
    ·simp only [nf] at h3;have hc2: ¬ (Pn.num q=false∨(y.kind=1∧q≠0)):=by
      rintro (a|⟨a,b⟩)
      ·rw [h3.1] at a;cases a
      ·rcases h3.2 with c|c
       ·exact c a
       ·exact b c
     refine awp_skip ?_;refine awp_seq ?_;have htk:=Pn.takeOk (by omega) hc1 hc2;have hsg:=htk.sg;obtain⟨f9,caps9,hF9,hcall⟩:=htake_c y s i q htk;refine awp_region ?_;refine sF ?_;refine sL k2 ?_;refine aops_call (blt_lt rfl) (.plain rfl) (.cons (.plain rfl) .nil) (ACalls.here (known_c y.kind hsg.kind) ?_);refine sM ?_;refine sE ?_;refine sE ?_;refine sC fun n4=> ?_;refine st_s (fun _=>by exact y_storeW (by rfl) rfl (.plain rfl) (.plain rfl) (by exact .here) (by rfl)) ?_;refine sA ?_;refine aops_nil ?_;refine asr ?_;refine sW k3 ?_;refine sW k2 ?_;refine aops_call (blt_lt rfl) (.plain rfl) (.cons (.plain rfl) (.cons (.plain rfl) .nil)) (ACalls.frame (st1:=[]) (begin_c y s hsg.kind) (List.Perm.refl _) ?_);rintro v9 st ⟨r,o,rfl,hrs⟩;refine aops_weak (Weak.perm List.perm_append_comm) ?_;refine sA ?_;refine aops_nil ?_;refine asr ?_;refine sF ?_;refine sL .here ?_;refine sM ?_;refine sM ?_;refine sM ?_;refine aops_call (blt_lt rfl) (.plain rfl) (.cons (.plain rfl) (.cons (.plain rfl) (.cons (.plain rfl) .nil))) (ACalls.frame (st1:=st) (hcall r o st hrs) List.perm_append_comm ?_);rintro v9 st9 ⟨rfl,os,rfl,hos⟩;refine aops_weak (Weak.perm List.perm_append_comm) ?_;refine aops_nil ?_;refine awp_seq ?_;refine asr ?_;refine sM ?_;refine sZ ?_;refine sF ?_;refine sL k4 ?_;refine sR ?_;refine aops_nil ?_;refine awp_cond rfl (fun h4=> ?_) (fun h4=> ?_)
     ·simp only [nf] at h4;refine awp_seq ?_;refine awp_anyT (ks:=[.free,.free,.free,.free,.free,.write,.free,.free]) [.cells n3 _] (by apply Takes.cons (by exact k1);exact .nil _) (by kernel_rfl) (fun K=> ?_) ?_
      ·refine dr_p (fun _=>by exact y_build (out:=[_,_,_]) .nil rfl rfl) rfl ?_;refine rM ?_;refine rZ ?_;refine rF ?_;refine rL k3 ?_;refine dr_s (fun _=>by exact y_storeW (by rfl) rfl (.plain rfl) (.plain rfl) (by exact .here) (by rfl)) ?_;refine rA ?_;refine rA ?_;refine dr_nil ?_;refine awp_ret ?_;refine retG (.inr rfl) (.cons (res_cellW rfl (by exact .here) (by rfl)) (.cons (.tmp rfl) (.cons (.tmp rfl) .nil))) (VShift.of2 (AV.Imp.tup (.cons (AV.Imp.agg (RowOf.imp (enc:=encSt))) (.cons (Sl.imp (enc:=encLI)) (.cons (AV.Imp.refl _) .nil)))) (.nil _)) ⟨congrArg (fun x:(Pn.Ss)×(List (List Int))×(Int)=>(AV.tup [(AV.agg (encSt x.1)),(AV.sl 1 (List.map encLI x.2.1)),(AV.int x.2.2)])) (show (_,_,_)=(Pn.stake y s i q) from ?_),rfl⟩;rw [Pn.stake,if_neg (by omega),if_neg hc1,if_neg hc2,if_pos (by assumption)];all_goals rfl
      ·kernel_rfl
     ·simp only [nf] at h4;refine awp_skip ?_;refine awp_seq ?_;refine awp_weak (Weak.outs (i:=11) hos rfl) ?_;refine awp_anyT (ks:=[.free,.free,.free,.free,.free,.free,.free,.free,.write,.free,.free]) [.cells n3 _] (by apply Takes.cons (by exact k2);exact .nil _) (by kernel_rfl) (fun K=> ?_) ?_
      ·refine rM ?_;refine rZ ?_;refine rF ?_;refine dr_p (fun _=>by exact y_loadAggN (cs':=[_,_,_]) (.plain rfl) (by exact .here) (le_ rfl) (by rfl)) rfl ?_;refine rM ?_;refine rZ ?_;refine rF ?_;refine rL .here ?_;refine dr_s (fun _=>by exact y_storeW (by rfl) rfl (.plain rfl) (.plain rfl) (by exact .here) (by rfl)) ?_;refine rA ?_;refine rA ?_;refine dr_nil ?_;refine awp_ret ?_;refine retG (.inr rfl) (.cons (res_cellW rfl (by exact .here) (by rfl)) (.cons (.tmp rfl) (.cons (.tmp rfl) .nil))) (VShift.of2 (AV.Imp.tup (.cons (AV.Imp.agg (RowOf.imp (enc:=encSt))) (.cons (Sl.imp (enc:=encLI)) (.cons (AV.Imp.refl _) .nil)))) (.nil _)) ⟨congrArg (fun x:(Pn.Ss)×(List (List Int))×(Int)=>(AV.tup [(AV.agg (encSt x.1)),(AV.sl 1 (List.map encLI x.2.1)),(AV.int x.2.2)])) (show (_,_,_)=(Pn.stake y s i q) from ?_),rfl⟩;rw [Pn.stake,if_neg (by omega),if_neg hc1,if_neg hc2,if_neg (fun h=>h (by assumption))];all_goals rfl
      ·kernel_rfl
theorem sfin_c (y:Pn.Sg) (s:Pn.Ss) (i:Int) :ACalls Tryz.prog 151 [(AV.agg (encSg y)),(AV.agg (encSt s)),(AV.int i)] [] (fun v st=>v=(AV.tup [(AV.agg (encSt ((Pn.sfin y s i).1))),(AV.sl 1 (List.map encLI ((Pn.sfin y s i).2.1))),(AV.bool ((Pn.sfin y s i).2.2.1)),(AV.int ((Pn.sfin y s i).2.2.2))])∧st=[]):=by
  refine acalls_body Tryz.func151 (by kernel_rfl) rfl Tryz.ntmps151 (le_ rfl) ?_;rw [Tryz.results151];refine asr ?_;refine sB fun n1=> ?_;refine sB fun n2=> ?_;refine sC fun n3=> ?_;refine sA ?_;refine sA ?_;refine sA ?_;refine aops_nil ?_;refine awp_seq ?_;refine asr ?_;refine sW k2 ?_;refine sW k1 ?_;refine aops_call (blt_lt rfl) (.plain rfl) (.cons (.imp (.plain rfl) (AV.Imp.agg (RowOf.imp (enc:=encSg)))) (.cons (.imp (.plain rfl) (AV.Imp.agg (RowOf.imp (enc:=encSt)))) .nil)) (ACalls.here (sneed_c y s) ?_);refine sM ?_;refine sE ?_;refine sE ?_;refine sA ?_;refine sA ?_;refine aops_nil ?_;refine asr ?_;refine sM ?_;refine sR ?_;refine aops_nil ?_;refine awp_cond rfl (fun h1=> ?_) (fun h1=> ?_)
  ·simp only [nf] at h1;refine asr ?_;refine st_p (fun _=>by exact y_build (out:=[_,_,_]) .nil rfl rfl) rfl ?_;refine sM ?_;refine st_s (fun _=>by exact y_storeW (by rfl) rfl (.plain rfl) (.plain rfl) (by exact .here) (by rfl)) ?_;refine sA ?_;refine sA ?_;refine sA ?_;refine aops_nil ?_;refine awp_ret ?_;refine retG (.inr rfl) (.cons (res_cellW rfl (by exact .here) (by rfl)) (.cons (.tmp rfl) (.cons (.tmp rfl) (.cons (.tmp rfl) .nil)))) (VShift.of2 (AV.Imp.tup (.cons (AV.Imp.agg (RowOf.imp (enc:=encSt))) (.cons (Sl.imp (enc:=encLI)) (.cons (AV.Imp.refl _) (.cons (AV.Imp.refl _) .nil))))) (.nil _)) ⟨congrArg (fun x:(Pn.Ss)×(List (List Int))×(Bool)×(Int)=>(AV.tup [(AV.agg (encSt x.1)),(AV.sl 1 (List.map encLI x.2.1)),(AV.bool x.2.2.1),(AV.int x.2.2.2)])) (show (_,_,_,_)=(Pn.sfin y s i) from ?_),rfl⟩;rw [Pn.sfin,if_pos (by assumption)];all_goals rfl
  ·simp only [nf] at h1;refine awp_skip ?_;refine awp_seq ?_;obtain⟨hsg,hsv⟩:=Pn.sneed_ok (x:=y) (s:=s) (by omega);have hk1:=Pn.sval_k hsg hsv;refine awp_region ?_;refine sF ?_;refine sL k2 ?_;refine aops_call (blt_lt rfl) (.plain rfl) (.cons (.plain rfl) .nil) (ACalls.here (known_c y.kind hsg.kind) ?_);refine sM ?_;refine sE ?_;refine sE ?_;refine sC fun n4=> ?_;refine st_s (fun _=>by exact y_storeW (by rfl) rfl (.plain rfl) (.plain rfl) (by exact .here) (by rfl)) ?_;refine sA ?_;refine aops_nil ?_;refine asr ?_;refine sF ?_;refine sL k3 ?_;refine sQ ?_;refine sA ?_;refine aops_nil ?_;refine awp_seq ?_;refine asr ?_;refine sM ?_;refine sM ?_;refine gM ?_;refine gR0 ?_;refine sJ ?_;refine sM ?_;refine gM ?_;refine gO0 ?_;refine gM0 ?_;refine gM ?_;refine gS0 ?_;refine gM0 ?_;refine gM ?_;refine gF ?_;refine gL0 .here ?_;refine st_g rfl rfl rfl SaysI.out (fun hc _=>by exact y_geq (.opt rfl hc) (.opt rfl hc)) rfl ?_;refine st_g rfl rfl rfl SaysI.out (fun hc _=>by exact y_or' hc (.opt rfl hc) rfl rfl) rfl ?_;refine st_g rfl rfl rfl SaysI.out (fun hc _=>by exact y_and' hc (.opt rfl hc) rfl rfl) rfl ?_;refine sK ?_;refine aops_nil ?_;refine awp_cond rfl (fun h2=> ?_) (fun h2=> ?_)
   ·simp only [nf] at h2;have hc1:(y.kind=1∧i≠ -1)∨(y.kind≠1∧(i<0∨Pn.hin y.kind≤i)):=h2;refine asr ?_;refine st_p (fun _=>by exact y_build (out:=[_,_,_]) .nil rfl rfl) rfl ?_;refine st_s (fun _=>by exact y_storeW (by rfl) rfl (.plain rfl) (.plain rfl) (by exact u1) (by rfl)) ?_;refine sA ?_;refine sA ?_;refine sA ?_;refine aops_nil ?_;refine awp_ret ?_;refine retG (.inr rfl) (.cons (res_cellW rfl (by exact k1) (by rfl)) (.cons (.tmp rfl) (.cons (.tmp rfl) (.cons (.tmp rfl) .nil)))) (VShift.of2 (AV.Imp.tup (.cons (AV.Imp.agg (RowOf.imp (enc:=encSt))) (.cons (Sl.imp (enc:=encLI)) (.cons (AV.Imp.refl _) (.cons (AV.Imp.refl _) .nil))))) (.nil _)) ⟨congrArg (fun x:(Pn.Ss)×(List (List Int))×(Bool)×(Int)=>(AV.tup [(AV.agg (encSt x.1)),(AV.sl 1 (List.map encLI x.2.1)),(AV.bool x.2.2.1),(AV.int x.2.2.2)])) (show (_,_,_,_)=(Pn.sfin y s i) from ?_),rfl⟩;rw [Pn.sfin,if_neg (by omega),if_pos hc1];all_goals rfl
   ·simp only [nf] at h2;have hc1: ¬ ((y.kind=1∧i≠ -1)∨(y.kind≠1∧(i<0∨Pn.hin y.kind≤i))):=by
     rintro (⟨a,b⟩|⟨a,b⟩)
     ·rcases h2.1 with c|c
      ·exact c a
      ·exact b c
     ·rcases h2.2 with c|c
      ·exact a c
      ·omega
    have hi9:y.kind≠1→0≤i∧i≤1:=fun h9=>by
     have:=(Pn.hio hsg.kind).1;have h8: ¬ (i<0∨Pn.hin y.kind≤i):=fun h7=>hc1 (.inr ⟨h9,h7⟩);omega
    refine awp_skip ?_;refine awp_seq ?_;refine asr ?_;refine sF ?_;refine sL k2 ?_;refine sM ?_;refine gM ?_;refine gO0 ?_;refine gM0 ?_;refine gW k3 ?_;refine gW k2 ?_;refine gM ?_;refine st_g rfl rfl rfl SaysI.out (fun hc _=>by exact y_call (.plain rfl) (.cons (.imp (.opt rfl hc) (AV.Imp.agg (RowOf.imp (enc:=encSg)))) (.cons (.imp (.opt rfl hc) (AV.Imp.agg (RowOf.imp (enc:=encSt)))) (.cons (.opt rfl hc) .nil))) (ACalls.pure (sended_c y s i (fun h9=>⟨⟨hk1.1,hk1.2.2.2.1 h9⟩,hi9 (by omega)⟩) (by omega)))) rfl ?_;refine st_g rfl rfl rfl SaysI.out (fun hc _=>by exact y_and' hc (.opt rfl hc) rfl rfl) rfl ?_;refine sK ?_;refine aops_nil ?_;refine awp_cond rfl (fun h3=> ?_) (fun h3=> ?_)
    ·simp only [nf] at h3;have hc2:s.ended=true∨(y.kind≠1∧Pn.sended y s i=true):=h3;refine asr ?_;refine st_p (fun _=>by exact y_build (out:=[_,_,_]) .nil rfl rfl) rfl ?_;refine st_s (fun _=>by exact y_storeW (by rfl) rfl (.plain rfl) (.plain rfl) (by exact u1) (by rfl)) ?_;refine sA ?_;refine sA ?_;refine sA ?_;refine aops_nil ?_;refine awp_ret ?_;refine retG (.inr rfl) (.cons (res_cellW rfl (by exact k1) (by rfl)) (.cons (.tmp rfl) (.cons (.tmp rfl) (.cons (.tmp rfl) .nil)))) (VShift.of2 (AV.Imp.tup (.cons (AV.Imp.agg (RowOf.imp (enc:=encSt))) (.cons (Sl.imp (enc:=encLI)) (.cons (AV.Imp.refl _) (.cons (AV.Imp.refl _) .nil))))) (.nil _)) ⟨congrArg (fun x:(Pn.Ss)×(List (List Int))×(Bool)×(Int)=>(AV.tup [(AV.agg (encSt x.1)),(AV.sl 1 (List.map encLI x.2.1)),(AV.bool x.2.2.1),(AV.int x.2.2.2)])) (show (_,_,_,_)=(Pn.sfin y s i) from ?_),rfl⟩;rw [Pn.sfin,if_neg (by omega),if_neg hc1,if_pos hc2];all_goals rfl
    ·simp only [nf] at h3;have hc2: ¬ (s.ended=true∨(y.kind≠1∧Pn.sended y s i=true)):=by
      rintro (a|⟨a,b⟩)
      ·rw [h3.1] at a;cases a
      ·rcases h3.2 with c|c
       ·exact a c
       ·rw [c] at b;cases b
     refine awp_skip ?_;refine awp_seq ?_;obtain⟨f9,caps9,hF9,hcall⟩:=hend_c y s i hsg hsv (fun h9=>hi9 (by omega));refine awp_region ?_;refine sW k3 ?_;refine sW k2 ?_;refine aops_call (blt_lt rfl) (.plain rfl) (.cons (.plain rfl) (.cons (.plain rfl) .nil)) (ACalls.frame (st1:=[]) (begin_c y s hsg.kind) (List.Perm.refl _) ?_);rintro v9 st ⟨r,o,rfl,hrs⟩;refine aops_weak (Weak.perm List.perm_append_comm) ?_;refine sA ?_;refine aops_nil ?_;refine asr ?_;refine sF ?_;refine sL .here ?_;refine sM ?_;refine sM ?_;refine aops_call (blt_lt rfl) (.plain rfl) (.cons (.plain rfl) (.cons (.plain rfl) .nil)) (ACalls.frame (st1:=st) (hcall r o st hrs) List.perm_append_comm ?_);rintro v9 st9 ⟨rfl,os,rfl,hos⟩;refine aops_weak (Weak.perm List.perm_append_comm) ?_;refine aops_nil ?_;refine awp_seq ?_;refine asr ?_;refine sM ?_;refine sZ ?_;refine sF ?_;refine sL k4 ?_;refine sR ?_;refine aops_nil ?_;refine awp_cond rfl (fun h4=> ?_) (fun h4=> ?_)
     ·simp only [nf] at h4;refine awp_seq ?_;refine awp_anyT (ks:=[.free,.free,.free,.free,.free,.write,.free,.free,.free]) [.cells n3 _] (by apply Takes.cons (by exact k1);exact .nil _) (by kernel_rfl) (fun K=> ?_) ?_
      ·refine dr_p (fun _=>by exact y_build (out:=[_,_,_]) .nil rfl rfl) rfl ?_;refine rM ?_;refine rZ ?_;refine rF ?_;refine rL k3 ?_;refine dr_s (fun _=>by exact y_storeW (by rfl) rfl (.plain rfl) (.plain rfl) (by exact .here) (by rfl)) ?_;refine rA ?_;refine rA ?_;refine rA ?_;refine dr_nil ?_;refine awp_ret ?_;refine retG (.inr rfl) (.cons (res_cellW rfl (by exact .here) (by rfl)) (.cons (.tmp rfl) (.cons (.tmp rfl) (.cons (.tmp rfl) .nil)))) (VShift.of2 (AV.Imp.tup (.cons (AV.Imp.agg (RowOf.imp (enc:=encSt))) (.cons (Sl.imp (enc:=encLI)) (.cons (AV.Imp.refl _) (.cons (AV.Imp.refl _) .nil))))) (.nil _)) ⟨congrArg (fun x:(Pn.Ss)×(List (List Int))×(Bool)×(Int)=>(AV.tup [(AV.agg (encSt x.1)),(AV.sl 1 (List.map encLI x.2.1)),(AV.bool x.2.2.1),(AV.int x.2.2.2)])) (show (_,_,_,_)=(Pn.sfin y s i) from ?_),rfl⟩;rw [Pn.sfin,if_neg (by omega),if_neg hc1,if_neg hc2,if_pos (by assumption)];all_goals rfl
      ·kernel_rfl
     ·simp only [nf] at h4;refine awp_skip ?_;refine awp_seq ?_;refine awp_weak (Weak.outs (i:=11) hos rfl) ?_;refine awp_anyT (ks:=[.free,.free,.free,.free,.free,.free,.free,.free,.free,.free,.free,.free,.free,.write,.free,.free,.free]) [.cells n3 _] (by apply Takes.cons (by exact k2);exact .nil _) (by kernel_rfl) (fun K=> ?_) ?_
      ·refine rM ?_;refine rZ ?_;refine rF ?_;refine dr_p (fun _=>by exact y_loadAggN (cs':=[_,_,_]) (.plain rfl) (by exact .here) (le_ rfl) (by rfl)) rfl ?_;refine rM ?_;refine rZ ?_;refine rF ?_;refine rL .here ?_;refine rM ?_;refine rZ ?_;refine rF ?_;refine rF ?_;refine rL .here ?_;refine dr_s (fun _=>by exact y_storeW (by rfl) rfl (.plain rfl) (.plain rfl) (by exact .here) (by rfl)) ?_;refine rA ?_;refine rA ?_;refine rA ?_;refine dr_nil ?_;refine awp_ret ?_;refine retG (.inr rfl) (.cons (res_cellW rfl (by exact .here) (by rfl)) (.cons (.tmp rfl) (.cons (.tmp rfl) (.cons (.tmp rfl) .nil)))) (VShift.of2 (AV.Imp.tup (.cons (AV.Imp.agg (RowOf.imp (enc:=encSt))) (.cons (Sl.imp (enc:=encLI)) (.cons (AV.Imp.refl _) (.cons (AV.Imp.refl _) .nil))))) (.nil _)) ⟨congrArg (fun x:(Pn.Ss)×(List (List Int))×(Bool)×(Int)=>(AV.tup [(AV.agg (encSt x.1)),(AV.sl 1 (List.map encLI x.2.1)),(AV.bool x.2.2.1),(AV.int x.2.2.2)])) (show (_,_,_,_)=(Pn.sfin y s i) from ?_),rfl⟩;rw [Pn.sfin,if_neg (by omega),if_neg hc1,if_neg hc2,if_neg (fun h=>h (by assumption))];all_goals rfl
      ·kernel_rfl
end Go.Proofs
namespace Go.Aw
def ec (m:Nat) (f:Int→Int):List AV:=(List.range m).map (fun (j:Nat)=>AV.int (f (j:Int)))
theorem ec_len (m:Nat) (f:Int→Int):(ec m f).length=m:=by simp [ec]
theorem ec_congr {m:Nat} {f g:Int→Int} (h: ∀ j:Int,0≤j∧j<m→f j=g j):ec m f=ec m g:=by
  unfold ec;refine List.map_congr_left fun j hj=> ?_;have:=List.mem_range.1 hj;rw [h j (by omega)]
theorem ec_make (m:Nat):(List.replicate m (List.map AV.val [Value.int .i64 0])).flatten=ec m (fun _=>0):=by
  refine List.ext_getElem (by simp [List.length_flatten,ec]) fun i h1 h2=> ?_;simp [ec] at h1 h2 ⊢
theorem ec_get {m:Nat} (f:Int→Int) {t:Int} (h:0≤t∧t<m):(ec m f)[0+t.toNat*1]?=some (AV.int (f t)):=by
  rw [Nat.zero_add,Nat.mul_one,ec,List.getElem?_map,List.getElem?_range (by omega)];rw [Option.map_some,Int.toNat_of_nonneg h.1]
theorem ec_getN {m:Nat} (f:Int→Int) {t:Nat} (h:t<m):(ec m f)[0+t*1]?=some (AV.int (f t)):=by
  rw [Nat.zero_add,Nat.mul_one,ec,List.getElem?_map,List.getElem?_range h];rfl
theorem ec_set {m:Nat} (f:Int→Int) {t:Int} (v:Int) (h:0≤t∧t<m):setMany (ec m f) (0+t.toNat*1) [AV.int v]=ec m (fun j=>if j=t then v else f j):=by
  rw [Nat.zero_add,Nat.mul_one];have hl:(setMany (ec m f) t.toNat [AV.int v]).length=m:=by rw [setMany_len (by simp [ec_len];omega),ec_len]
  refine List.ext_getElem? fun j=> ?_;rcases Nat.lt_or_ge j m with hj|hj
  ·have e1:=ec_getN (fun j=>if j=t then v else f j) hj;have e0:=ec_getN f hj;rw [Nat.zero_add,Nat.mul_one] at e1 e0;rw [e1];have hn:(List.take t.toNat (ec m f)).length=t.toNat:=by rw [List.length_take,ec_len];omega
   unfold setMany;rcases Nat.lt_trichotomy j t.toNat with h1|h1|h1
   ·rw [List.append_assoc,List.getElem?_append_left (by omega),List.getElem?_take_of_lt h1,e0,if_neg (by omega)]
   ·subst h1;rw [List.append_assoc,List.getElem?_append_right (by omega),hn,Nat.sub_self,if_pos (by omega)];rfl
   ·rw [List.getElem?_append_right (by simp only [List.length_append,hn,List.length_singleton];omega)];simp only [List.length_append,hn,List.length_singleton,List.getElem?_drop];rw [show t.toNat+1+(j - (t.toNat+1))=j by omega,e0,if_neg (by omega)]
  ·rw [List.getElem?_eq_none (by omega),List.getElem?_eq_none (by simp [ec_len];omega)]
end Go.Aw
namespace Pn
open Sv (win)
def outB (i n:Int) (y:Pp):Bool:=decide (y.from_=i) && decide (y.output=n)
def inB (i n:Int) (y:Pp):Bool:=decide (y.to_=i) && decide (y.input=n)
def outP (x:Pl) (i n:Int):Int:=Wl.idxF (outB i n) x.pipes
def inP (x:Pl) (i n:Int):Int:=Wl.idxF (inB i n) x.pipes
def stg (x:Pl) (i:Int):Sg:=x.stages.getD i.toNat default
def sst (s:Fs) (i:Int):Ss:=s.stages.getD i.toNat default
def crd (s:Fs) (k:Int):Cr:=s.credits.getD k.toNat default
def pip (x:Pl) (k:Nat):Pp:=x.pipes.getD k default
def pbad (x:Pl) (y:Pp):Bool:=
  !win y.from_ 0 (x.stages.length - 1)|| !win y.to_ 0 (x.stages.length - 1)|| !win y.output 0 (sout (stg x y.from_) - 1)|| !win y.input 0 (sinp (stg x y.to_) - 1)|| !win y.capacity 1 100
def chkP (x:Pl) (k:Nat):Int:=
  if pbad x (pip x k)=true then 2
  else if outP x (pip x k).from_ (pip x k).output<k∨inP x (pip x k).to_ (pip x k).input<k then 6
  else if (stg x (pip x k).from_).kind=5∧(pip x k).capacity<(stg x (pip x k).from_).size then 2 else 0
def upd (g:Int→Int) (a b:Int) (m:Int):Int→Int:=fun j=>if j<m∧g j=b then a else g j
def circF (n:Int):List Pp→(Int→Int)→Bool
  | [],_=>false
  |y::l,g=>if g y.from_=g y.to_ then true else circF n l (upd g (g y.from_) (g y.to_) n)
def circ (x:Pl):Bool:=circF x.stages.length x.pipes (fun j=>j)
def ends (l:List Sg):Int:=(l.map fun s=>sinp s+sout s).sum
def fst0:List Int→Int
  | []=>0
  |e::l=>if e≠0 then e else fst0 l
def stgE (x:Pl):Int:=fst0 (x.stages.map sgchk)
def pipE (x:Pl):Int:=fst0 ((List.range x.pipes.length).map (chkP x))
def pchk (x:Pl):Int:=
  if win x.stages.length 1 16=false then 4
  else if stgE x≠0 then stgE x
  else if 32<x.pipes.length then 4
  else if pipE x≠0 then pipE x
  else if ends x.stages≠2*x.pipes.length then 10
  else if circ x=true then 21 else 0
def snk (l:List Sg):Int:=((l.filter fun s=>decide (s.kind=10)).length:Nat)
def cr0 (c:Int):Cr:=(creq (cnew c).1 c).1
def pnew (x:Pl):Fs×Int:=
  if pchk x≠0 then (F0,pchk x)
  else (⟨List.replicate x.stages.length S0,x.pipes.map (fun y=>cr0 y.capacity),List.replicate (snk x.stages).toNat [],false⟩,0)
def notedM (y:Sg) (t:Ss):List Int:=
  if y.kind=8 then t.held
  else if y.kind=9 then ([[],[0],[1],[0,1]]:List (List Int)).getD t.count.toNat []
  else if y.kind≠1∧t.ended=true then [0] else []
def badC (x:Pl) (s:Fs) (k:Nat):Bool:=
  !decide (cchk (crd s k)=0)|| !decide ((crd s k).capacity=(pip x k).capacity)|| !((crd s k).closed==(sst s (pip x k).from_).ended)|| (!(crd s k).closed && !decide ((crd s k).granted=(crd s k).taken+(crd s k).capacity))
def badN (x:Pl) (s:Fs) (i:Int) (n:Int):Bool:= !cended (crd s (inP x i n))
def badT (x:Pl) (s:Fs) (i:Nat):Bool:=(notedM (stg x i) (sst s i)).any (badN x s i)
def bufs (x:Pl) (s:Fs):Bool:=(List.range s.credits.length).all (fun k=> !badC x s k) && (List.range s.stages.length).all (fun i=> !badT x s i)
def badS (x:Pl) (s:Fs) (i:Nat):Bool:= !decide ((sneed (stg x i) (sst s i)).2=0)
def badO (l:List Int):Bool:=decide (200<(l.length:Int))||l.any (fun n=> !win n (-1099511627776) 1099511627776)
def pval (x:Pl) (s:Fs):Bool:=
  if (s.stages.length:Int)≠x.stages.length∨(s.credits.length:Int)≠x.pipes.length∨(s.outputs.length:Int)≠snk x.stages then false
  else if (List.range s.stages.length).any (badS x s)=true then false
  else if s.outputs.any badO=true then false
  else bufs x s
def pvalid (x:Pl) (s:Fs):Int:=if pchk x≠0∨pval x s=false then 1 else 0
structure Mv where
  state:Ss
  sent:List (List Int)
  ended:Bool
  takes:Bool
  inn:Int
  item:Int
  e:Int
  deriving Inhabited
def M0:Mv:=⟨S0,[],false,false,0,0,0⟩
def mend (y:Sg) (t:Ss) (n:Int):Mv:=⟨(sfin y t n).1,(sfin y t n).2.1,(sfin y t n).2.2.1,false,n,0,(sfin y t n).2.2.2⟩
def mtake (y:Sg) (t:Ss) (n:Int) (takes:Bool) (item:Int):Mv:=⟨(stake y t n item).1,(stake y t n item).2.1,false,takes,n,item,(stake y t n item).2.2⟩
def pin (x:Pl) (s:Fs) (i:Int):Int:=(sneed (stg x i) (sst s i)).1.getD 0 default
def pcr (x:Pl) (s:Fs) (i:Int):Cr:=crd s (inP x i (pin x s i))
def pnext (x:Pl) (s:Fs) (i:Int):Mv×Bool:=
  if (sst s i).ended=true then (M0,false)
  else if (stg x i).kind=1 then
   (if s.draining=true∨(sst s i).count=(stg x i).items.length then (mend (stg x i) (sst s i) (-1),true) else (mtake (stg x i) (sst s i) (-1) false 0,true))
  else if 0<(pcr x s i).items.length then (mtake (stg x i) (sst s i) (pin x s i) true ((pcr x s i).items.getD 0 default),true)
  else if cended (pcr x s i)=true then (mend (stg x i) (sst s i) (pin x s i),true)
  else (M0,false)
def fitB (x:Pl) (s:Fs) (i:Int) (m:Mv) (n:Nat):Bool:=decide (((m.sent.getD n default).length:Int)≤croom (crd s (outP x i n)))
def pfits (x:Pl) (s:Fs) (i:Int) (m:Mv):Bool:=(List.range m.sent.length).all (fitB x s i m)
def penab (x:Pl) (s:Fs) (i:Int):Mv×Bool:=((pnext x s i).1,(pnext x s i).2 && (!decide ((pnext x s i).1.e=0)||pfits x s i (pnext x s i).1))
def enabL (x:Pl) (s:Fs) (n:Nat):List Int:=((List.range n).filter fun (i:Nat)=>(penab x s i).2).map Int.ofNat
def penabled (x:Pl) (s:Fs):List Int×Int:=if pvalid x s≠0 then ([],pvalid x s) else (enabL x s x.stages.length,0)
def tookC (c:Cr):Cr×Int:=
  if (ctake c).2.2=0∧(ctake c).1.closed=false then creq (ctake c).1 1 else ((ctake c).1,(ctake c).2.2)
def ptook (x:Pl) (cs:List Cr) (i:Int) (m:Mv):List Cr×Int:=
  if m.takes=false then (cs,0)
  else (cs.set (inP x i m.inn).toNat (tookC (cs.getD (inP x i m.inn).toNat default)).1,(tookC (cs.getD (inP x i m.inn).toNat default)).2)
def sendsC (c:Cr):List Int→Cr
  | []=>c
  |n::l=>sendsC (csend c n).1 l
def send1 (x:Pl) (cs:List Cr) (i:Int) (m:Mv) (n:Nat):List Cr:=
  let k:=(outP x i n).toNat;let c:=if n<m.sent.length then sendsC (cs.getD k default) (m.sent.getD n default) else cs.getD k default
  cs.set k (if m.ended=true then (cclose c).1 else c)
def sendK (x:Pl) (cs:List Cr) (i:Int) (m:Mv):Nat→List Cr
  |0=>cs
  |n+1=>send1 x (sendK x cs i m n) i m n
def pout (x:Pl) (s:Fs) (i:Int):Nat:=(snk (x.stages.take i.toNat)).toNat
def pstep (x:Pl) (s:Fs) (i:Int):Fs×Int:=
  if pvalid x s≠0 then (F0,pvalid x s)
  else if win i 0 (x.stages.length - 1)=false then (F0,2)
  else if (penab x s i).2=false then (F0,25)
  else if (penab x s i).1.e≠0 then (F0,(penab x s i).1.e)
  else if ((stg x i).kind=10∧(penab x s i).1.takes=true)∧((s.outputs.getD (pout x s i) default).length:Int)=200 then (F0,4)
  else if (ptook x s.credits i (penab x s i).1).2≠0 then (F0,(ptook x s.credits i (penab x s i).1).2)
  else (⟨s.stages.set i.toNat (penab x s i).1.state,sendK x (ptook x s.credits i (penab x s i).1).1 i (penab x s i).1 (sout (stg x i)).toNat,
   if (stg x i).kind=10∧(penab x s i).1.takes=true then s.outputs.set (pout x s i) (s.outputs.getD (pout x s i) default++[(penab x s i).1.item]) else s.outputs,s.draining⟩,0)
end Pn
namespace Go.Aw
open Pn
def encMv (m:Mv):List AV:=[.sl 1 (m.state.held.map encI),.int m.state.count,.bool m.state.ended,.sl 1 (m.sent.map encLI),.bool m.ended,.bool m.takes,.int m.inn,.int m.item,.int m.e]
instance {a b c d:Int} {u v:AV} {x y z:Bool} {l:List Int} {n:List (List Int)} [h:Sl u 1 encI l] [k:Sl v 1 encLI n]:RowOf [u,.val (.int .i64 a),.val (.bool x),v,.val (.bool y),.val (.bool z),.val (.int .i64 b),.val (.int .i64 c),.val (.int .i64 d)] encMv ⟨⟨l,a,x⟩,n,y,z,b,c,d⟩:=⟨.cons h.imp (.cons (AV.Imp.refl _) (.cons (AV.Imp.refl _) (.cons k.imp (.cons (AV.Imp.refl _) (.cons (AV.Imp.refl _) (.cons (AV.Imp.refl _) (.cons (AV.Imp.refl _) (.cons (AV.Imp.refl _) .nil))))))))⟩
end Go.Aw
namespace Pn
open Sv (win win_t)
theorem fst0_zero: ∀ {l:List Int},fst0 l=0→ ∀ e∈l,e=0
  | [],_,e,he=>by cases he
  |a::l,h,e,he=>by
   unfold fst0 at h;split at h
   ·rename_i h1;exact absurd h h1
   ·rename_i h1;rcases List.mem_cons.1 he with rfl|he
    ·exact Classical.not_not.1 h1
    ·exact fst0_zero h e he
theorem fst0_of: ∀ {l:List Int},(∀ e∈l,e=0)→fst0 l=0
  | [],_=>rfl
  |a::l,h=>by
   unfold fst0;rw [if_neg (fun h2=>h2 (h a (List.mem_cons_self ..)))];exact fst0_of fun e he=>h e (List.mem_cons_of_mem _ he)
structure Pok (x:Pl):Prop where
  n:1≤x.stages.length∧x.stages.length≤16
  sg: ∀ s∈x.stages,sgchk s=0
  np:x.pipes.length≤32
  pp: ∀ k,k<x.pipes.length→chkP x k=0
  ends:ends x.stages=2*x.pipes.length
  circ:circ x=false
theorem pchk_ok {x:Pl}:pchk x=0↔Pok x:=by
  unfold pchk;constructor
  ·intro h;split at h
   ·cases h
   ·split at h
    ·rename_i h2;exact absurd h h2
    ·split at h
     ·cases h
     ·split at h
      ·rename_i h2;exact absurd h h2
      ·split at h
       ·cases h
       ·split at h
        ·cases h
        ·rename_i h1 h2 h3 h4 h5 h6;have h1':=win_t.1 (by simpa using h1);refine⟨by omega,fun s hs=>fst0_zero (Classical.not_not.1 h2) _ (List.mem_map_of_mem hs),by omega,fun k hk=>fst0_zero (Classical.not_not.1 h4) _ (List.mem_map.2 ⟨k,List.mem_range.2 hk,rfl⟩),Classical.not_not.1 h5,by simpa using h6⟩
  ·rintro⟨a,b,c,d,e,f⟩;rw [if_neg (by rw [Bool.not_eq_false,win_t];omega),if_neg (fun h=>h (fst0_of (by rintro e he;obtain⟨s,hs,rfl⟩:=List.mem_map.1 he;exact b s hs))),if_neg (by omega),
    if_neg (fun h=>h (fst0_of (by rintro e he;obtain⟨s,hs,rfl⟩:=List.mem_map.1 he;exact d s (List.mem_range.1 hs)))),if_neg (fun h=>h e),if_neg (by rw [f];decide)]
theorem Pok.stg {x:Pl} (h:Pok x) {i:Int} (hi:0≤i∧i<x.stages.length):sgchk (stg x i)=0∧Sgok (stg x i):=by
  have:Pn.stg x i=x.stages[i.toNat]'(by omega):=by
   unfold Pn.stg;rw [List.getD,List.getElem?_eq_getElem (by omega),Option.getD_some]
  have h2:=h.sg _ (List.getElem_mem (show i.toNat<x.stages.length by omega));rw [this];exact⟨h2,sgchk_ok h2⟩
theorem sout_of {y:Sg} (h:sgchk y=0):sout y=hout y.kind:=by unfold sout;rw [if_neg (fun h2=>h2 h)]
theorem sinp_of {y:Sg} (h:sgchk y=0):sinp y=hin y.kind:=by unfold sinp;rw [if_neg (fun h2=>h2 h)]
theorem idxF_c {α:Type} (p:α→Bool) (l:List α):(Wl.idxF p l= -1∧ ∀ i (h:i<l.length),p l[i]=false)∨ ∃ i,∃ h:i<l.length,Wl.idxF p l=(i:Int)∧p l[i]=true∧ ∀ j (h:j<l.length),j<i→p l[j]=false:=by
  unfold Wl.idxF;cases e:l.findIdx? p with
  |none=>
   left;exact⟨rfl,fun i h=>List.findIdx?_eq_none_iff.1 e _ (List.getElem_mem h)⟩
  |some k=>
   right;obtain⟨hk,h1,h2⟩:=List.findIdx?_eq_some_iff_getElem.1 e;exact⟨k,hk,rfl,h1,fun j h3 h4=>by simpa using h2 j h4⟩
theorem pip_get {x:Pl} {k:Nat} (h:k<x.pipes.length):pip x k=x.pipes[k]:=by
  unfold pip;rw [List.getD,List.getElem?_eq_getElem h,Option.getD_some]
structure Ppok (x:Pl) (k:Nat):Prop where
  fr:0≤(pip x k).from_∧(pip x k).from_<x.stages.length
  to:0≤(pip x k).to_∧(pip x k).to_<x.stages.length
  out:0≤(pip x k).output∧(pip x k).output<hout (stg x (pip x k).from_).kind
  inn:0≤(pip x k).input∧(pip x k).input<hin (stg x (pip x k).to_).kind
  cap:1≤(pip x k).capacity∧(pip x k).capacity≤100
  outP:outP x (pip x k).from_ (pip x k).output=k
  inP:inP x (pip x k).to_ (pip x k).input=k
  rep:(stg x (pip x k).from_).kind=5→(stg x (pip x k).from_).size≤(pip x k).capacity
theorem pbad_f {x:Pl} {y:Pp} (hx: ∀ i:Int,0≤i∧i<x.stages.length→sgchk (stg x i)=0) (h:pbad x y=false):(0≤y.from_∧y.from_<x.stages.length)∧(0≤y.to_∧y.to_<x.stages.length)∧(0≤y.output∧y.output<hout (stg x y.from_).kind)∧(0≤y.input∧y.input<hin (stg x y.to_).kind)∧(1≤y.capacity∧y.capacity≤100):=by
  unfold pbad at h;simp only [Bool.or_eq_false_iff,Bool.not_eq_false',win_t] at h;obtain⟨⟨⟨⟨a,b⟩,c⟩,d⟩,e⟩:=h;rw [sout_of (hx _ (by omega))] at c;rw [sinp_of (hx _ (by omega))] at d;exact⟨by omega,by omega,by omega,by omega,e⟩
theorem Pok.pip {x:Pl} (h:Pok x) {k:Nat} (hk:k<x.pipes.length):Ppok x k:=by
  have hc:=h.pp k hk;unfold chkP at hc;split at hc
  ·cases hc
  ·split at hc
   ·cases hc
   ·rename_i h1 h2;obtain⟨a,b,c,d,e⟩:=pbad_f (fun i hi=>(h.stg hi).1) (by simpa using h1);have ho:Pn.outP x (Pn.pip x k).from_ (Pn.pip x k).output=k:=by
     rcases idxF_c (outB (Pn.pip x k).from_ (Pn.pip x k).output) x.pipes with ⟨h3,h4⟩|⟨i,h3,h4,h5,h6⟩
     ·have:=h4 k hk;rw [←pip_get hk] at this;simp [outB] at this
     ·rcases Nat.lt_or_ge k i with h7|h7
      ·have:=h6 k hk h7;rw [←pip_get hk] at this;simp [outB] at this
      ·unfold Pn.outP at h2 ⊢;omega
    have hi:Pn.inP x (Pn.pip x k).to_ (Pn.pip x k).input=k:=by
     rcases idxF_c (inB (Pn.pip x k).to_ (Pn.pip x k).input) x.pipes with ⟨h3,h4⟩|⟨i,h3,h4,h5,h6⟩
     ·have:=h4 k hk;rw [←pip_get hk] at this;simp [inB] at this
     ·rcases Nat.lt_or_ge k i with h7|h7
      ·have:=h6 k hk h7;rw [←pip_get hk] at this;simp [inB] at this
      ·unfold Pn.inP at h2 ⊢;omega
    refine⟨a,b,c,d,e,ho,hi,fun h5=> ?_⟩;split at hc
    ·cases hc
    ·rename_i h6;exact Int.not_lt.1 fun h7=>h6 ⟨h5,h7⟩
theorem sub_len {α:Type} [BEq α] [LawfulBEq α]: ∀ (l m:List α),l.Nodup→(∀ x∈l,x∈m)→l.length≤m.length
  | [],m,_,_=>Nat.zero_le _
  |a::l,m,hn,h=>by
   obtain⟨h1,h2⟩:=List.nodup_cons.1 hn;have ha:=h a (List.mem_cons_self ..);have h3:=sub_len l (m.erase a) h2 (fun x hx=>by
    refine (List.mem_erase_of_ne ?_).2 (h x (List.mem_cons_of_mem _ hx));rintro rfl;exact h1 hx)
   have h4:0<m.length:=List.length_pos_of_mem ha;rw [List.length_erase_of_mem ha] at h3;rw [List.length_cons];omega
theorem sub_surj {α:Type} [BEq α] [LawfulBEq α] {l m:List α} (hn:l.Nodup) (h: ∀ x∈l,x∈m) (hl:m.length≤l.length) {y:α} (hy:y∈m):y∈l:=by
  rcases Classical.em (y∈l) with h1|h1
  ·exact h1
  ·have:=sub_len (y::l) m (List.nodup_cons.2 ⟨h1,hn⟩) (fun x hx=>by
    rcases List.mem_cons.1 hx with rfl|hx
    ·exact hy
    ·exact h x hx)
   rw [List.length_cons] at this;omega
def endL (f:Sg→Int) (l:List Sg):List (Nat×Nat):=(List.range l.length).flatMap fun i=>(List.range (f (l.getD i default)).toNat).map fun o=>(i,o)
theorem endL_mem {f:Sg→Int} {l:List Sg} {i o:Nat}:(i,o)∈endL f l↔i<l.length∧o<(f (l.getD i default)).toNat:=by
  unfold endL;simp only [List.mem_flatMap,List.mem_range,List.mem_map,Prod.mk.injEq];constructor
  ·rintro⟨a,ha,b,hb,rfl,rfl⟩;exact⟨ha,hb⟩
  ·rintro⟨a,b⟩;exact⟨i,a,o,b,rfl,rfl⟩
theorem endL_len (f:Sg→Int) (l:List Sg) (h: ∀ s∈l,0≤f s):((endL f l).length:Int)=(l.map f).sum:=by
  unfold endL;rw [List.length_flatMap];have e:(List.range l.length).map (fun i=>((List.range (f (l.getD i default)).toNat).map fun o=>(i,o)).length)=l.map (fun s=>(f s).toNat):=by
   refine List.ext_getElem (by simp) fun i h1 h2=> ?_;simp at h1 h2 ⊢;rw [List.getElem?_eq_getElem h1,Option.getD_some]
  rw [e];clear e;induction l with
  |nil=>rfl
  |cons a l ih=>
   rw [List.map_cons,List.map_cons,List.sum_cons,List.sum_cons,Int.natCast_add,ih (fun s hs=>h s (List.mem_cons_of_mem _ hs))];have:=h a (List.mem_cons_self ..);omega
theorem ends_add (l:List Sg):ends l=(l.map sinp).sum+(l.map sout).sum:=by
  unfold ends;induction l with
  |nil=>rfl
  |cons a l ih=>simp only [List.map_cons,List.sum_cons,ih];omega
theorem Pok.bij {x:Pl} (h:Pok x):(∀ i o:Nat,(i,o)∈endL sout x.stages→ ∃ k,k<x.pipes.length∧(Pn.pip x k).from_=i∧(Pn.pip x k).output=o)∧(∀ i o:Nat,(i,o)∈endL sinp x.stages→ ∃ k,k<x.pipes.length∧(Pn.pip x k).to_=i∧(Pn.pip x k).input=o):=by
  have hs: ∀ s∈x.stages,0≤sout s∧0≤sinp s:=fun s hs=>by
   rw [sout_of (h.sg s hs),sinp_of (h.sg s hs)];have:=hio (sgchk_ok (h.sg s hs)).kind;omega
  have l1:=endL_len sout x.stages (fun s h=>(hs s h).1);have l2:=endL_len sinp x.stages (fun s h=>(hs s h).2);have e:=h.ends;rw [ends_add] at e;let O:=x.pipes.map fun y=>(y.from_.toNat,y.output.toNat)
  let I:=x.pipes.map fun y=>(y.to_.toNat,y.input.toNat)
  have sg: ∀ i:Int,0≤i∧i<x.stages.length→x.stages.getD i.toNat default=Pn.stg x i:=fun i hi=>rfl;have hO: ∀ p∈O,p∈endL sout x.stages:=by
   intro p hp;obtain⟨y,hy,rfl⟩:=List.mem_map.1 hp;obtain⟨k,hk,rfl⟩:=List.getElem_of_mem hy;have q:=h.pip hk;rw [←pip_get hk,endL_mem];have q1:=q.fr;have q2:=q.out;have e2:=sout_of (h.stg q1).1;unfold Pn.stg at e2 q2;rw [e2];exact⟨by omega,by omega⟩
  have hI: ∀ p∈I,p∈endL sinp x.stages:=by
   intro p hp;obtain⟨y,hy,rfl⟩:=List.mem_map.1 hp;obtain⟨k,hk,rfl⟩:=List.getElem_of_mem hy;have q:=h.pip hk;rw [←pip_get hk,endL_mem];have q1:=q.to;have q2:=q.inn;have e2:=sinp_of (h.stg q1).1;unfold Pn.stg at e2 q2;rw [e2];exact⟨by omega,by omega⟩
  have nO:O.Nodup:=by
   rw [List.nodup_iff_pairwise_ne,List.pairwise_iff_getElem];intro i j hi hj hij he;simp only [O,List.length_map] at hi hj;simp only [O,List.getElem_map,Prod.mk.injEq] at he;have q1:=h.pip hi;have q2:=h.pip hj;have a1:=q1.fr;have a2:=q2.fr;have a3:=q1.out;have a4:=q2.out;have a5:=q1.outP;have a6:=q2.outP;rw [pip_get hi] at a1 a3 a5;rw [pip_get hj] at a2 a4 a6;rw [show x.pipes[i].from_=x.pipes[j].from_ by omega,show x.pipes[i].output=x.pipes[j].output by omega,a6] at a5;omega
  have nI:I.Nodup:=by
   rw [List.nodup_iff_pairwise_ne,List.pairwise_iff_getElem];intro i j hi hj hij he;simp only [I,List.length_map] at hi hj;simp only [I,List.getElem_map,Prod.mk.injEq] at he;have q1:=h.pip hi;have q2:=h.pip hj;have a1:=q1.to;have a2:=q2.to;have a3:=q1.inn;have a4:=q2.inn;have a5:=q1.inP;have a6:=q2.inP;rw [pip_get hi] at a1 a3 a5;rw [pip_get hj] at a2 a4 a6;rw [show x.pipes[i].to_=x.pipes[j].to_ by omega,show x.pipes[i].input=x.pipes[j].input by omega,a6] at a5;omega
  have c1:=sub_len O _ nO hO;have c2:=sub_len I _ nI hI;have c3:O.length=x.pipes.length:=List.length_map ..;have c4:I.length=x.pipes.length:=List.length_map ..;refine⟨fun i o hm=> ?_,fun i o hm=> ?_⟩
  ·have:=sub_surj nO hO (by omega) hm;obtain⟨y,hy,he⟩:=List.mem_map.1 this;obtain⟨k,hk,rfl⟩:=List.getElem_of_mem hy;have q:=h.pip hk;have a1:=q.fr;have a3:=q.out;rw [pip_get hk] at a1 a3;simp only [Prod.mk.injEq] at he;exact⟨k,hk,by rw [pip_get hk];omega,by rw [pip_get hk];omega⟩
  ·have:=sub_surj nI hI (by omega) hm;obtain⟨y,hy,he⟩:=List.mem_map.1 this;obtain⟨k,hk,rfl⟩:=List.getElem_of_mem hy;have q:=h.pip hk;have a1:=q.to;have a3:=q.inn;rw [pip_get hk] at a1 a3;simp only [Prod.mk.injEq] at he;exact⟨k,hk,by rw [pip_get hk];omega,by rw [pip_get hk];omega⟩
theorem Pok.outp {x:Pl} (h:Pok x) {i n:Int} (hi:0≤i∧i<x.stages.length) (hn:0≤n∧n<hout (Pn.stg x i).kind): ∃ k,k<x.pipes.length∧outP x i n=(k:Int)∧(Pn.pip x k).from_=i∧(Pn.pip x k).output=n:=by
  obtain⟨k,hk,h1,h2⟩:=h.bij.1 i.toNat n.toNat (endL_mem.2 ⟨by omega,by
   have:=sout_of (h.stg hi).1;unfold Pn.stg at this hn;rw [this];omega⟩)
  have q:=(h.pip hk).outP;rw [show (Pn.pip x k).from_=i by omega,show (Pn.pip x k).output=n by omega] at q;exact⟨k,hk,q,by omega,by omega⟩
theorem Pok.inp {x:Pl} (h:Pok x) {i n:Int} (hi:0≤i∧i<x.stages.length) (hn:0≤n∧n<hin (Pn.stg x i).kind): ∃ k,k<x.pipes.length∧inP x i n=(k:Int)∧(Pn.pip x k).to_=i∧(Pn.pip x k).input=n:=by
  obtain⟨k,hk,h1,h2⟩:=h.bij.2 i.toNat n.toNat (endL_mem.2 ⟨by omega,by
   have:=sinp_of (h.stg hi).1;unfold Pn.stg at this hn;rw [this];omega⟩)
  have q:=(h.pip hk).inP;rw [show (Pn.pip x k).to_=i by omega,show (Pn.pip x k).input=n by omega] at q;exact⟨k,hk,q,by omega,by omega⟩
end Pn
namespace Pn
theorem sio_bd (y:Sg):(0≤sinp y∧sinp y≤2)∧0≤sout y∧sout y≤2:=by
  unfold sinp sout;split
  ·decide
  ·rename_i h;have:=hio (sgchk_ok (Classical.not_not.1 h)).kind;exact⟨this.1,this.2.1⟩
theorem upd_at (g:Int→Int) (a b m:Int):upd g a b m m=g m:=by unfold upd;rw [if_neg (by omega)]
theorem upd_t {g:Int→Int} {a b:Int} {j:Nat} (h:g (j:Int)=b) (i:Int):(if i=(j:Int) then a else upd g a b j i)=upd g a b ((j+1:Nat):Int) i:=by
  unfold upd;split
  ·rename_i h1;subst h1;rw [if_pos ⟨by omega,h⟩]
  ·split
   ·rename_i h1 h2;rw [if_pos ⟨by omega,h2.2⟩]
   ·rename_i h1 h2;rw [if_neg (by omega)]
theorem upd_f {g:Int→Int} {a b:Int} {j:Nat} (h: ¬ g (j:Int)=b) (i:Int):upd g a b j i=upd g a b ((j+1:Nat):Int) i:=by
  unfold upd;split
  ·rename_i h2;rw [if_pos ⟨by omega,h2.2⟩]
  ·rename_i h2;rw [if_neg];rintro⟨h3,h4⟩;rcases Classical.em (i=(j:Int)) with e|e
   ·subst e;exact h h4
   ·exact h2 ⟨by omega,h4⟩
end Pn
namespace Go.Aw
theorem ec_setN {m:Nat} (f:Int→Int) {t:Nat} (v:Int) (h:t<m):setMany (ec m f) (0+t*1) [AV.int v]=ec m (fun j=>if j=(t:Int) then v else f j):=by
  have:=ec_set (m:=m) f (t:=(t:Int)) v (by omega);simpa using this
theorem ec_upd0 (m:Nat) (g:Int→Int) (a b:Int):ec m g=ec m (Pn.upd g a b ((0:Nat):Int)):=ec_congr fun j hj=>by unfold Pn.upd;rw [if_neg (by omega)]
end Go.Aw
namespace Pn
theorem pp_of {z:Pl} (h1:stgE z=0) (h2:pipE z=0): ∀ y∈z.pipes,(0≤y.from_∧y.from_<z.stages.length)∧0≤y.to_∧y.to_<z.stages.length:=by
  intro y hy;obtain⟨k,hk,rfl⟩:=List.getElem_of_mem hy;have hc:chkP z k=0:=fst0_zero h2 _ (List.mem_map.2 ⟨k,List.mem_range.2 hk,rfl⟩);unfold chkP at hc;split at hc
  ·cases hc
  ·rename_i h3;have h4:pbad z (pip z k)=false:=by simpa using h3
   unfold pbad at h4;simp only [Bool.or_eq_false_iff,Bool.not_eq_false',Sv.win_t] at h4;rw [pip_get hk] at h4;omega
end Pn
set_option maxRecDepth 10000
namespace Go.Proofs
open Go.Aw Wl Pn
theorem indexFPp_c (l:List Pn.Pp) (hl:l.length≤1000000) (f:Nat) (caps:List AV) (p:Pn.Pp→Bool) (st0:List Aw.Item) (h: ∀ w∈l,ACalls Tryz.prog f ([.agg (encPp w)]++caps) st0 (fun v st=>v= .bool (p w)∧st=st0)):ACalls Tryz.prog 87 [.sl 5 (l.map encPp),.clo f caps] st0 (fun v st=>v= .int (idxF p l)∧st=st0):=by
  refine acalls_body Tryz.func87 (by kernel_rfl) rfl Tryz.ntmps87 (le_ rfl) ?_;rw [Tryz.results87];refine asr ?_;refine sA ?_;refine aops_nil ?_;refine awp_seq ?_;refine asr ?_;refine sM ?_;refine sN ?_;refine sM ?_;refine aops_nil ?_;refine awp_block ?_;refine awp_loop2 (X:=Nat) [0,1,7] (.cons rfl (.cons rfl (.cons rfl .nil))) (fun σ x=>((8,.int (x:Int)):Nat×AV)::σ) (fun R x=>R) (fun x=>x≤l.length∧(∀ i (h:i<l.length),i<x→p l[i]=false)) (fun x=>l.length - x) 0 (by exact Weak.of2 (by (repeat (first|exact .nil _|refine .cons rfl (by exact AV.Imp.refl _) ?_));done) (by (repeat (exact .refl _));done)) ⟨Nat.zero_le _,by omega⟩ ?_;rintro k ⟨hk,hinv⟩;refine asr ?_;refine sS ?_;refine aops_nil ?_;refine awp_seq ?_;refine awp_cond rfl (fun h1=> ?_) (fun h1=> ?_)
  ·simp only [nf] at h1;refine awp_skip ?_;refine awp_seq ?_;refine awp_block ?_;refine asr ?_;refine sM ?_;refine sA ?_;refine aops_nil ?_;refine asr ?_;refine sM ?_;refine sM ?_;refine sM ?_;refine st_p (fun _=>by exact y_indexMap (.plain rfl) (.plain rfl) rfl (by refine⟨?_,?_⟩;(omega);rfl)) rfl ?_;refine sV ?_;refine aops_call (blt_lt rfl) (.plain rfl) (.cons (.plain rfl) .nil) ((h l[k] (List.getElem_mem h1)).mono ?_);rintro v st ⟨rfl,rfl⟩;refine aops_nil ?_;refine awp_cond rfl (fun h2=> ?_) (fun h2=> ?_)
   ·refine asr ?_;refine sM ?_;refine sA ?_;refine aops_nil ?_;refine awp_ret ?_;exact retG (.inr rfl) (.cons (.tmp rfl) .nil) VShift.refl ⟨by rw [idxF_at p l k h1 h2 hinv];rfl,rfl⟩
   ·refine awp_skip ?_;refine awp_region ?_;refine sY ?_ (hb:=by omega);refine sM ?_;refine aops_nil ?_;refine⟨k+1,?_,?_,Weak.of2 (by (repeat (first|exact .nil _|refine .cons rfl (by exact AV.Imp.refl _) ?_));done) (by (repeat (exact .refl _));done)⟩
    ·refine⟨by omega,?_⟩;intro i hi hik;by_cases e:i=k
     ·subst e;exact h2
     ·exact hinv i hi (by omega)
    ·omega
  ·simp only [nf] at h1;refine awp_exit ?_;refine asr ?_;refine sA ?_;refine aops_nil ?_;refine awp_ret ?_;exact retG (.inr rfl) (.cons (.tmp rfl) .nil) VShift.refl ⟨by rw [idxF_no p l (fun i hi=>hinv i hi (by omega))];rfl,rfl⟩
theorem pfind_c (l:List Pn.Pp) (hl:l.length≤1000000) (f:Nat) (caps:List AV) (p:Pn.Pp→Bool) (st0:List Aw.Item) (h: ∀ w∈l,ACalls Tryz.prog f ([.agg (encPp w)]++caps) st0 (fun v st=>v= .bool (p w)∧st=st0)):ACalls Tryz.prog 58 [.sl 5 (l.map encPp),.clo f caps] st0 (fun v st=>v= .int (idxF p l)∧st=st0):=by
  refine acalls_body Tryz.func58 (by kernel_rfl) rfl Tryz.ntmps58 (le_ rfl) ?_;rw [Tryz.results58];refine asr ?_;refine sA ?_;refine aops_nil ?_;refine asr ?_;refine sM ?_;refine sM ?_;refine aops_call (blt_lt rfl) (.plain rfl) (.cons (.plain rfl) (.cons (.plain rfl) .nil)) ((indexFPp_c l hl f caps p st0 h).mono ?_);rintro v st ⟨rfl,rfl⟩;refine sA ?_;refine aops_nil ?_;refine awp_ret ?_;exact retG (.inr rfl) (.cons (.tmp rfl) .nil) VShift.refl ⟨rfl,rfl⟩
theorem outK_c (p q:Nat) (i n:Int) (y:Pn.Pp):ACalls Tryz.prog 67 [.agg (encPp y),.ptr p 0,.ptr q 0] [.cells p [.int i],.cells q [.int n]] (fun v st=>v= .bool (Pn.outB i n y)∧st=[.cells p [.int i],.cells q [.int n]]):=by
  refine acalls_body Tryz.func67 (by kernel_rfl) rfl Tryz.ntmps67 (le_ rfl) ?_;rw [Tryz.results67];refine asr ?_;refine sB fun n1=> ?_;refine sA ?_;refine aops_nil ?_;refine asr ?_;refine sF ?_;refine sL .here ?_;refine sL k1 ?_;refine sQ ?_;refine sM ?_;refine gF ?_;refine gL0 .here ?_;refine gL k2 ?_;refine gQ01 ?_;refine sJ ?_;refine sA ?_;refine aops_nil ?_;refine awp_ret ?_;exact retG (.inr rfl) (.cons (.tmp rfl) .nil) (VShift.of2 (AV.Imp.refl _) (by (repeat (first|exact .nil _|apply ItLe2.cons (by exact k1)));done)) ⟨rfl,rfl⟩
theorem outp_c (z:Pn.Pl) (i n:Int) (hz:z.pipes.length≤1000000):ACalls Tryz.prog 31 [(AV.agg (encPl z)),(AV.int i),(AV.int n)] [] (fun v st=>v=(AV.int (Pn.outP z i n))∧st=[]):=by
  refine acalls_body Tryz.func31 (by kernel_rfl) rfl Tryz.ntmps31 (le_ rfl) ?_;rw [Tryz.results31];refine asr ?_;refine sB fun n3=> ?_;refine sB fun n4=> ?_;refine sB fun n5=> ?_;refine sA ?_;refine aops_nil ?_;refine asr ?_;refine sF ?_;refine sL k2 ?_;refine st_p (fun _=>by exact y_makeFunc (.cons (.plain rfl) (.cons (.plain rfl) .nil))) rfl ?_;refine aops_call (blt_lt rfl) (.plain rfl) (.cons (.plain rfl) (.cons (.plain rfl) .nil)) (ACalls.then (ACalls.keep (by apply Takes.cons (by exact k1);apply Takes.cons (by exact .here);exact .nil _) (pfind_c z.pipes hz 67 [.ptr n4 0,.ptr n5 0] (Pn.outB i n) [.cells n4 [.int i],.cells n5 [.int n]] (fun y _=>outK_c n4 n5 i n y))) ?_);refine sA ?_;refine aops_nil ?_;refine awp_ret ?_;refine retG (.inr rfl) (.cons (.tmp rfl) .nil) (VShift.of1 (AV.Imp.refl _) (.nil _)) ⟨congrArg (fun x:(Int)=>(AV.int x)) (show _=(Pn.outP z i n) from ?_),rfl⟩;rfl
theorem inK_c (p q:Nat) (i n:Int) (y:Pn.Pp):ACalls Tryz.prog 59 [.agg (encPp y),.ptr p 0,.ptr q 0] [.cells p [.int i],.cells q [.int n]] (fun v st=>v= .bool (Pn.inB i n y)∧st=[.cells p [.int i],.cells q [.int n]]):=by
  refine acalls_body Tryz.func59 (by kernel_rfl) rfl Tryz.ntmps59 (le_ rfl) ?_;rw [Tryz.results59];refine asr ?_;refine sB fun n1=> ?_;refine sA ?_;refine aops_nil ?_;refine asr ?_;refine sF ?_;refine sL .here ?_;refine sL k1 ?_;refine sQ ?_;refine sM ?_;refine gF ?_;refine gL0 .here ?_;refine gL k2 ?_;refine gQ01 ?_;refine sJ ?_;refine sA ?_;refine aops_nil ?_;refine awp_ret ?_;exact retG (.inr rfl) (.cons (.tmp rfl) .nil) (VShift.of2 (AV.Imp.refl _) (by (repeat (first|exact .nil _|apply ItLe2.cons (by exact k1)));done)) ⟨rfl,rfl⟩
theorem inp_c (z:Pn.Pl) (i n:Int) (hz:z.pipes.length≤1000000):ACalls Tryz.prog 29 [(AV.agg (encPl z)),(AV.int i),(AV.int n)] [] (fun v st=>v=(AV.int (Pn.inP z i n))∧st=[]):=by
  refine acalls_body Tryz.func29 (by kernel_rfl) rfl Tryz.ntmps29 (le_ rfl) ?_;rw [Tryz.results29];refine asr ?_;refine sB fun n3=> ?_;refine sB fun n4=> ?_;refine sB fun n5=> ?_;refine sA ?_;refine aops_nil ?_;refine asr ?_;refine sF ?_;refine sL k2 ?_;refine st_p (fun _=>by exact y_makeFunc (.cons (.plain rfl) (.cons (.plain rfl) .nil))) rfl ?_;refine aops_call (blt_lt rfl) (.plain rfl) (.cons (.plain rfl) (.cons (.plain rfl) .nil)) (ACalls.then (ACalls.keep (by apply Takes.cons (by exact k1);apply Takes.cons (by exact .here);exact .nil _) (pfind_c z.pipes hz 59 [.ptr n4 0,.ptr n5 0] (Pn.inB i n) [.cells n4 [.int i],.cells n5 [.int n]] (fun y _=>inK_c n4 n5 i n y))) ?_);refine sA ?_;refine aops_nil ?_;refine awp_ret ?_;refine retG (.inr rfl) (.cons (.tmp rfl) .nil) (VShift.of1 (AV.Imp.refl _) (.nil _)) ⟨congrArg (fun x:(Int)=>(AV.int x)) (show _=(Pn.inP z i n) from ?_),rfl⟩;rfl
theorem chkP_c (z:Pn.Pl) (k:Nat) (hz:z.stages.length≤1000000∧z.pipes.length≤1000000) (hk:k<z.pipes.length):ACalls Tryz.prog 39 [(AV.agg (encPl z)),(AV.int (k:Int))] [] (fun v st=>v=(AV.int (Pn.chkP z k))∧st=[]):=by
  refine acalls_body Tryz.func39 (by kernel_rfl) rfl Tryz.ntmps39 (le_ rfl) ?_;rw [Tryz.results39];have hgk:Pn.pip z k=z.pipes[k]:=Pn.pip_get hk;have hs1:=Pn.sio_bd (z.stages.getD z.pipes[k].from_.toNat default);have hs2:=Pn.sio_bd (z.stages.getD z.pipes[k].to_.toNat default);refine asr ?_;refine sB fun n1=> ?_;refine sA ?_;refine aops_nil ?_;refine asr ?_;refine sF ?_;refine sL .here ?_;refine sM ?_;refine st_p (fun _=>by exact y_indexMap (.plain rfl) (.plain rfl) rfl (by refine⟨?_,?_⟩;(omega);rfl)) rfl ?_;refine sV ?_;refine sC fun n2=> ?_;refine st_s (fun _=>by exact y_storeW (by rfl) rfl (.plain rfl) (.plain rfl) (by exact .here) (by rfl)) ?_;refine aops_nil ?_;refine asr ?_;refine sF ?_;refine sL k1 ?_;refine sN ?_;refine st_p (fun _=>by exact y_sub (.plain rfl) (.plain rfl) (by omega)) rfl ?_;refine sA ?_;refine aops_nil ?_;refine awp_seq ?_;refine awp_seq ?_;have hga:(!Sv.win z.pipes[k].from_ 0 (z.stages.length - 1)|| !Sv.win z.pipes[k].to_ 0 (z.stages.length - 1))=false→(0≤z.pipes[k].from_∧z.pipes[k].from_.toNat<z.stages.length)∧0≤z.pipes[k].to_∧z.pipes[k].to_.toNat<z.stages.length:=fun h=>by
   simp only [Bool.or_eq_false_iff,Bool.not_eq_false',Sv.win_t] at h;omega
  refine awp_any0 (ks:=[.free,.free,.free,.free,.free,.free,.free,.free,.free,.free,.free,.free,.free,.free,.free,.free,.free,.free,.free,.free,.free,.free,.free,.free,.free,.free,.free,.free,.free,.free,.free,.free,.free,.free,.free,.free,.free,.free,.free,.free,.free,.free,.free,.free,.free,.free]) (by kernel_rfl) (fun K=> ?_) ?_
  ·refine rF ?_;refine rL .here ?_;refine rM ?_;refine dr_p (fun _=>by exact y_call (.plain rfl) (.cons (.plain rfl) (.cons (.plain rfl) (.cons (.plain rfl) .nil))) (ACalls.pure (within_c _ _ _))) rfl ?_;refine rO ?_;refine rM ?_;refine qF ?_;refine qL0 .here ?_;refine qM ?_;refine dr_g rfl rfl rfl SaysI.out (fun hc _=>by exact y_call (.plain rfl) (.cons (.opt rfl hc) (.cons (.plain rfl) (.cons (.opt rfl hc) .nil))) (ACalls.pure (within_c _ _ _))) rfl ?_;refine qO0 ?_;refine rK ?_;refine rM ?_;refine qF ?_;refine qL0 .here ?_;refine qF ?_;refine qL0 k1 ?_;refine qF ?_;refine qL0 .here ?_;refine dr_g rfl rfl rfl SaysI.out (fun hc _=>by exact y_indexT (l:=z.stages) (.opt rfl hc) (.opt rfl hc) (by exact (hga hc).1.1) (by exact (hga hc).1.2)) rfl ?_;refine qV0 ?_;refine dr_g rfl rfl rfl SaysI.out (fun hc _=>by exact y_call (.plain rfl) (.cons (.imp (.opt rfl hc) (AV.Imp.agg (RowOf.imp (enc:=encSg)))) .nil) (ACalls.pure (sout_c _))) rfl ?_;refine dr_g rfl rfl rfl SaysI.out (fun hc _=>by exact y_sub (.opt rfl hc) (.plain rfl) (by omega)) rfl ?_;refine dr_g rfl rfl rfl SaysI.out (fun hc _=>by exact y_call (.plain rfl) (.cons (.opt rfl hc) (.cons (.plain rfl) (.cons (.opt rfl hc) .nil))) (ACalls.pure (within_c _ _ _))) rfl ?_;refine qO0 ?_;refine rK ?_;refine rM ?_;refine qF ?_;refine qL0 .here ?_;refine qF ?_;refine qL0 k1 ?_;refine qF ?_;refine qL0 .here ?_;refine dr_g rfl rfl rfl SaysI.out (fun hc _=>by exact y_indexT (l:=z.stages) (.opt rfl hc) (.opt rfl hc) (by exact (hga (Bool.or_eq_false_iff.1 hc).1).2.1) (by exact (hga (Bool.or_eq_false_iff.1 hc).1).2.2)) rfl ?_;refine qV0 ?_;refine dr_g rfl rfl rfl SaysI.out (fun hc _=>by exact y_call (.plain rfl) (.cons (.imp (.opt rfl hc) (AV.Imp.agg (RowOf.imp (enc:=encSg)))) .nil) (ACalls.pure (sinp_c _))) rfl ?_;refine dr_g rfl rfl rfl SaysI.out (fun hc _=>by exact y_sub (.opt rfl hc) (.plain rfl) (by omega)) rfl ?_;refine dr_g rfl rfl rfl SaysI.out (fun hc _=>by exact y_call (.plain rfl) (.cons (.opt rfl hc) (.cons (.plain rfl) (.cons (.opt rfl hc) .nil))) (ACalls.pure (within_c _ _ _))) rfl ?_;refine qO0 ?_;refine rK ?_;refine rM ?_;refine qF ?_;refine qL0 .here ?_;refine dr_g rfl rfl rfl SaysI.out (fun hc _=>by exact y_call (.plain rfl) (.cons (.opt rfl hc) (.cons (.plain rfl) (.cons (.plain rfl) .nil))) (ACalls.pure (within_c _ _ _))) rfl ?_;refine qO0 ?_;refine rK ?_;refine dr_nil ⟨rfl,?_⟩;refine awp_cond rfl (fun h1=> ?_) (fun h1=> ?_)
   ·have hpb:Pn.pbad z (Pn.pip z k)=true:=by rw [hgk];simpa [Pn.pbad,Pn.stg] using h1
    refine asr ?_;refine sA ?_;refine aops_nil ?_;refine awp_ret ?_;refine retG (.inr rfl) (.cons (.tmp rfl) .nil) (VShift.of1 (AV.Imp.refl _) (.nil _)) ⟨congrArg (fun x:(Int)=>(AV.int x)) (show _=(Pn.chkP z k) from ?_),rfl⟩;rw [Pn.chkP,if_pos hpb]
   ·have hpb:Pn.pbad z (Pn.pip z k)=false:=by rw [hgk];simpa [Pn.pbad,Pn.stg] using h1
    have hgc:0≤z.pipes[k].from_∧z.pipes[k].from_.toNat<z.stages.length:=by
     rw [hgk] at hpb;simp only [Pn.pbad,Bool.or_eq_false_iff,Bool.not_eq_false',Sv.win_t] at hpb;omega
    refine awp_skip ?_;refine awp_seq ?_;refine asr ?_;refine sW k1 ?_;refine sF ?_;refine sL .here ?_;refine sF ?_;refine sL .here ?_;refine aops_call (blt_lt rfl) (.plain rfl) (.cons (.imp (.plain rfl) (AV.Imp.agg (RowOf.imp (enc:=encPl)))) (.cons (.plain rfl) (.cons (.plain rfl) .nil))) (ACalls.here (outp_c z _ _ hz.2) ?_);refine sM ?_;refine sS ?_;refine sM ?_;refine gW k1 ?_;refine gF ?_;refine gL0 .here ?_;refine gF ?_;refine gL0 .here ?_;refine st_g rfl rfl rfl SaysI.out (fun hc _=>by exact y_call (.plain rfl) (.cons (.imp (.opt rfl hc) (AV.Imp.agg (RowOf.imp (enc:=encPl)))) (.cons (.opt rfl hc) (.cons (.opt rfl hc) .nil))) (ACalls.pure (inp_c z _ _ hz.2))) rfl ?_;refine gM ?_;refine gS01 ?_;refine sK ?_;refine aops_nil ?_;refine awp_cond rfl (fun h2=> ?_) (fun h2=> ?_)
    ·simp only [nf] at h2;refine asr ?_;refine sA ?_;refine aops_nil ?_;refine awp_ret ?_;refine retG (.inr rfl) (.cons (.tmp rfl) .nil) (VShift.of1 (AV.Imp.refl _) (.nil _)) ⟨congrArg (fun x:(Int)=>(AV.int x)) (show _=(Pn.chkP z k) from ?_),rfl⟩;rw [Pn.chkP,if_neg (by simp [hpb]),if_pos (by rw [hgk];assumption)]
    ·simp only [nf] at h2;refine awp_skip ?_;refine awp_seq ?_;refine asr ?_;refine sF ?_;refine sL k1 ?_;refine sF ?_;refine sL .here ?_;refine st_p (fun _=>by exact y_indexT (l:=z.stages) (.plain rfl) (.plain rfl) (by exact hgc.1) (by exact hgc.2)) rfl ?_;refine sV ?_;refine sC fun n3=> ?_;refine st_s (fun _=>by exact y_storeW (by rfl) rfl (.plain rfl) (.plain rfl) (by exact .here) (by rfl)) ?_;refine aops_nil ?_;refine asr ?_;refine sF ?_;refine sL .here ?_;refine sQ ?_;refine sM ?_;refine gF ?_;refine gL0 .here ?_;refine gF ?_;refine gL0 k1 ?_;refine gG01 ?_;refine sJ ?_;refine aops_nil ?_;refine awp_cond rfl (fun h3=> ?_) (fun h3=> ?_)
     ·simp only [nf] at h3;refine asr ?_;refine sA ?_;refine aops_nil ?_;refine awp_ret ?_;refine retG (.inr rfl) (.cons (.tmp rfl) .nil) (VShift.of1 (AV.Imp.refl _) (.nil _)) ⟨congrArg (fun x:(Int)=>(AV.int x)) (show _=(Pn.chkP z k) from ?_),rfl⟩;rw [Pn.chkP,if_neg (by simp [hpb]),if_neg (by rw [hgk];omega),if_pos (by rw [hgk];assumption)]
     ·simp only [nf] at h3;refine awp_skip ?_;refine asr ?_;refine sA ?_;refine aops_nil ?_;refine awp_ret ?_;refine retG (.inr rfl) (.cons (.tmp rfl) .nil) (VShift.of1 (AV.Imp.refl _) (.nil _)) ⟨congrArg (fun x:(Int)=>(AV.int x)) (show _=(Pn.chkP z k) from ?_),rfl⟩;rw [Pn.chkP,if_neg (by simp [hpb]),if_neg (by rw [hgk];omega),if_neg (by rw [hgk];exact fun ⟨a9,b9⟩=>h3.elim (fun h=>h a9) (fun h=>h b9))]
  ·kernel_rfl
theorem circ_c (z:Pn.Pl) (hz:z.stages.length≤1000∧z.pipes.length≤1000) (hp: ∀ y∈z.pipes,(0≤y.from_∧y.from_<z.stages.length)∧0≤y.to_∧y.to_<z.stages.length):ACalls Tryz.prog 40 [(AV.agg (encPl z))] [] (fun v st=>v=(AV.bool (Pn.circ z))∧st=[]):=by
  refine acalls_body Tryz.func40 (by kernel_rfl) rfl Tryz.ntmps40 (le_ rfl) ?_;rw [Tryz.results40];refine asr ?_;refine sB fun n1=> ?_;refine sA ?_;refine aops_nil ?_;refine asr ?_;refine sF ?_;refine sL .here ?_;refine sN ?_;refine st_n (fun _=>by exact y_makeArr (n:=z.stages.length) (by rfl) (.plain rfl) (.plain rfl) rfl (by omega)) rfl fun nE=> ?_;refine sA ?_;refine aops_nil ?_;rw [ec_make,ec_congr (g:=fun j=>if j<((0:Nat):Int) then j else 0) (fun j hj=>by rw [if_neg (by omega)])];refine awp_seq ?_;refine asr ?_;refine sM ?_;refine st_p (fun _=>by exact y_lenArr (.plain rfl)) rfl ?_;refine sM ?_;refine aops_nil ?_;refine awp_block ?_;refine awp_loop2 (X:=Nat) [1,3,16] (.cons rfl (.cons rfl (.cons rfl .nil))) (fun σ x=>((17,.int (x:Int)):Nat×AV)::σ) (fun R x=> .cells nE (ec z.stages.length (fun j=>if j<(x:Int) then j else 0))::R) (fun x=>x≤z.stages.length) (fun x=>z.stages.length - x) 0 (by exact Weak.of2 (by (repeat (first|exact .nil _|refine .cons rfl (by exact AV.Imp.refl _) ?_));done) (by (repeat (exact .refl _));done)) (Nat.zero_le _) ?_;rintro k hk;refine asr ?_;refine sS ?_;refine aops_nil ?_;refine awp_seq ?_;refine awp_cond rfl (fun h1=> ?_) (fun h1=> ?_)
  ·simp only [nf] at h1;refine awp_skip ?_;refine awp_seq ?_;refine awp_block ?_;refine awp_seq ?_;have hkl:k<z.stages.length:=by omega
   refine awp_region ?_;refine sM ?_;refine sA ?_;refine aops_nil ?_;refine awp_region ?_;refine sM ?_;refine sM ?_;refine sM ?_;refine st_p (fun _=>by exact y_indexArr (.plain rfl) (.plain rfl) rfl (by omega)) rfl ?_;refine st_s (fun _=>by exact y_store (by rfl) rfl (.plain rfl) (.plain rfl) (by exact .here) (by rw [ec_len];simp;omega)) ?_;refine aops_nil ?_;rw [ec_setN _ _ (by omega),ec_congr (g:=fun j=>if j<((k+1:Nat):Int) then j else 0) (fun j hj=>by split<;>split<;>omega)];refine awp_region ?_;refine sY ?_ (hb:=by omega);refine sM ?_;refine aops_nil ?_;refine⟨k+1,by omega,by omega,?_⟩;exact Weak.of2 (by (repeat (first|exact .nil _|refine .cons rfl (by exact AV.Imp.refl _) ?_));done) (by (repeat (exact .refl _));done)
  ·simp only [nf] at h1;refine awp_exit ?_;refine awp_seq ?_;refine awp_seq ?_;rw [ec_congr (g:=fun j=>j) (fun j hj=>by rw [if_pos (by omega)])];refine awp_region ?_;refine sF ?_;refine sL k1 ?_;refine sN ?_;refine sM ?_;refine aops_nil ?_;refine awp_block ?_;refine awp_loop2 (X:=Nat×(Int→Int)) [3,26,27] (.cons rfl (.cons rfl (.cons rfl .nil))) (fun σ x=>((28,.int (x.1:Int)):Nat×AV)::σ) (fun R x=> .cells nE (ec z.stages.length x.2)::R) (fun x=>x.1≤z.pipes.length∧Pn.circ z=Pn.circF z.stages.length (z.pipes.drop x.1) x.2) (fun x=>z.pipes.length - x.1) (0,fun j=>j) (by exact Weak.of2 (by (repeat (first|exact .nil _|refine .cons rfl (by exact AV.Imp.refl _) ?_));done) (by (repeat (exact .refl _));done)) ⟨Nat.zero_le _,rfl⟩ ?_;rintro⟨k,g⟩ ⟨hk,hinv⟩;simp only at hk hinv;dsimp only;refine asr ?_;refine sS ?_;refine aops_nil ?_;refine awp_seq ?_;refine awp_cond rfl (fun h2=> ?_) (fun h2=> ?_)
   ·simp only [nf] at h2;have hkp:k<z.pipes.length:=by omega
    refine awp_skip ?_;refine awp_seq ?_;refine awp_block ?_;refine asr ?_;refine st_p (fun _=>by exact y_indexMap (.plain rfl) (.plain rfl) rfl (by refine⟨?_,?_⟩;(omega);rfl)) rfl ?_;refine sV ?_;refine sC fun nP=> ?_;refine st_s (fun _=>by exact y_storeW (by rfl) rfl (.plain rfl) (.plain rfl) (by exact .here) (by rfl)) ?_;refine aops_nil ?_;refine awp_seq ?_;have hpk:=hp _ (List.getElem_mem hkp);refine awp_any0 (ks:=[.free,.free,.free,.free,.free,.free,.free,.free,.free,.free,.free,.free]) (by kernel_rfl) (fun K=> ?_) ?_
    ·refine rM ?_;refine rF ?_;refine rL .here ?_;refine dr_p (fun _=>by exact y_indexArr (.plain rfl) (.plain rfl) (Int.toNat_of_nonneg (a:=z.pipes[k].from_) (by omega)).symm (by omega)) rfl ?_;refine dr_p (fun _=>by exact y_load (.plain rfl) (by exact k1) (ec_get (m:=z.stages.length) _ (t:=z.pipes[k].from_) (by omega))) rfl ?_;refine rM ?_;refine rF ?_;refine rL .here ?_;refine dr_p (fun _=>by exact y_indexArr (.plain rfl) (.plain rfl) (Int.toNat_of_nonneg (a:=z.pipes[k].to_) (by omega)).symm (by omega)) rfl ?_;refine dr_p (fun _=>by exact y_load (.plain rfl) (by exact k1) (ec_get (m:=z.stages.length) _ (t:=z.pipes[k].to_) (by omega))) rfl ?_;refine rA ?_;refine rA ?_;refine dr_nil ⟨rfl,?_⟩;refine awp_seq ?_;refine asr ?_;refine sM ?_;refine sM ?_;refine sQ ?_;refine aops_nil ?_;refine awp_cond rfl (fun h3=> ?_) (fun h3=> ?_)
     ·simp only [nf] at h3;refine asr ?_;refine sA ?_;refine aops_nil ?_;refine awp_ret ?_;refine retG (.inr rfl) (.cons (.tmp rfl) .nil) (VShift.of1 (AV.Imp.refl _) (.nil _)) ⟨congrArg (fun x:(Bool)=>(AV.bool x)) (show _=(Pn.circ z) from ?_),rfl⟩;rw [hinv,List.drop_eq_getElem_cons hkp,Pn.circF,if_pos (by assumption)]
     ·simp only [nf] at h3;have hab:=h3;refine awp_skip ?_;refine asr ?_;refine sM ?_;refine st_p (fun _=>by exact y_lenArr (.plain rfl)) rfl ?_;refine sM ?_;refine aops_nil ?_;refine awp_block ?_;refine awp_loop2 (X:=Nat) [3,7,8,26,27,28,45,46] (.cons rfl (.cons rfl (.cons rfl (.cons rfl (.cons rfl (.cons rfl (.cons rfl (.cons rfl .nil)))))))) (fun σ x=>((47,.int (x:Int)):Nat×AV)::σ) (fun R x=> .cells nE (ec z.stages.length (Pn.upd g (g z.pipes[k].from_) (g z.pipes[k].to_) x))::R) (fun x=>x≤z.stages.length) (fun x=>z.stages.length - x) 0 (by rw [ec_upd0 z.stages.length g (g z.pipes[k].from_) (g z.pipes[k].to_)];exact Weak.of2 (by (repeat (first|exact .nil _|refine .cons rfl (by exact AV.Imp.refl _) ?_));done) (by (repeat (first|exact .refl _|apply ItLe2.cons (by exact k1)));done)) (Nat.zero_le _) ?_;rintro j hj;refine asr ?_;refine sS ?_;refine aops_nil ?_;refine awp_seq ?_;refine awp_cond rfl (fun h4=> ?_) (fun h4=> ?_)
      ·simp only [nf] at h4;have hjl:j<z.stages.length:=by omega
       refine awp_skip ?_;refine awp_seq ?_;refine awp_block ?_;refine asr ?_;refine sM ?_;refine st_p (fun _=>by exact y_indexArr (.plain rfl) (.plain rfl) rfl (by omega)) rfl ?_;refine st_p (fun _=>by exact y_load (.plain rfl) (by exact .here) (ec_getN (m:=z.stages.length) _ (by omega))) rfl ?_;refine sA ?_;refine sA ?_;refine aops_nil ?_;refine asr ?_;refine sM ?_;refine sM ?_;refine sQ ?_;refine aops_nil ?_;refine awp_cond rfl (fun h5=> ?_) (fun h5=> ?_)
       ·simp only [nf] at h5;have hjb:g (j:Int)=(g z.pipes[k].to_):=by rw [←Pn.upd_at g (g z.pipes[k].from_) (g z.pipes[k].to_) (j:Int)];exact h5
        refine awp_region ?_;refine sM ?_;refine sM ?_;refine sM ?_;refine st_p (fun _=>by exact y_indexArr (.plain rfl) (.plain rfl) rfl (by omega)) rfl ?_;refine st_s (fun _=>by exact y_store (by rfl) rfl (.plain rfl) (.plain rfl) (by exact .here) (by rw [ec_len];simp;omega)) ?_;refine aops_nil ?_;rw [ec_setN _ _ (by omega),ec_congr (g:=Pn.upd g (g z.pipes[k].from_) (g z.pipes[k].to_) ((j+1:Nat):Int)) (fun i hi=>Pn.upd_t hjb i)];refine awp_region ?_;refine sY ?_ (hb:=by omega);refine sM ?_;refine aops_nil ?_;refine⟨j+1,by omega,by omega,?_⟩;exact Weak.of2 (by (repeat (first|exact .nil _|refine .cons rfl (by exact AV.Imp.refl _) ?_));done) (by (repeat (exact .refl _));done)
       ·simp only [nf] at h5;have hjb: ¬ g (j:Int)=(g z.pipes[k].to_):=by rw [←Pn.upd_at g (g z.pipes[k].from_) (g z.pipes[k].to_) (j:Int)];exact h5
        refine awp_skip ?_;refine awp_region ?_;refine sY ?_ (hb:=by omega);refine sM ?_;refine aops_nil ?_;refine⟨j+1,by omega,by omega,?_⟩;rw [ec_congr (g:=Pn.upd g (g z.pipes[k].from_) (g z.pipes[k].to_) ((j+1:Nat):Int)) (fun i hi=>Pn.upd_f hjb i)];exact Weak.of2 (by (repeat (first|exact .nil _|refine .cons rfl (by exact AV.Imp.refl _) ?_));done) (by (repeat (exact .refl _));done)
      ·simp only [nf] at h4;obtain rfl:j=z.stages.length:=by omega
       refine awp_exit ?_;refine awp_region ?_;refine sY ?_ (hb:=by omega);refine sM ?_;refine aops_nil ?_;refine⟨(k+1,Pn.upd g (g z.pipes[k].from_) (g z.pipes[k].to_) z.stages.length),⟨by show k+1≤_;omega,?_⟩,by show z.pipes.length - (k+1)<z.pipes.length - k;omega,?_⟩
       ·rw [hinv,List.drop_eq_getElem_cons hkp,Pn.circF,if_neg hab]
       ·dsimp only;exact Weak.of2 (by (repeat (first|exact .nil _|refine .cons rfl (by exact AV.Imp.refl _) ?_));done) (by (repeat (first|exact .nil _|apply ItLe2.cons (by first|exact .here|exact k1)));done)
    ·kernel_rfl
   ·simp only [nf] at h2;refine awp_exit ?_;refine asr ?_;refine sA ?_;refine aops_nil ?_;refine awp_ret ?_;refine retG (.inr rfl) (.cons (.tmp rfl) .nil) (VShift.of1 (AV.Imp.refl _) (.nil _)) ⟨congrArg (fun x:(Bool)=>(AV.bool x)) (show _=(Pn.circ z) from ?_),rfl⟩;rw [hinv,List.drop_eq_nil_of_le (by omega),Pn.circF]
theorem pchk_c (z:Pn.Pl) :ACalls Tryz.prog 18 [(AV.agg (encPl z))] [] (fun v st=>v=(AV.int (Pn.pchk z))∧st=[]):=by
  refine acalls_body Tryz.func18 (by kernel_rfl) rfl Tryz.ntmps18 (le_ rfl) ?_;rw [Tryz.results18];refine asr ?_;refine sB fun n1=> ?_;refine sA ?_;refine aops_nil ?_;refine awp_seq ?_;refine asr ?_;refine sF ?_;refine sL .here ?_;refine sN ?_;refine aops_call (blt_lt rfl) (.plain rfl) (.cons (.plain rfl) (.cons (.plain rfl) (.cons (.plain rfl) .nil))) (ACalls.here (within_c _ _ _) ?_);refine sO ?_;refine aops_nil ?_;refine awp_cond rfl (fun h1=> ?_) (fun h1=> ?_)
  ·simp only [nf] at h1;refine asr ?_;refine sA ?_;refine aops_nil ?_;refine awp_ret ?_;refine retG (.inr rfl) (.cons (.tmp rfl) .nil) (VShift.of1 (AV.Imp.refl _) (.nil _)) ⟨congrArg (fun x:(Int)=>(AV.int x)) (show _=(Pn.pchk z) from ?_),rfl⟩;rw [Pn.pchk,if_pos (by assumption)]
  ·simp only [nf] at h1;have hw16:1≤(z.stages.length:Int)∧(z.stages.length:Int)≤16:=Sv.win_t.1 (by simpa using h1);refine awp_skip ?_;refine asr ?_;refine sA ?_;refine aops_nil ?_;refine awp_seq ?_;refine asr ?_;refine sF ?_;refine sL .here ?_;refine sN ?_;refine sM ?_;refine aops_nil ?_;refine awp_block ?_;refine awp_loop2 (X:=Nat×Int) [1,15,16] (.cons rfl (.cons rfl (.cons rfl .nil))) (fun σ x=>((3,.int x.2):Nat×AV)::((17,.int (x.1:Int)):Nat×AV)::σ) (fun R x=>R) (fun x=>x.1≤z.stages.length∧(Pn.stgE z=Pn.fst0 ((z.stages.drop x.1).map Pn.sgchk)∧Pn.ends z.stages=x.2+Pn.ends (z.stages.drop x.1)∧0≤x.2∧x.2≤4*(x.1:Int))) (fun x=>z.stages.length - x.1) (0,0) (by exact Weak.of2 (by (repeat (first|exact .nil _|refine .cons rfl (by exact AV.Imp.refl _) ?_));done) (by (repeat (exact .refl _));done)) ⟨Nat.zero_le _,rfl,by rw [List.drop_zero];omega,by decide,by decide⟩ ?_;rintro⟨k,m⟩ ⟨hk,hinv⟩;simp only at hk hinv;obtain⟨i1,i2,i3,i4⟩:=hinv;dsimp only;refine asr ?_;refine sS ?_;refine aops_nil ?_;refine awp_seq ?_;refine awp_cond rfl (fun h2=> ?_) (fun h2=> ?_)
   ·simp only [nf] at h2;have hkl:k<z.stages.length:=by omega
    have hsb:=Pn.sio_bd z.stages[k];refine awp_skip ?_;refine awp_seq ?_;refine awp_block ?_;refine asr ?_;refine st_p (fun _=>by exact y_indexMap (.plain rfl) (.plain rfl) rfl (by refine⟨?_,?_⟩;(omega);rfl)) rfl ?_;refine sV ?_;refine sC fun nS=> ?_;refine st_s (fun _=>by exact y_storeW (by rfl) rfl (.plain rfl) (.plain rfl) (by exact .here) (by rfl)) ?_;refine aops_nil ?_;refine awp_seq ?_;refine asr ?_;refine sW .here ?_;refine aops_call (blt_lt rfl) (.plain rfl) (.cons (.imp (.plain rfl) (AV.Imp.agg (RowOf.imp (enc:=encSg)))) .nil) (ACalls.here (sgchk_c _) ?_);refine sA ?_;refine aops_nil ?_;refine asr ?_;refine sM ?_;refine sR ?_;refine aops_nil ?_;refine awp_cond rfl (fun h3=> ?_) (fun h3=> ?_)
    ·simp only [nf] at h3;refine asr ?_;refine sM ?_;refine sA ?_;refine aops_nil ?_;refine awp_ret ?_;refine retG (.inr rfl) (.cons (.tmp rfl) .nil) (VShift.of1 (AV.Imp.refl _) (.nil _)) ⟨congrArg (fun x:(Int)=>(AV.int x)) (show _=(Pn.pchk z) from ?_),rfl⟩;have hE:Pn.stgE z=Pn.sgchk z.stages[k]:=by rw [i1,List.drop_eq_getElem_cons hkl,List.map_cons,Pn.fst0,if_pos h3]
     rw [Pn.pchk,if_neg (by simp [h1]),hE,if_pos h3]
    ·simp only [nf] at h3;have hs0:Pn.sgchk z.stages[k]=0:=by omega
     refine awp_skip ?_;refine awp_any0 (ks:=[.free,.free,.free,.free,.free,.free,.free,.free]) (by kernel_rfl) (fun K=> ?_) ?_
     ·refine rM ?_;refine rW .here ?_;refine dr_p (fun _=>by exact y_call (.plain rfl) (.cons (.imp (.plain rfl) (AV.Imp.agg (RowOf.imp (enc:=encSg)))) .nil) (ACalls.pure (sinp_c _))) rfl ?_;refine rW .here ?_;refine dr_p (fun _=>by exact y_call (.plain rfl) (.cons (.imp (.plain rfl) (AV.Imp.agg (RowOf.imp (enc:=encSg)))) .nil) (ACalls.pure (sout_c _))) rfl ?_;refine rY ?_ (hb:=by omega);refine rY ?_ (hb:=by omega);refine rA ?_;refine dr_nil ⟨rfl,?_⟩;refine awp_region ?_;refine sY ?_ (hb:=by omega);refine sM ?_;refine aops_nil ?_;refine⟨(k+1,m+(Pn.sinp z.stages[k]+Pn.sout z.stages[k])),⟨by show k+1≤_;omega,?_,?_,by show 0≤m+_;omega,by show m+_≤4*((k+1:Nat):Int);omega⟩,by show z.stages.length - (k+1)<z.stages.length - k;omega,?_⟩
      ·rw [i1,List.drop_eq_getElem_cons hkl,List.map_cons,Pn.fst0,if_neg (fun h=>h hs0)]
      ·rw [i2,List.drop_eq_getElem_cons hkl];show m+List.sum (_::_)=_;rw [List.sum_cons];show m+(Pn.sinp z.stages[k]+Pn.sout z.stages[k]+_)=m+(Pn.sinp z.stages[k]+Pn.sout z.stages[k])+Pn.ends (z.stages.drop (k+1));unfold Pn.ends;omega
      ·dsimp only;exact Weak.of2 (by (repeat (first|exact .nil _|refine .cons rfl (by exact AV.Imp.refl _) ?_));done) (by (repeat (first|exact .nil _|apply ItLe2.cons (by exact k1)));done)
     ·kernel_rfl
   ·simp only [nf] at h2;obtain rfl:k=z.stages.length:=by omega
    rw [List.drop_length] at i1 i2;have i5:Pn.ends ([]:List Pn.Sg)=0:=rfl;refine awp_exit ?_;refine awp_seq ?_;refine asr ?_;refine sF ?_;refine sL .here ?_;refine sN ?_;refine sG ?_;refine aops_nil ?_;refine awp_cond rfl (fun h4=> ?_) (fun h4=> ?_)
    ·simp only [nf] at h4;refine asr ?_;refine sA ?_;refine aops_nil ?_;refine awp_ret ?_;refine retG (.inr rfl) (.cons (.tmp rfl) .nil) (VShift.of1 (AV.Imp.refl _) (.nil _)) ⟨congrArg (fun x:(Int)=>(AV.int x)) (show _=(Pn.pchk z) from ?_),rfl⟩;rw [Pn.pchk,if_neg (by simp [h1]),if_neg (fun h=>h i1),if_pos (by omega)]
    ·simp only [nf] at h4;refine awp_skip ?_;refine awp_seq ?_;refine asr ?_;refine sF ?_;refine sL .here ?_;refine sN ?_;refine sM ?_;refine aops_nil ?_;refine awp_block ?_;refine awp_loop2 (X:=Nat) [1,3,40] (.cons rfl (.cons rfl (.cons rfl .nil))) (fun σ x=>((41,.int (x:Int)):Nat×AV)::σ) (fun R x=>R) (fun x=>x≤z.pipes.length∧Pn.pipE z=Pn.fst0 (((List.range z.pipes.length).drop x).map (Pn.chkP z))) (fun x=>z.pipes.length - x) 0 (by exact Weak.of2 (by (repeat (first|exact .nil _|refine .cons rfl (by exact AV.Imp.refl _) ?_));done) (by (repeat (exact .refl _));done)) ⟨Nat.zero_le _,rfl⟩ ?_;rintro j ⟨hj,hinv⟩;refine asr ?_;refine sS ?_;refine aops_nil ?_;refine awp_seq ?_;refine awp_cond rfl (fun h5=> ?_) (fun h5=> ?_)
     ·simp only [nf] at h5;have hjl:j<z.pipes.length:=by omega
      refine awp_skip ?_;refine awp_seq ?_;refine awp_block ?_;refine asr ?_;refine sM ?_;refine sA ?_;refine aops_nil ?_;refine asr ?_;refine sW .here ?_;refine sM ?_;refine aops_call (blt_lt rfl) (.plain rfl) (.cons (.imp (.plain rfl) (AV.Imp.agg (RowOf.imp (enc:=encPl)))) (.cons (.plain rfl) .nil)) (ACalls.here (chkP_c z j ⟨by omega,by omega⟩ hjl) ?_);refine sA ?_;refine aops_nil ?_;refine asr ?_;refine sM ?_;refine sR ?_;refine aops_nil ?_;refine awp_cond rfl (fun h6=> ?_) (fun h6=> ?_)
      ·simp only [nf] at h6;refine asr ?_;refine sM ?_;refine sA ?_;refine aops_nil ?_;refine awp_ret ?_;refine retG (.inr rfl) (.cons (.tmp rfl) .nil) (VShift.of1 (AV.Imp.refl _) (.nil _)) ⟨congrArg (fun x:(Int)=>(AV.int x)) (show _=(Pn.pchk z) from ?_),rfl⟩;have hE:Pn.pipE z=Pn.chkP z j:=by rw [hinv,List.drop_eq_getElem_cons (by rw [List.length_range];omega),List.map_cons,List.getElem_range,Pn.fst0,if_pos h6]
       rw [Pn.pchk,if_neg (by simp [h1]),if_neg (fun h=>h i1),if_neg (by omega),hE,if_pos h6]
      ·simp only [nf] at h6;refine awp_skip ?_;refine awp_region ?_;refine sY ?_ (hb:=by omega);refine sM ?_;refine aops_nil ?_;refine⟨j+1,⟨by omega,?_⟩,by omega,?_⟩
       ·rw [hinv,List.drop_eq_getElem_cons (by rw [List.length_range];omega),List.map_cons,List.getElem_range,Pn.fst0,if_neg (fun h=>h (by omega))]
       ·exact Weak.of2 (by (repeat (first|exact .nil _|refine .cons rfl (by exact AV.Imp.refl _) ?_));done) (by (repeat (exact .refl _));done)
     ·simp only [nf] at h5;obtain rfl:j=z.pipes.length:=by omega
      rw [List.drop_eq_nil_of_le (by simp)] at hinv;refine awp_exit ?_;refine awp_seq ?_;refine asr ?_;refine sM ?_;refine sF ?_;refine sL .here ?_;refine sN ?_;refine st_p (fun _=>by exact y_mul (.plain rfl) (.plain rfl) (by omega)) rfl ?_;refine sR ?_;refine aops_nil ?_;refine awp_cond rfl (fun h7=> ?_) (fun h7=> ?_)
      ·simp only [nf] at h7;refine asr ?_;refine sA ?_;refine aops_nil ?_;refine awp_ret ?_;refine retG (.inr rfl) (.cons (.tmp rfl) .nil) (VShift.of1 (AV.Imp.refl _) (.nil _)) ⟨congrArg (fun x:(Int)=>(AV.int x)) (show _=(Pn.pchk z) from ?_),rfl⟩;rw [Pn.pchk,if_neg (by simp [h1]),if_neg (fun h=>h i1),if_neg (by omega),if_neg (fun h=>h hinv),if_pos (by omega)]
      ·simp only [nf] at h7;have hok:Pn.stgE z=0∧Pn.pipE z=0:=⟨i1,hinv⟩
       have hpp:=Pn.pp_of hok.1 hok.2;refine awp_skip ?_;refine awp_seq ?_;refine asr ?_;refine sW .here ?_;refine aops_call (blt_lt rfl) (.plain rfl) (.cons (.imp (.plain rfl) (AV.Imp.agg (RowOf.imp (enc:=encPl)))) .nil) (ACalls.here (circ_c z ⟨by omega,by omega⟩ hpp) ?_);refine aops_nil ?_;refine awp_cond rfl (fun h8=> ?_) (fun h8=> ?_)
       ·refine asr ?_;refine sA ?_;refine aops_nil ?_;refine awp_ret ?_;refine retG (.inr rfl) (.cons (.tmp rfl) .nil) (VShift.of1 (AV.Imp.refl _) (.nil _)) ⟨congrArg (fun x:(Int)=>(AV.int x)) (show _=(Pn.pchk z) from ?_),rfl⟩;rw [Pn.pchk,if_neg (by simp [h1]),if_neg (fun h=>h i1),if_neg (by omega),if_neg (fun h=>h hinv),if_neg (by omega),if_pos (by assumption)]
       ·refine awp_skip ?_;refine asr ?_;refine sA ?_;refine aops_nil ?_;refine awp_ret ?_;refine retG (.inr rfl) (.cons (.tmp rfl) .nil) (VShift.of1 (AV.Imp.refl _) (.nil _)) ⟨congrArg (fun x:(Int)=>(AV.int x)) (show _=(Pn.pchk z) from ?_),rfl⟩;rw [Pn.pchk,if_neg (by simp [h1]),if_neg (fun h=>h i1),if_neg (by omega),if_neg (fun h=>h hinv),if_neg (by omega),if_neg (by simp_all)]
end Go.Proofs
namespace Go.Aw
open Pn
theorem repFlat_imp {Z W:List AV} (h:ImpL Z W): ∀ n,ImpL (List.replicate n Z).flatten (List.replicate n W).flatten
  |0=> .nil
  |n+1=>by
   rw [List.replicate_succ,List.replicate_succ,List.flatten_cons,List.flatten_cons];exact h.append (repFlat_imp h n)
theorem zst_imp:ImpL [.val (.slice none 0 0),.val (.int .i64 0),.val (.bool false)] (encSt S0):= .cons (Sl.imp (enc:=encI)) (.cons (AV.Imp.refl _) (.cons (AV.Imp.refl _) .nil))
theorem zli_imp:ImpL [.val (.slice none 0 0)] (encLI []):= .cons (Sl.imp (enc:=encI)) .nil
theorem Weak.newFs {n:Nat} {σ:Fr} {st own:List Item} {a na nb N M:Nat} {v w:AV}
  (ht:Takes st [.cells na (List.replicate N [.val (.slice none 0 0),.val (.int .i64 0),.val (.bool false)]).flatten,.cells nb (List.replicate M [.val (.slice none 0 0)]).flatten,.cells a [.arr na 0 N,v,.arr nb 0 M,w]] own):
  Weak n σ st σ (.cells a [.sl 3 ((List.replicate N S0).map encSt),v,.sl 1 ((List.replicate M []).map encLI),w]::own):=by
  refine Weak.trans (Weak.perm ht.perm) ?_;refine Weak.trans (Weak.items2 (.cells .here (repFlat_imp zst_imp N) (.cells .here (repFlat_imp zli_imp M) (.refl _)))) ?_;have h1:=Weak.freezeC (n:=n) (σ:=σ) (a:=a) (i:=0) (j:=na) (sz:=3) (cs:=[.arr na 0 N,v,.arr nb 0 M,w]) (xs:=List.replicate N (encSt S0)) (pad:=[]) (st:= .cells na (List.replicate N (encSt S0)).flatten:: .cells nb (List.replicate M (encLI [])).flatten:: .cells a [.arr na 0 N,v,.arr nb 0 M,w]::own) (r:= .cells nb (List.replicate M (encLI [])).flatten::own)
   (by intro x hx;rw [(List.mem_replicate.1 hx).2];rfl) (by rw [List.length_replicate];rfl) (.cons (by rw [List.append_nil];exact .here) (.cons (.there .here) (.nil _)))
  refine Weak.trans h1 ?_;have h2:=Weak.freezeC (n:=n) (σ:=σ) (a:=a) (i:=2) (j:=nb) (sz:=1) (cs:=[.sl 3 (List.replicate N (encSt S0)),v,.arr nb 0 M,w]) (xs:=List.replicate M (encLI [])) (pad:=[]) (st:= .cells a [.sl 3 (List.replicate N (encSt S0)),v,.arr nb 0 M,w]:: .cells nb (List.replicate M (encLI [])).flatten::own) (r:=own)
   (by intro x hx;rw [(List.mem_replicate.1 hx).2];rfl) (by rw [List.length_replicate];rfl) (.cons (by rw [List.append_nil];exact .there .here) (.cons .here (.nil _)))
  rw [List.map_replicate,List.map_replicate];exact h2
end Go.Aw
namespace Pn
theorem snk_t {l:List Sg} {k:Nat} (hk:k<l.length) (h:l[k].kind=10):snk (l.take k)+1=snk (l.take (k+1)):=by
  unfold snk;rw [List.take_add_one,List.getElem?_eq_getElem hk,Option.toList_some,List.filter_append,List.length_append];simp [h]
theorem snk_f {l:List Sg} {k:Nat} (hk:k<l.length) (h: ¬ l[k].kind=10):snk (l.take k)=snk (l.take (k+1)):=by
  unfold snk;rw [List.take_add_one,List.getElem?_eq_getElem hk,Option.toList_some,List.filter_append,List.length_append];simp [h]
theorem snk_bd (l:List Sg):0≤snk l∧snk l≤l.length:=by
  unfold snk;have:=List.length_filter_le (fun s:Sg=>decide (s.kind=10)) l;omega
theorem crK_succ {z:Pl} {k:Nat} (hk:k<z.pipes.length):(z.pipes.take k).map (fun y=>cr0 y.capacity)++[cr0 z.pipes[k].capacity]=(z.pipes.take (k+1)).map (fun y=>cr0 y.capacity):=by
  rw [List.take_add_one,List.getElem?_eq_getElem hk,Option.toList_some,List.map_append];rfl
theorem cnew_len (c:Int):(cnew c).1.items.length≤0:=by unfold cnew;split<;>exact Nat.le_refl _
end Pn
set_option maxRecDepth 10000
namespace Go.Proofs
open Go.Aw Wl Pn
theorem snk_c (l:List Pn.Sg) (hl:l.length≤1000000):ACalls Tryz.prog 20 [(AV.sl 8 (List.map encSg l))] [] (fun v st=>v=(AV.int (Pn.snk l))∧st=[]):=by
  refine acalls_body Tryz.func20 (by kernel_rfl) rfl Tryz.ntmps20 (le_ rfl) ?_;rw [Tryz.results20];refine asr ?_;refine sA ?_;refine aops_nil ?_;refine asr ?_;refine sA ?_;refine aops_nil ?_;refine awp_seq ?_;refine asr ?_;refine sM ?_;refine sN ?_;refine sM ?_;refine aops_nil ?_;refine awp_block ?_;refine awp_loop2 (X:=Nat) [6,7] (.cons rfl (.cons rfl .nil)) (fun σ x=>((3,.int (Pn.snk (l.take x))):Nat×AV)::((8,.int (x:Int)):Nat×AV)::σ) (fun R x=>R) (fun x=>x≤l.length) (fun x=>l.length - x) 0 (by exact Weak.of2 (by (repeat (first|exact .nil _|refine .cons rfl (by exact AV.Imp.refl _) ?_));done) (by (repeat (exact .refl _));done)) (Nat.zero_le _) ?_;rintro k hk;have hsb:=Pn.snk_bd (l.take k);rw [List.length_take] at hsb;refine asr ?_;refine sS ?_;refine aops_nil ?_;refine awp_seq ?_;refine awp_cond rfl (fun h1=> ?_) (fun h1=> ?_)
  ·simp only [nf] at h1;have hkl:k<l.length:=by omega
   refine awp_skip ?_;refine awp_seq ?_;refine awp_block ?_;refine asr ?_;refine st_p (fun _=>by exact y_indexMap (.plain rfl) (.plain rfl) rfl (by refine⟨?_,?_⟩;(omega);rfl)) rfl ?_;refine sV ?_;refine sC fun nS=> ?_;refine st_s (fun _=>by exact y_storeW (by rfl) rfl (.plain rfl) (.plain rfl) (by exact .here) (by rfl)) ?_;refine aops_nil ?_;refine asr ?_;refine sF ?_;refine sL .here ?_;refine sQ ?_;refine aops_nil ?_;refine awp_cond rfl (fun h2=> ?_) (fun h2=> ?_)
   ·simp only [nf] at h2;refine awp_region ?_;refine sM ?_;refine sY ?_ (hb:=by omega);refine sA ?_;refine aops_nil ?_;refine awp_region ?_;refine sY ?_ (hb:=by omega);refine sM ?_;refine aops_nil ?_;refine⟨k+1,by omega,by omega,?_⟩;rw [←Pn.snk_t hkl (by omega)];exact Weak.of2 (by (repeat (first|exact .nil _|refine .cons rfl (by exact AV.Imp.refl _) ?_));done) (by (repeat (exact .nil _));done)
   ·simp only [nf] at h2;refine awp_skip ?_;refine awp_region ?_;refine sY ?_ (hb:=by omega);refine sM ?_;refine aops_nil ?_;refine⟨k+1,by omega,by omega,?_⟩;rw [←Pn.snk_f hkl (by omega)];exact Weak.of2 (by (repeat (first|exact .nil _|refine .cons rfl (by exact AV.Imp.refl _) ?_));done) (by (repeat (exact .nil _));done)
  ·simp only [nf] at h1;refine awp_exit ?_;refine asr ?_;refine sM ?_;refine sA ?_;refine aops_nil ?_;refine awp_ret ?_;refine retG (.inr rfl) (.cons (.tmp rfl) .nil) (VShift.of1 (AV.Imp.refl _) (.nil _)) ⟨congrArg (fun x:(Int)=>(AV.int x)) (show _=(Pn.snk l) from ?_),rfl⟩;obtain rfl:k=l.length:=by omega
   rw [List.take_length]
theorem pnew_c (z:Pn.Pl) (hz:z.stages.length≤1000000∧z.pipes.length≤1000000):ACalls Tryz.prog 7 [(AV.agg (encPl z))] [] (fun v st=>v=(AV.tup [(AV.agg (encFs ((Pn.pnew z).1))),(AV.int ((Pn.pnew z).2))])∧st=[]):=by
  refine acalls_body Tryz.func7 (by kernel_rfl) rfl Tryz.ntmps7 (le_ rfl) ?_;rw [Tryz.results7];have hsn:=Pn.snk_bd z.stages;refine asr ?_;refine sB fun n1=> ?_;refine sC fun n2=> ?_;refine sA ?_;refine aops_nil ?_;refine awp_seq ?_;refine asr ?_;refine sW k1 ?_;refine aops_call (blt_lt rfl) (.plain rfl) (.cons (.imp (.plain rfl) (AV.Imp.agg (RowOf.imp (enc:=encPl)))) .nil) (ACalls.here (pchk_c z) ?_);refine sA ?_;refine aops_nil ?_;refine asr ?_;refine sM ?_;refine sR ?_;refine aops_nil ?_;refine awp_cond rfl (fun h1=> ?_) (fun h1=> ?_)
  ·simp only [nf] at h1;refine asr ?_;refine st_p (fun _=>by exact y_build (out:=[_,_,_,_]) .nil rfl rfl) rfl ?_;refine sM ?_;refine st_s (fun _=>by exact y_storeW (by rfl) rfl (.plain rfl) (.plain rfl) (by exact .here) (by rfl)) ?_;refine sA ?_;refine aops_nil ?_;refine awp_ret ?_;refine retG (.inr rfl) (.cons (res_cellW rfl (by exact .here) (by rfl)) (.cons (.tmp rfl) .nil)) (VShift.of2 (AV.Imp.tup (.cons (AV.Imp.agg (RowOf.imp (enc:=encFs))) (.cons (AV.Imp.refl _) .nil))) (.nil _)) ⟨congrArg (fun x:(Pn.Fs)×(Int)=>(AV.tup [(AV.agg (encFs x.1)),(AV.int x.2)])) (show (_,_)=(Pn.pnew z) from ?_),rfl⟩;rw [Pn.pnew,if_pos (show Pn.pchk z≠0 by omega)];all_goals rfl
  ·simp only [nf] at h1;refine awp_skip ?_;refine awp_seq ?_;have hpo:=Pn.pchk_ok.1 (show Pn.pchk z=0 by omega);have hpn:=hpo.n;refine awp_anyT (ks:=[.free,.free,.free,.new,.free,.free,.free,.new,.free,.new,.write]) [] (.nil _) (by kernel_rfl) (fun K=> ?_) ?_
   ·refine rF ?_;refine rL k1 ?_;refine rN ?_;refine dr_new (fun _ _=>by exact y_makeArr (by rfl) (.plain rfl) (.plain rfl) rfl (by omega)) rfl fun na=> ?_;refine rF ?_;refine rL k1 ?_;refine dr_p (fun _=>by exact y_call (.plain rfl) (.cons (.imp (.plain rfl) (Sl.imp (enc:=encSg))) .nil) (ACalls.pure (snk_c _ (by omega)))) rfl ?_;refine dr_new (fun _ _=>by exact y_makeArr (n:=(Pn.snk z.stages).toNat) (by rfl) (.plain rfl) (.plain rfl) (Int.toNat_of_nonneg hsn.1).symm (by omega)) rfl fun nb=> ?_;refine dr_p (fun _=>by exact y_build (out:=[_,_,_,_]) (.cons (.plain rfl) inferInstance rfl (.cons (.plain rfl) inferInstance rfl .nil)) rfl rfl) rfl ?_;refine dr_new (fun _ _=>by exact y_alloc) rfl fun n5=> ?_;refine dr_s (fun _=>by exact y_storeW (by rfl) rfl (.plain rfl) (.plain rfl) (by exact .here) (by rfl)) ?_;refine dr_nil ?_;refine awp_seq ?_;refine awp_seq ?_;refine awp_weak (Weak.newFs (a:=n5) (na:=na) (nb:=nb) (by apply Takes.cons (by exact k2);apply Takes.cons (by exact k1);apply Takes.cons (by exact .here);exact .nil _)) ?_;refine awp_region ?_;refine sF ?_;refine sL k2 ?_;refine sN ?_;refine sM ?_;refine aops_nil ?_;refine awp_block ?_;refine awp_loop2 (X:=Nat×Option Nat) [2,5,26,27] (.cons rfl (.cons rfl (.cons rfl (.cons rfl .nil)))) (fun σ x=>((28,.int (x.1:Int)):Nat×AV)::σ) (fun R x=> .cells n5 [.sl 3 ((List.replicate z.stages.length Pn.S0).map encSt),.grow 6 x.2 (((z.pipes.take x.1).map (fun y=>Pn.cr0 y.capacity)).map encCr),.sl 1 ((List.replicate (Pn.snk z.stages).toNat ([]:List Int)).map encLI),.bool false]:: .tail x.2::R) (fun x=>x.1≤z.pipes.length) (fun x=>z.pipes.length - x.1) (0,none) (by exact Weak.of2 (by (repeat (first|exact .nil _|refine .cons rfl (by exact AV.Imp.refl _) ?_));done) (by (repeat (first|exact .refl _|apply ItLe2.cells (by exact .here) (by repeat (first|exact .nil|refine .cons (by first|exact AV.Imp.refl _|exact AV.Imp.nil_grow) ?_))|apply ItLe2.tail0));done)) (Nat.zero_le _) ?_;rintro⟨k,tok⟩ hk;simp only at hk;dsimp only;refine asr ?_;refine sS ?_;refine aops_nil ?_;refine awp_seq ?_;refine awp_cond rfl (fun h2=> ?_) (fun h2=> ?_)
    ·simp only [nf] at h2;have hkp:k<z.pipes.length:=by omega
     refine awp_skip ?_;refine awp_seq ?_;refine awp_block ?_;refine asr ?_;refine st_p (fun _=>by exact y_indexMap (.plain rfl) (.plain rfl) rfl (by refine⟨?_,?_⟩;(omega);rfl)) rfl ?_;refine sV ?_;refine sC fun nP=> ?_;refine st_s (fun _=>by exact y_storeW (by rfl) rfl (.plain rfl) (.plain rfl) (by exact .here) (by rfl)) ?_;refine aops_nil ?_;refine awp_seq ?_;have hpc:=(hpo.pip hkp).cap;rw [Pn.pip_get hkp] at hpc;refine awp_region ?_;refine sF ?_;refine sL .here ?_;refine aops_call (blt_lt rfl) (.plain rfl) (.cons (.plain rfl) .nil) (ACalls.here (cnew_c _) ?_);refine sM ?_;refine sE ?_;refine sE ?_;refine sC fun nC=> ?_;refine st_s (fun _=>by exact y_storeW (by rfl) rfl (.plain rfl) (.plain rfl) (by exact .here) (by rfl)) ?_;refine sA ?_;refine aops_nil ?_;refine asr ?_;refine sW .here ?_;refine sF ?_;refine sL k1 ?_;refine aops_call (blt_lt rfl) (.plain rfl) (.cons (.imp (.plain rfl) (AV.Imp.agg (RowOf.imp (enc:=encCr)))) (.cons (.plain rfl) .nil)) (ACalls.here (creq_c _ _ (by have:=Pn.cnew_len z.pipes[k].capacity;omega) (by omega)) ?_);refine sM ?_;refine sE ?_;refine sE ?_;refine st_s (fun _=>by exact y_storeW (by rfl) rfl (.plain rfl) (.plain rfl) (by exact .here) (by rfl)) ?_;refine aops_nil ?_;refine awp_region ?_;refine sF ?_;refine sL k2 ?_;refine sW .here ?_;refine st_p (fun _=>by exact y_buildSlice (.cons (.plain rfl) inferInstance (by rfl) .nil) rfl (le_ rfl)) rfl ?_;refine st_appendT (by rfl) (.plain rfl) (.plain rfl) (by exact k3) (by (simp;try omega)) rfl fun tA=> ?_;refine sF ?_;refine st_storeN (cs':=[_,_,_,_]) (by rfl) rfl (.plain rfl) (.plain rfl) (by exact u3) (le_ rfl) (by rfl) ?_;refine aops_nil ?_;refine awp_region ?_;refine sY ?_ (hb:=by omega);refine sM ?_;refine aops_nil ?_;refine⟨(k+1,tA),by show k+1≤_;omega,by show z.pipes.length - (k+1)<z.pipes.length - k;omega,?_⟩;dsimp only;exact Weak.of2 (by (repeat (first|exact .nil _|refine .cons rfl (by exact AV.Imp.refl _) ?_));done) (by (repeat (first|exact .nil _|apply ItLe2.cons (by first|exact .here|exact k2)|apply ItLe2.cells (by exact k3) (by repeat (first|exact .nil|refine .cons (by first|exact AV.Imp.refl _|exact AV.Imp.grow_of (Pn.crK_succ hkp)) ?_))));done)
    ·simp only [nf] at h2;refine awp_exit ?_;refine asr ?_;refine sW .here ?_;refine st_s (fun _=>by exact y_storeW (by rfl) rfl (.plain rfl) (.plain rfl) (by exact u2) (by rfl)) ?_;refine sA ?_;refine aops_nil ?_;refine awp_ret ?_;refine retG (.inr rfl) (.cons (res_cellW rfl (by exact k2) (by rfl)) (.cons (.tmp rfl) .nil)) (VShift.of2 (AV.Imp.tup (.cons (AV.Imp.agg (RowOf.imp (enc:=encFs))) (.cons (AV.Imp.refl _) .nil))) (.nil _)) ⟨congrArg (fun x:(Pn.Fs)×(Int)=>(AV.tup [(AV.agg (encFs x.1)),(AV.int x.2)])) (show (_,_)=(Pn.pnew z) from ?_),rfl⟩;obtain rfl:k=z.pipes.length:=by omega
     rw [Pn.pnew,if_neg (show ¬ Pn.pchk z≠0 by omega),List.take_length];all_goals rfl
   ·kernel_rfl
end Go.Proofs
namespace Pn
open Sv (win win_t)
structure Fsz (s:Fs):Prop where
  st:s.stages.length≤1000000
  cr:s.credits.length≤1000000
  out:s.outputs.length≤1000000
  items: ∀ c∈s.credits,c.items.length≤1000000
  outs: ∀ l∈s.outputs,l.length≤1000000
theorem Fsz.crd {s:Fs} (h:Fsz s) (k:Int):(crd s k).items.length≤1000000:=by
  unfold Pn.crd;rw [List.getD];cases e:s.credits[k.toNat]? with
  |none=>exact Nat.zero_le _
  |some c=>exact h.items c (List.mem_of_getElem? e)
theorem mgOk_t {l:List Int} (h:mgOk l=true): ∀ i,i<l.length→mgBad l i=false:=by
  unfold mgOk at h;rw [List.all_eq_true] at h;intro i hi;have:=h i (List.mem_range.2 hi);simpa using this
theorem mg_cases {l:List Int} (h:mgOk l=true) (hl:l.length≤2):l=[]∨l=[0]∨l=[1]∨l=[0,1]:=by
  have hb:=mgOk_t h
  match l,hl with
  | [],_=>exact .inl rfl
  | [a],_=>
   have h0:=hb 0 (by simp);unfold mgBad at h0;simp at h0;have:a=0∨a=1:=by omega
   rcases this with e|e<;>subst e<;>simp
  | [a,b],_=>
   have h0:=hb 0 (by simp);have h1:=hb 1 (by simp);unfold mgBad at h0 h1;simp at h0 h1;have:a=0∧b=1:=by omega
   obtain⟨e1,e2⟩:=this;subst e1;subst e2;simp
  |_::_::_::_,hl=>simp at hl
theorem sval8 {y:Sg} {t:Ss} (h:sval y t=true) (hk:y.kind=8):(0≤t.count∧t.count≤1)∧(t.held=[]∨t.held=[0]∨t.held=[1]∨t.held=[0,1])∧(t.ended=true↔t.held=[0,1]):=by
  obtain⟨a,b,c⟩:=sval_ok h;have hb:=(sbnd_k y).2.1 hk;rw [hb] at a b;unfold sval at h;rw [hb] at h;split at h
  ·cases h
  ·split at h
   ·cases h
   ·rw [if_neg (by omega),Bool.and_eq_true] at h;dsimp only at a b;obtain⟨h1,h2⟩:=h;have hc:=mg_cases h1 (by omega);refine⟨a,hc,?_⟩;have h3:t.ended=decide ((t.held.length:Int)=2):=by simpa using h2
    rw [h3];rcases hc with e|e|e|e<;>rw [e]<;>decide
theorem sval9 {y:Sg} {t:Ss} (h:sval y t=true) (hk:y.kind=9):(0≤t.count∧t.count≤3)∧t.held.length≤1∧(t.ended=true↔t.count=3)∧(2≤t.count→t.held=[]):=by
  obtain⟨a,b,c⟩:=sval_ok h;have hb:=(sbnd_k y).1 hk;rw [hb] at a b;unfold sval at h;rw [hb] at h;split at h
  ·cases h
  ·split at h
   ·cases h
   ·rw [if_neg (by omega),if_neg (by omega),Bool.and_eq_true] at h;dsimp only at a b;obtain⟨h1,h2⟩:=h;have h3:t.ended=decide (t.count=3):=by simpa using h1
    refine⟨a,by omega,by rw [h3];simp,fun h4=> ?_⟩;rw [Bool.or_eq_true] at h2;rcases h2 with h5|h5
    ·have:=of_decide_eq_true h5;omega
    ·have:=of_decide_eq_true h5;exact List.eq_nil_of_length_eq_zero (by omega)
theorem hin_pos {k:Int} (h:1≤k∧k≤10) (h1:k≠1):1≤hin k:=by
  rcases kinds h with h|h|h|h|h|h|h|h|h|h<;>subst h<;>first|exact absurd rfl h1|decide
theorem noted_in {y:Sg} {t:Ss} (hy:Sgok y) (hv:sval y t=true): ∀ n∈notedM y t,0≤n∧n<hin y.kind:=by
  intro n hn;unfold notedM at hn;split at hn
  ·rename_i h8;obtain⟨-,h2,-⟩:=sval8 hv h8;rw [h8];show 0≤n∧n<2;rcases h2 with e|e|e|e<;>rw [e] at hn<;>simp at hn<;>omega
  ·split at hn
   ·rename_i h8 h9;obtain⟨h2,-,-,-⟩:=sval9 hv h9;rw [h9];show 0≤n∧n<2;have:t.count=0∨t.count=1∨t.count=2∨t.count=3:=by omega
    rcases this with e|e|e|e<;>rw [e] at hn<;>simp at hn<;>omega
   ·split at hn
    ·rename_i h8 h9 h1;have:=hin_pos hy.kind h1.1;simp at hn;omega
    ·cases hn
structure Pv (x:Pl) (s:Fs):Prop where
  ls:s.stages.length=x.stages.length
  lc:s.credits.length=x.pipes.length
  lo:(s.outputs.length:Int)=snk x.stages
  need: ∀ i:Nat,i<x.stages.length→(sneed (stg x i) (sst s i)).2=0
  outs: ∀ l∈s.outputs,l.length≤200∧ ∀ n∈l,num n=true
  ok: ∀ k:Nat,k<x.pipes.length→Cok (crd s k)
  cap: ∀ k:Nat,k<x.pipes.length→(crd s k).capacity=(pip x k).capacity
  closed: ∀ k:Nat,k<x.pipes.length→(crd s k).closed=(sst s (pip x k).from_).ended
  granted: ∀ k:Nat,k<x.pipes.length→(crd s k).closed=false→(crd s k).granted=(crd s k).taken+(crd s k).capacity
  noted: ∀ i:Nat,i<x.stages.length→ ∀ n∈notedM (stg x i) (sst s i),cended (crd s (inP x i n))=true
theorem pval_ok {x:Pl} {s:Fs}:pval x s=true↔Pv x s:=by
  unfold pval;constructor
  ·intro h;split at h
   ·cases h
   ·split at h
    ·cases h
    ·split at h
     ·cases h
     ·rename_i h1 h2 h3;unfold bufs at h;rw [Bool.and_eq_true,List.all_eq_true,List.all_eq_true] at h;obtain⟨h4,h5⟩:=h;have hb: ∀ k:Nat,k<x.pipes.length→badC x s k=false:=fun k hk=>by
       have:=h4 k (List.mem_range.2 (by omega));simpa using this
      have hc: ∀ k:Nat,k<x.pipes.length→Cok (crd s k)∧(crd s k).capacity=(pip x k).capacity∧(crd s k).closed=(sst s (pip x k).from_).ended∧((crd s k).closed=false→(crd s k).granted=(crd s k).taken+(crd s k).capacity):=fun k hk=>by
       have:=hb k hk;unfold badC at this;simp only [Bool.or_eq_false_iff,Bool.not_eq_false',decide_eq_true_eq,Bool.and_eq_false_iff,beq_iff_eq] at this;obtain⟨⟨⟨a,b⟩,c⟩,d⟩:=this;refine⟨cchk_ok.1 a,b,c,fun he=> ?_⟩;rcases d with d|d
       ·rw [he] at d;cases d
       ·exact d
      refine⟨by omega,by omega,by omega,fun i hi=> ?_,fun l hl=> ?_,fun k hk=>(hc k hk).1,fun k hk=>(hc k hk).2.1,fun k hk=>(hc k hk).2.2.1,fun k hk=>(hc k hk).2.2.2,fun i hi n hn=> ?_⟩
      ·rw [List.any_eq_true] at h2;rcases Classical.em ((sneed (stg x i) (sst s i)).2=0) with e|e
       ·exact e
       ·exact absurd ⟨i,List.mem_range.2 (by omega),by unfold badS;rw [decide_eq_false e];rfl⟩ h2
      ·rw [List.any_eq_true] at h3;have h6:badO l=false:=by
        cases e:badO l with
        |false=>rfl
        |true=>exact absurd ⟨l,hl,e⟩ h3
       unfold badO at h6;rw [Bool.or_eq_false_iff,decide_eq_false_iff_not,List.any_eq_false] at h6;refine⟨by omega,fun n hn=> ?_⟩;have:=h6.2 n hn;simpa [num] using this
      ·have:=h5 i (List.mem_range.2 (by omega));simp only [badT,Bool.not_eq_true',List.any_eq_false] at this;have:=this n hn;simpa [badN] using this
  ·rintro⟨a,b,c,d,e,f,g,h,i,j⟩;rw [if_neg (by omega),if_neg,if_neg]
   ·unfold bufs;rw [Bool.and_eq_true,List.all_eq_true,List.all_eq_true];refine⟨fun k hk=> ?_,fun k hk=> ?_⟩
    ·have hk':k<x.pipes.length:=by have:=List.mem_range.1 hk;omega
     unfold badC;simp only [Bool.not_eq_true',Bool.or_eq_false_iff,Bool.not_eq_false',decide_eq_true_eq,Bool.and_eq_false_iff,beq_iff_eq];refine⟨⟨⟨cchk_ok.2 (f k hk'),g k hk'⟩,h k hk'⟩,?_⟩;cases hc:(crd s k).closed with
     |true=>exact .inl rfl
     |false=>exact .inr (i k hk' hc)
    ·have hk':k<x.stages.length:=by have:=List.mem_range.1 hk;omega
     simp only [badT,Bool.not_eq_true',List.any_eq_false];intro n hn;have:=j k hk' n hn;simpa [badN] using this
   ·rw [List.any_eq_true];rintro⟨l,hl,hb⟩;obtain⟨e1,e2⟩:=e l hl;unfold badO at hb;rw [Bool.or_eq_true,List.any_eq_true] at hb;rcases hb with hb|⟨n,hn,hb⟩
    ·have:=of_decide_eq_true hb;omega
    ·have:=e2 n hn;unfold num at this;rw [this] at hb;cases hb
   ·rw [List.any_eq_true];rintro⟨k,hk,hb⟩;have:=d k (by have:=List.mem_range.1 hk;omega);unfold badS at hb;rw [decide_eq_true this] at hb;cases hb
theorem Pv.sz {x:Pl} {s:Fs} (hx:Pok x) (h:Pv x s):Fsz s:=by
  have h1:=hx.n;have h2:=hx.np;have h3:=snk_bd x.stages;refine⟨by rw [h.ls];omega,by rw [h.lc];omega,by have:=h.lo;omega,fun c hc=> ?_,fun l hl=>by have:=(h.outs l hl).1;omega⟩;obtain⟨k,hk,rfl⟩:=List.getElem_of_mem hc;have hk':k<x.pipes.length:=by rw [←h.lc];exact hk
  have h4:=h.ok k hk';have e:crd s k=s.credits[k]:=by unfold crd;rw [List.getD];simp [hk]
  rw [e] at h4;have a:=h4.len;have b:=h4.cap;have c:=h4.room;have d:=h4.granted;omega
end Pn
namespace Pn
theorem noted_len (y:Sg) (t:Ss) (hy:Sgok y) (hv:sval y t=true):(notedM y t).length≤1000:=by
  have:=(sval_ok hv).2.1;have h2:=(sbnd_bd hy).2;unfold notedM;split
  ·omega
  ·split
   ·generalize t.count.toNat=n
    match n with
    |0|1|2|3=>exact (by decide)
    |n+4=>exact Nat.zero_le _
   ·split<;>simp
end Pn
set_option maxRecDepth 10000
namespace Go.Proofs
open Go.Aw Wl Pn
theorem noted_c (y:Pn.Sg) (t:Pn.Ss) (hc:y.kind=9→0≤t.count∧t.count≤3):ACalls Tryz.prog 149 [(AV.agg (encSg y)),(AV.agg (encSt t))] [] (fun v st=>v=(AV.sl 1 (List.map Go.Aw.encI (Pn.notedM y t)))∧st=[]):=by
  refine acalls_body Tryz.func149 (by kernel_rfl) rfl Tryz.ntmps149 (le_ rfl) ?_;rw [Tryz.results149];refine asr ?_;refine sB fun n1=> ?_;refine sB fun n2=> ?_;refine sA ?_;refine aops_nil ?_;refine awp_seq ?_;refine awp_block ?_;refine asr ?_;refine sF ?_;refine sL k1 ?_;refine sQ ?_;refine sA ?_;refine aops_nil ?_;refine awp_cond rfl (fun h1=> ?_) (fun h1=> ?_)
  ·simp only [nf] at h1;refine asr ?_;refine sF ?_;refine sL .here ?_;refine sA ?_;refine aops_nil ?_;refine awp_ret ?_;refine retG (.inr rfl) (.cons (.tmp rfl) .nil) (VShift.of1 (Sl.imp (enc:=Go.Aw.encI)) (.nil _)) ⟨congrArg (fun x:(List (Int))=>(AV.sl 1 (List.map Go.Aw.encI x))) (show _=(Pn.notedM y t) from ?_),rfl⟩;rw [Pn.notedM,if_pos (by assumption)]
  ·simp only [nf] at h1;refine asr ?_;refine sF ?_;refine sL k1 ?_;refine sQ ?_;refine sA ?_;refine aops_nil ?_;refine awp_cond rfl (fun h2=> ?_) (fun h2=> ?_)
   ·simp only [nf] at h2;refine awp_seq ?_;obtain⟨hc1,hc2⟩:=hc (by omega);refine awp_region ?_;refine st_p (fun _=>by exact y_buildSlice (.cons (.plain rfl) inferInstance (by rfl) .nil) rfl (le_ rfl)) rfl ?_;refine st_p (fun _=>by exact y_buildSlice (.cons (.plain rfl) inferInstance (by rfl) .nil) rfl (le_ rfl)) rfl ?_;refine st_p (fun _=>by exact y_buildSlice (.cons (.plain rfl) inferInstance (by rfl) (.cons (.plain rfl) inferInstance (by rfl) .nil)) rfl (le_ rfl)) rfl ?_;refine st_p (fun _=>by exact y_buildSlice (.cons (.plain rfl) inferInstance (by rfl) (.cons (.plain rfl) inferInstance (by rfl) (.cons (.plain rfl) inferInstance (by rfl) (.cons (.plain rfl) inferInstance (by rfl) .nil)))) rfl (le_ rfl)) rfl ?_;refine sF ?_;refine sL .here ?_;refine st_p (fun _=>by exact y_indexT (l:=([[],[0],[1],[0,1]]:List (List Int))) (f:=encLI) (.imp (.plain rfl) (Sl.imp (sz:=1) (α:=List Int) (enc:=encLI))) (.plain rfl) (by omega) (by simp;omega)) rfl ?_;refine sU ?_;refine sA ?_;refine aops_nil ?_;refine awp_ret ?_;refine retG (.inr rfl) (.cons (.tmp rfl) .nil) (VShift.of1 (Sl.imp (enc:=Go.Aw.encI)) (.nil _)) ⟨congrArg (fun x:(List (Int))=>(AV.sl 1 (List.map Go.Aw.encI x))) (show _=(Pn.notedM y t) from ?_),rfl⟩;rw [Pn.notedM,if_neg (by omega),if_pos (by omega)];all_goals rfl
   ·simp only [nf] at h2;refine asr ?_;refine sF ?_;refine sL k1 ?_;refine sR ?_;refine sM ?_;refine gF ?_;refine gL0 .here ?_;refine sJ ?_;refine sA ?_;refine aops_nil ?_;refine awp_cond rfl (fun h3=> ?_) (fun h3=> ?_)
    ·simp only [nf] at h3;refine asr ?_;refine st_p (fun _=>by exact y_buildSlice (.cons (.plain rfl) inferInstance (by rfl) .nil) rfl (le_ rfl)) rfl ?_;refine sA ?_;refine aops_nil ?_;refine awp_ret ?_;refine retG (.inr rfl) (.cons (.tmp rfl) .nil) (VShift.of1 (Sl.imp (enc:=Go.Aw.encI)) (.nil _)) ⟨congrArg (fun x:(List (Int))=>(AV.sl 1 (List.map Go.Aw.encI x))) (show _=(Pn.notedM y t) from ?_),rfl⟩;rw [Pn.notedM,if_neg (by omega),if_neg (by omega),if_pos (by simp_all)]
    ·simp only [nf] at h3;refine awp_skip ?_;refine asr ?_;refine sA ?_;refine aops_nil ?_;refine awp_ret ?_;refine retG (.inr rfl) (.cons (.tmp rfl) .nil) (VShift.of1 (Sl.imp (enc:=Go.Aw.encI)) (.nil _)) ⟨congrArg (fun x:(List (Int))=>(AV.sl 1 (List.map Go.Aw.encI x))) (show _=(Pn.notedM y t) from ?_),rfl⟩;rw [Pn.notedM,if_neg (by omega),if_neg (by omega),if_neg (by rintro⟨a9,b9⟩;rcases h3 with h|h<;>simp_all)]
theorem bufs_c (z:Pn.Pl) (s:Pn.Fs) (hx:Pn.Pok z) (hs:Pn.Fsz s) (hl:s.stages.length=z.stages.length∧s.credits.length=z.pipes.length) (hn: ∀ i:Nat,i<s.stages.length→(Pn.sneed (Pn.stg z i) (Pn.sst s i)).2=0):ACalls Tryz.prog 103 [(AV.agg (encPl z)),(AV.agg (encFs s))] [] (fun v st=>v=(AV.bool (Pn.bufs z s))∧st=[]):=by
  refine acalls_body Tryz.func103 (by kernel_rfl) rfl Tryz.ntmps103 (le_ rfl) ?_;rw [Tryz.results103];have hxn:=hx.n;have hxp:=hx.np;have hs1:=hs.st;have hs2:=hs.cr;refine asr ?_;refine sB fun n1=> ?_;refine sB fun n2=> ?_;refine sA ?_;refine aops_nil ?_;refine awp_seq ?_;refine asr ?_;refine sF ?_;refine sL .here ?_;refine sN ?_;refine sM ?_;refine aops_nil ?_;refine awp_block ?_;refine awp_loop2 (X:=Nat) [2,3,13,14] (.cons rfl (.cons rfl (.cons rfl (.cons rfl .nil)))) (fun σ x=>((15,.int (x:Int)):Nat×AV)::σ) (fun R x=>R) (fun x=>x≤s.credits.length∧(∀ i,i<x→Pn.badC z s i=false)) (fun x=>s.credits.length - x) 0 (by exact Weak.of2 (by (repeat (first|exact .nil _|refine .cons rfl (by exact AV.Imp.refl _) ?_));done) (by (repeat (exact .refl _));done)) ⟨Nat.zero_le _,by omega⟩ ?_;rintro k ⟨hk,hinv⟩;refine asr ?_;refine sS ?_;refine aops_nil ?_;refine awp_seq ?_;refine awp_cond rfl (fun h1=> ?_) (fun h1=> ?_)
  ·simp only [nf] at h1;have hkc:k<s.credits.length:=by omega
   refine awp_skip ?_;refine awp_seq ?_;refine awp_block ?_;refine asr ?_;refine sM ?_;refine st_p (fun _=>by exact y_indexMap (.plain rfl) (.plain rfl) rfl (by refine⟨?_,?_⟩;(omega);rfl)) rfl ?_;refine sV ?_;refine sC fun nC=> ?_;refine sA ?_;refine st_s (fun _=>by exact y_storeW (by rfl) rfl (.plain rfl) (.plain rfl) (by exact .here) (by rfl)) ?_;refine aops_nil ?_;refine awp_seq ?_;have hcg:Pn.crd s k=s.credits[k]:=by unfold Pn.crd;rw [List.getD,Int.toNat_natCast,List.getElem?_eq_getElem hkc,Option.getD_some]
   have hpg:Pn.pip z k=z.pipes[k]:=Pn.pip_get (by omega);have hpk:=(hx.pip (show k<z.pipes.length by omega)).fr;rw [hpg] at hpk;refine awp_region ?_;refine sF ?_;refine sL k2 ?_;refine sM ?_;refine st_p (fun _=>by exact y_indexMap (.plain rfl) (.plain rfl) rfl (by refine⟨?_,?_⟩;(omega);rfl)) rfl ?_;refine sV ?_;refine sC fun nP=> ?_;refine st_s (fun _=>by exact y_storeW (by rfl) rfl (.plain rfl) (.plain rfl) (by exact .here) (by rfl)) ?_;refine aops_nil ?_;refine awp_seq ?_;refine awp_any0 (ks:=[.free,.free,.free,.free,.free,.free,.free,.free,.free,.free,.free,.free,.free,.free,.free,.free,.free,.free,.free,.free,.free,.free,.free,.free,.free,.free,.free,.free,.free,.free,.free,.free,.free,.free,.free,.free,.free]) (by kernel_rfl) (fun K=> ?_) ?_
   ·refine rW k1 ?_;refine dr_p (fun _=>by exact y_call (.plain rfl) (.cons (.imp (.plain rfl) (AV.Imp.agg (RowOf.imp (enc:=encCr)))) .nil) (ACalls.pure (cchk_c _ (hs.items _ (List.getElem_mem hkc))))) rfl ?_;refine rR ?_;refine rM ?_;refine qF ?_;refine qL0 k1 ?_;refine qF ?_;refine qL0 .here ?_;refine qR01 ?_;refine rK ?_;refine rM ?_;refine qF ?_;refine qL0 k1 ?_;refine qF ?_;refine qL0 k2 ?_;refine qF ?_;refine qL0 .here ?_;refine dr_g rfl rfl rfl SaysI.out (fun hc _=>by exact y_indexT (l:=s.stages) (.opt rfl hc) (.opt rfl hc) (by omega) (by omega)) rfl ?_;refine dr_g rfl rfl rfl SaysI.out (fun hc _=>by exact y_fieldE (.opt rfl hc) (le_ rfl)) rfl ?_;refine qU0 ?_;refine dr_g rfl rfl rfl SaysI.out (fun hc _=>by exact y_neBool (by rfl) (.opt rfl hc) (.opt rfl hc)) rfl ?_;refine rK ?_;refine rM ?_;refine qF ?_;refine qL0 k1 ?_;refine qO0 ?_;refine qM0 ?_;refine qF ?_;refine qL0 k1 ?_;refine qF ?_;refine qL0 k1 ?_;refine qF ?_;refine qL0 k1 ?_;refine dr_g rfl rfl rfl SaysI.out (fun hc _=>by exact y_add (by exact .opt rfl hc) (by exact .opt rfl hc) (by have h9:=hc.1;simp only [Bool.or_eq_false_iff] at h9;have hk9:=Pn.cchk_ok.1 (by simpa using h9.1.1);have k1:=hk9.cap;have k2:=hk9.taken;have k3:=hk9.sent;have k4:=hk9.granted;have k5:=hk9.most;omega)) rfl ?_;refine qR01 ?_;refine dr_g rfl rfl rfl SaysI.out (fun hc _=>by exact y_and' hc (.opt rfl hc) rfl rfl) rfl ?_;refine rK ?_;refine dr_nil ⟨rfl,?_⟩;refine awp_cond rfl (fun h2=> ?_) (fun h2=> ?_)
    ·simp only [nf] at h2;have hbk:Pn.badC z s k=true:=by
      rw [Pn.badC,hcg,hpg];simp_all [Pn.sst];try (intro h9;simp_all)
     refine asr ?_;refine sA ?_;refine aops_nil ?_;refine awp_ret ?_;refine retG (.inr rfl) (.cons (.tmp rfl) .nil) (VShift.of1 (AV.Imp.refl _) (.nil _)) ⟨congrArg (fun x:(Bool)=>(AV.bool x)) (show _=(Pn.bufs z s) from ?_),rfl⟩;rw [Pn.bufs,Bool.and_eq_false_iff.2 (.inl (List.all_eq_false.2 ⟨k,List.mem_range.2 hkc,by rw [hbk];decide⟩))]
    ·simp only [nf] at h2;have hbk:Pn.badC z s k=false:=by
      rw [Pn.badC,hcg,hpg];rcases h2.2 with d9|d9<;>simp_all [Pn.sst]
      try (intro h9;simp_all)
     refine awp_skip ?_;refine awp_region ?_;refine sY ?_ (hb:=by omega);refine sM ?_;refine aops_nil ?_;refine⟨k+1,?_,?_,Weak.of2 (by (repeat (first|exact .nil _|refine .cons rfl (by exact AV.Imp.refl _) ?_));done) (by (repeat (first|exact .nil _|apply ItLe2.cons (by exact k2)));done)⟩
     ·refine⟨by omega,?_⟩;intro i hik;by_cases e:i=k
      ·subst e;exact hbk
      ·exact hinv i (by omega)
     ·omega
   ·kernel_rfl
  ·simp only [nf] at h1;refine awp_exit ?_;refine awp_seq ?_;refine asr ?_;refine sF ?_;refine sL .here ?_;refine sN ?_;refine sM ?_;refine aops_nil ?_;refine awp_block ?_;refine awp_loop2 (X:=Nat) [2,3,64,65] (.cons rfl (.cons rfl (.cons rfl (.cons rfl .nil)))) (fun σ x=>((66,.int (x:Int)):Nat×AV)::σ) (fun R x=>R) (fun x=>x≤s.stages.length∧(∀ i,i<x→Pn.badT z s i=false)) (fun x=>s.stages.length - x) 0 (by exact Weak.of2 (by (repeat (first|exact .nil _|refine .cons rfl (by exact AV.Imp.refl _) ?_));done) (by (repeat (exact .refl _));done)) ⟨Nat.zero_le _,by omega⟩ ?_;rintro k ⟨hk,hinw⟩;refine asr ?_;refine sS ?_;refine aops_nil ?_;refine awp_seq ?_;refine awp_cond rfl (fun h3=> ?_) (fun h3=> ?_)
   ·simp only [nf] at h3;have hkt:k<s.stages.length:=by omega
    refine awp_skip ?_;refine awp_seq ?_;refine awp_block ?_;refine asr ?_;refine sM ?_;refine st_p (fun _=>by exact y_indexMap (.plain rfl) (.plain rfl) rfl (by refine⟨?_,?_⟩;(omega);rfl)) rfl ?_;refine sV ?_;refine sC fun nT=> ?_;refine sA ?_;refine st_s (fun _=>by exact y_storeW (by rfl) rfl (.plain rfl) (.plain rfl) (by exact .here) (by rfl)) ?_;refine aops_nil ?_;refine awp_seq ?_;have hgs:Pn.stg z (k:Int)=z.stages[k]:=by unfold Pn.stg;rw [List.getD,Int.toNat_natCast,List.getElem?_eq_getElem (by omega),Option.getD_some]
    have hgt:Pn.sst s (k:Int)=s.stages[k]:=by unfold Pn.sst;rw [List.getD,Int.toNat_natCast,List.getElem?_eq_getElem hkt,Option.getD_some]
    have hnd:=hn k hkt;rw [hgs,hgt] at hnd;obtain⟨hsg,hsv⟩:=Pn.sneed_ok hnd;have hz9:z.stages[k].kind=9→0≤s.stages[k].count∧s.stages[k].count≤3:=fun h=>(Pn.sval9 hsv h).1;have hnl:=Pn.noted_in hsg hsv;have hnn:=Pn.noted_len z.stages[k] s.stages[k] hsg hsv;refine awp_any0 (ks:=[.free,.free,.free,.free,.free,.free,.free,.free,.free]) (by kernel_rfl) (fun K=> ?_) ?_
    ·refine rF ?_;refine rL k2 ?_;refine rM ?_;refine dr_p (fun _=>by exact y_indexMap (.plain rfl) (.plain rfl) rfl (by refine⟨?_,?_⟩;(omega);rfl)) rfl ?_;refine rV ?_;refine rW .here ?_;refine dr_p (fun _=>by exact y_call (.plain rfl) (.cons (.imp (.plain rfl) (AV.Imp.agg (RowOf.imp (enc:=encSg)))) (.cons (.imp (.plain rfl) (AV.Imp.agg (RowOf.imp (enc:=encSt)))) .nil)) (ACalls.pure (noted_c _ _ hz9))) rfl ?_;refine rN ?_;refine rM ?_;refine dr_nil ⟨rfl,?_⟩;refine awp_block ?_;refine awp_loop2 (X:=Nat) [2,3,8,64,65,66,77,78] (.cons rfl (.cons rfl (.cons rfl (.cons rfl (.cons rfl (.cons rfl (.cons rfl (.cons rfl .nil)))))))) (fun σ x=>((79,.int (x:Int)):Nat×AV)::σ) (fun R x=>R) (fun x=>x≤(Pn.notedM z.stages[k] s.stages[k]).length∧ ∀ j (h:j<(Pn.notedM z.stages[k] s.stages[k]).length),j<x→Pn.badN z s k (Pn.notedM z.stages[k] s.stages[k])[j]=false) (fun x=>(Pn.notedM z.stages[k] s.stages[k]).length - x) 0 (by exact Weak.of2 (by (repeat (first|exact .nil _|refine .cons rfl (by exact AV.Imp.refl _) ?_));done) (by (repeat (exact .refl _));done)) ⟨Nat.zero_le _,by omega⟩ ?_;rintro i ⟨hi,hjv⟩;refine asr ?_;refine sS ?_;refine aops_nil ?_;refine awp_seq ?_;refine awp_cond rfl (fun h4=> ?_) (fun h4=> ?_)
     ·simp only [nf] at h4;have hil:i<(Pn.notedM z.stages[k] s.stages[k]).length:=by omega
      refine awp_skip ?_;refine awp_seq ?_;refine awp_block ?_;refine asr ?_;refine st_p (fun _=>by exact y_indexMap (.plain rfl) (.plain rfl) rfl (by refine⟨?_,?_⟩;(omega);rfl)) rfl ?_;refine sU ?_;refine sA ?_;refine aops_nil ?_;refine awp_seq ?_;have hgi:=hnl _ (List.getElem_mem hil);obtain⟨kk,hkk,hki,-,-⟩:=hx.inp (i:=(k:Int)) (n:=(Pn.notedM z.stages[k] s.stages[k])[i]) (by omega) (by rw [hgs];exact hgi);have hin1:0≤Pn.inP z k (Pn.notedM z.stages[k] s.stages[k])[i]:=by omega
      have hin2:(Pn.inP z k (Pn.notedM z.stages[k] s.stages[k])[i]).toNat<s.credits.length:=by omega
      refine awp_any0 (ks:=[.free,.free,.free,.free,.free,.free,.free,.free,.free,.free]) (by kernel_rfl) (fun K=> ?_) ?_
      ·refine rF ?_;refine rL k1 ?_;refine rW k2 ?_;refine rM ?_;refine rM ?_;refine dr_p (fun _=>by exact y_call (.plain rfl) (.cons (.imp (.plain rfl) (AV.Imp.agg (RowOf.imp (enc:=encPl)))) (.cons (.plain rfl) (.cons (.plain rfl) .nil))) (ACalls.pure (inp_c z _ _ (by omega)))) rfl ?_;refine dr_p (fun _=>by exact y_indexT (l:=s.credits) (.plain rfl) (.plain rfl) (by exact hin1) (by exact hin2)) rfl ?_;refine rV ?_;refine dr_p (fun _=>by exact y_call (.plain rfl) (.cons (.imp (.plain rfl) (AV.Imp.agg (RowOf.imp (enc:=encCr)))) .nil) (ACalls.pure (cended_c _ (by exact hs.crd _)))) rfl ?_;refine rO ?_;refine dr_nil ⟨rfl,?_⟩;refine awp_cond rfl (fun h5=> ?_) (fun h5=> ?_)
       ·simp only [nf] at h5;have hbk:Pn.badT z s k=true:=by
         rw [Pn.badT,hgs,hgt];exact List.any_eq_true.2 ⟨_,List.getElem_mem hil,by rw [Pn.badN];simpa [Pn.crd] using h5⟩
        refine asr ?_;refine sA ?_;refine aops_nil ?_;refine awp_ret ?_;refine retG (.inr rfl) (.cons (.tmp rfl) .nil) (VShift.of1 (AV.Imp.refl _) (.nil _)) ⟨congrArg (fun x:(Bool)=>(AV.bool x)) (show _=(Pn.bufs z s) from ?_),rfl⟩;rw [Pn.bufs,Bool.and_eq_false_iff.2 (.inr (List.all_eq_false.2 ⟨k,List.mem_range.2 hkt,by rw [hbk];decide⟩))]
       ·simp only [nf] at h5;have hbi:Pn.badN z s k (Pn.notedM z.stages[k] s.stages[k])[i]=false:=by
         rw [Pn.badN];simpa [Pn.crd] using h5
        refine awp_skip ?_;refine awp_region ?_;refine sY ?_ (hb:=by omega);refine sM ?_;refine aops_nil ?_;refine⟨i+1,⟨by omega,fun j hj hji=> ?_⟩,by omega,?_⟩
        ·by_cases e:j=i
         ·subst e;exact hbi
         ·exact hjv j hj (by omega)
        ·exact Weak.of2 (by (repeat (first|exact .nil _|refine .cons rfl (by exact AV.Imp.refl _) ?_));done) (by (repeat (exact .refl _));done)
      ·kernel_rfl
     ·simp only [nf] at h4;have hbk:Pn.badT z s k=false:=by
       rw [Pn.badT,hgs,hgt];refine List.any_eq_false.2 fun n hm=> ?_;obtain⟨j9,h8,rfl⟩:=List.getElem_of_mem hm;rw [hjv j9 h8 (by omega)];decide
      refine awp_exit ?_;refine awp_region ?_;refine sY ?_ (hb:=by omega);refine sM ?_;refine aops_nil ?_;refine⟨k+1,?_,?_,Weak.of2 (by (repeat (first|exact .nil _|refine .cons rfl (by exact AV.Imp.refl _) ?_));done) (by (repeat (first|exact .nil _|apply ItLe2.cons (by exact k1)));done)⟩
      ·refine⟨by omega,?_⟩;intro i hik;by_cases e:i=k
       ·subst e;exact hbk
       ·exact hinw i (by omega)
      ·omega
    ·kernel_rfl
   ·simp only [nf] at h3;refine awp_exit ?_;refine asr ?_;refine sA ?_;refine aops_nil ?_;refine awp_ret ?_;refine retG (.inr rfl) (.cons (.tmp rfl) .nil) (VShift.of1 (AV.Imp.refl _) (.nil _)) ⟨congrArg (fun x:(Bool)=>(AV.bool x)) (show _=(Pn.bufs z s) from ?_),rfl⟩;rw [Pn.bufs,Bool.and_eq_true_iff.2 ⟨List.all_eq_true.2 fun i hi=> ?_,List.all_eq_true.2 fun i hi=> ?_⟩]
    ·rw [hinv i (by have:=List.mem_range.1 hi;omega)];rfl
    ·rw [hinw i (by have:=List.mem_range.1 hi;omega)];rfl
theorem badn_c (n:Int) :ACalls Tryz.prog 102 [(AV.int n)] [] (fun v st=>v=(AV.bool (!Sv.win n (-1099511627776) 1099511627776))∧st=[]):=by
  refine acalls_body Tryz.func102 (by kernel_rfl) rfl Tryz.ntmps102 (le_ rfl) ?_;rw [Tryz.results102];refine asr ?_;refine sA ?_;refine aops_nil ?_;refine asr ?_;refine sM ?_;refine aops_call (blt_lt rfl) (.plain rfl) (.cons (.plain rfl) (.cons (.plain rfl) (.cons (.plain rfl) .nil))) (ACalls.here (within_c _ _ _) ?_);refine sO ?_;refine sA ?_;refine aops_nil ?_;refine awp_ret ?_;refine retG (.inr rfl) (.cons (.tmp rfl) .nil) (VShift.of1 (AV.Imp.refl _) (.nil _)) ⟨congrArg (fun x:(Bool)=>(AV.bool x)) (show _=(!Sv.win n (-1099511627776) 1099511627776) from ?_),rfl⟩;rfl
theorem pval_c (z:Pn.Pl) (s:Pn.Fs) (hx:Pn.Pok z) (hs:Pn.Fsz s):ACalls Tryz.prog 73 [(AV.agg (encPl z)),(AV.agg (encFs s))] [] (fun v st=>v=(AV.bool (Pn.pval z s))∧st=[]):=by
  refine acalls_body Tryz.func73 (by kernel_rfl) rfl Tryz.ntmps73 (le_ rfl) ?_;rw [Tryz.results73];have hxn:=hx.n;have hxp:=hx.np;have hs1:=hs.st;have hs2:=hs.cr;have hs3:=hs.out;refine asr ?_;refine sB fun n1=> ?_;refine sB fun n2=> ?_;refine sA ?_;refine aops_nil ?_;refine awp_seq ?_;refine awp_seq ?_;refine awp_any0 (ks:=[.free,.free,.free,.free,.free,.free,.free,.free,.free,.free,.free,.free,.free,.free,.free,.free,.free,.free,.free,.free,.free,.free,.free,.free,.free]) (by kernel_rfl) (fun K=> ?_) ?_
  ·refine rF ?_;refine rL .here ?_;refine rN ?_;refine rF ?_;refine rL k1 ?_;refine rN ?_;refine rR ?_;refine rM ?_;refine qF ?_;refine qL0 .here ?_;refine qN0 ?_;refine qF ?_;refine qL0 k1 ?_;refine qN0 ?_;refine qR01 ?_;refine rK ?_;refine rM ?_;refine qF ?_;refine qL0 .here ?_;refine qN0 ?_;refine qF ?_;refine qL0 k1 ?_;refine dr_g rfl rfl rfl SaysI.out (fun hc _=>by exact y_call (.plain rfl) (.cons (.imp (.opt rfl hc) (Sl.imp (enc:=encSg))) .nil) (ACalls.pure (snk_c _ (by omega)))) rfl ?_;refine qR01 ?_;refine rK ?_;refine dr_nil ⟨rfl,?_⟩;refine awp_cond rfl (fun h1=> ?_) (fun h1=> ?_)
   ·simp only [nf] at h1;have hb0:(s.stages.length:Int)≠z.stages.length∨(s.credits.length:Int)≠z.pipes.length∨(s.outputs.length:Int)≠Pn.snk z.stages:=by omega
    refine asr ?_;refine sA ?_;refine aops_nil ?_;refine awp_ret ?_;refine retG (.inr rfl) (.cons (.tmp rfl) .nil) (VShift.of1 (AV.Imp.refl _) (.nil _)) ⟨congrArg (fun x:(Bool)=>(AV.bool x)) (show _=(Pn.pval z s) from ?_),rfl⟩;rw [Pn.pval,if_pos hb0]
   ·simp only [nf] at h1;have hb0: ¬ ((s.stages.length:Int)≠z.stages.length∨(s.credits.length:Int)≠z.pipes.length∨(s.outputs.length:Int)≠Pn.snk z.stages):=by omega
    refine awp_skip ?_;refine awp_seq ?_;refine asr ?_;refine sF ?_;refine sL .here ?_;refine sN ?_;refine sM ?_;refine aops_nil ?_;refine awp_block ?_;refine awp_loop2 (X:=Nat) [2,3,37,38] (.cons rfl (.cons rfl (.cons rfl (.cons rfl .nil)))) (fun σ x=>((39,.int (x:Int)):Nat×AV)::σ) (fun R x=>R) (fun x=>x≤s.stages.length∧(∀ i,i<x→Pn.badS z s i=false)) (fun x=>s.stages.length - x) 0 (by exact Weak.of2 (by (repeat (first|exact .nil _|refine .cons rfl (by exact AV.Imp.refl _) ?_));done) (by (repeat (exact .refl _));done)) ⟨Nat.zero_le _,by omega⟩ ?_;rintro k ⟨hk,hinv⟩;refine asr ?_;refine sS ?_;refine aops_nil ?_;refine awp_seq ?_;refine awp_cond rfl (fun h2=> ?_) (fun h2=> ?_)
    ·simp only [nf] at h2;have hkt:k<s.stages.length:=by omega
     refine awp_skip ?_;refine awp_seq ?_;refine awp_block ?_;refine asr ?_;refine sM ?_;refine st_p (fun _=>by exact y_indexMap (.plain rfl) (.plain rfl) rfl (by refine⟨?_,?_⟩;(omega);rfl)) rfl ?_;refine sV ?_;refine sC fun nT=> ?_;refine sA ?_;refine st_s (fun _=>by exact y_storeW (by rfl) rfl (.plain rfl) (.plain rfl) (by exact .here) (by rfl)) ?_;refine aops_nil ?_;refine awp_seq ?_;have hgs:Pn.stg z (k:Int)=z.stages[k]:=by unfold Pn.stg;rw [List.getD,Int.toNat_natCast,List.getElem?_eq_getElem (by omega),Option.getD_some]
     have hgt:Pn.sst s (k:Int)=s.stages[k]:=by unfold Pn.sst;rw [List.getD,Int.toNat_natCast,List.getElem?_eq_getElem hkt,Option.getD_some]
     refine awp_any0 (ks:=[.free,.free,.free,.free,.free,.free,.free,.free,.free,.free,.free,.free]) (by kernel_rfl) (fun K=> ?_) ?_
     ·refine rF ?_;refine rL k2 ?_;refine rM ?_;refine dr_p (fun _=>by exact y_indexMap (.plain rfl) (.plain rfl) rfl (by refine⟨?_,?_⟩;(omega);rfl)) rfl ?_;refine rV ?_;refine rW .here ?_;refine dr_p (fun _=>by exact y_call (.plain rfl) (.cons (.imp (.plain rfl) (AV.Imp.agg (RowOf.imp (enc:=encSg)))) (.cons (.imp (.plain rfl) (AV.Imp.agg (RowOf.imp (enc:=encSt)))) .nil)) (ACalls.pure (sneed_c _ _))) rfl ?_;refine rM ?_;refine rE ?_;refine rE ?_;refine rA ?_;refine rA ?_;refine dr_nil ⟨rfl,?_⟩;refine asr ?_;refine sM ?_;refine sR ?_;refine aops_nil ?_;refine awp_cond rfl (fun h3=> ?_) (fun h3=> ?_)
      ·simp only [nf] at h3;have hbk:Pn.badS z s k=true:=by rw [Pn.badS,hgs,hgt];simpa using h3
       refine asr ?_;refine sA ?_;refine aops_nil ?_;refine awp_ret ?_;refine retG (.inr rfl) (.cons (.tmp rfl) .nil) (VShift.of1 (AV.Imp.refl _) (.nil _)) ⟨congrArg (fun x:(Bool)=>(AV.bool x)) (show _=(Pn.pval z s) from ?_),rfl⟩;rw [Pn.pval,if_neg hb0,if_pos (List.any_eq_true.2 ⟨k,List.mem_range.2 hkt,hbk⟩)]
      ·simp only [nf] at h3;have hbk:Pn.badS z s k=false:=by rw [Pn.badS,hgs,hgt];simpa using h3
       refine awp_skip ?_;refine awp_region ?_;refine sY ?_ (hb:=by omega);refine sM ?_;refine aops_nil ?_;refine⟨k+1,?_,?_,Weak.of2 (by (repeat (first|exact .nil _|refine .cons rfl (by exact AV.Imp.refl _) ?_));done) (by (repeat (first|exact .nil _|apply ItLe2.cons (by exact k1)));done)⟩
       ·refine⟨by omega,?_⟩;intro i hik;by_cases e:i=k
        ·subst e;exact hbk
        ·exact hinv i (by omega)
       ·omega
     ·kernel_rfl
    ·simp only [nf] at h2;refine awp_exit ?_;refine awp_seq ?_;refine asr ?_;refine sF ?_;refine sL .here ?_;refine sN ?_;refine sM ?_;refine aops_nil ?_;refine awp_block ?_;refine awp_loop2 (X:=Nat) [2,3,58,59] (.cons rfl (.cons rfl (.cons rfl (.cons rfl .nil)))) (fun σ x=>((60,.int (x:Int)):Nat×AV)::σ) (fun R x=>R) (fun x=>x≤s.outputs.length∧(∀ i (h:i<s.outputs.length),i<x→Pn.badO s.outputs[i]=false)) (fun x=>s.outputs.length - x) 0 (by exact Weak.of2 (by (repeat (first|exact .nil _|refine .cons rfl (by exact AV.Imp.refl _) ?_));done) (by (repeat (exact .refl _));done)) ⟨Nat.zero_le _,by omega⟩ ?_;rintro k ⟨hk,hinw⟩;refine asr ?_;refine sS ?_;refine aops_nil ?_;refine awp_seq ?_;refine awp_cond rfl (fun h4=> ?_) (fun h4=> ?_)
     ·simp only [nf] at h4;have hko:k<s.outputs.length:=by omega
      refine awp_skip ?_;refine awp_seq ?_;refine awp_block ?_;refine asr ?_;refine st_p (fun _=>by exact y_indexMap (.plain rfl) (.plain rfl) rfl (by refine⟨?_,?_⟩;(omega);rfl)) rfl ?_;refine sU ?_;refine sA ?_;refine aops_nil ?_;refine asr ?_;refine sM ?_;refine sN ?_;refine sG ?_;refine sM ?_;refine gM ?_;refine st_g rfl rfl rfl SaysI.out (fun hc _=>by exact y_call (.plain rfl) (.cons (.opt rfl hc) (.cons (.imp (.plain rfl) Fun.imp) .nil)) (ACalls.pure (containsFI_c s.outputs[k] (hs.outs _ (List.getElem_mem hko)) 102 [] (fun n=> !Sv.win n (-1099511627776) 1099511627776) [] (fun z9 _=>badn_c z9)))) rfl ?_;refine sK ?_;refine aops_nil ?_;refine awp_cond rfl (fun h5=> ?_) (fun h5=> ?_)
      ·simp only [nf] at h5;have hbo:Pn.badO s.outputs[k]=true:=by rw [Pn.badO];simpa using h5
       refine asr ?_;refine sA ?_;refine aops_nil ?_;refine awp_ret ?_;refine retG (.inr rfl) (.cons (.tmp rfl) .nil) (VShift.of1 (AV.Imp.refl _) (.nil _)) ⟨congrArg (fun x:(Bool)=>(AV.bool x)) (show _=(Pn.pval z s) from ?_),rfl⟩;rw [Pn.pval,if_neg hb0,if_neg (by rw [List.any_eq_true];rintro⟨i,hi,h9⟩;rw [hinv i (by have:=List.mem_range.1 hi;omega)] at h9;cases h9),if_pos (List.any_eq_true.2 ⟨_,List.getElem_mem hko,hbo⟩)]
      ·simp only [nf] at h5;have hbo:Pn.badO s.outputs[k]=false:=by rw [Pn.badO];simpa using h5
       refine awp_skip ?_;refine awp_region ?_;refine sY ?_ (hb:=by omega);refine sM ?_;refine aops_nil ?_;refine⟨k+1,?_,?_,Weak.of2 (by (repeat (first|exact .nil _|refine .cons rfl (by exact AV.Imp.refl _) ?_));done) (by (repeat (exact .refl _));done)⟩
       ·refine⟨by omega,?_⟩;intro i hi hik;by_cases e:i=k
        ·subst e;exact hbo
        ·exact hinw i hi (by omega)
       ·omega
     ·simp only [nf] at h4;refine awp_exit ?_;refine awp_seq ?_;have hln:s.stages.length=z.stages.length∧s.credits.length=z.pipes.length:=by omega
      have hnv: ∀ i:Nat,i<s.stages.length→(Pn.sneed (Pn.stg z i) (Pn.sst s i)).2=0:=fun i hi=>by
       have:=hinv i (by omega);simpa [Pn.badS] using this
      refine awp_region ?_;refine sW k1 ?_;refine sW .here ?_;refine aops_call (blt_lt rfl) (.plain rfl) (.cons (.imp (.plain rfl) (AV.Imp.agg (RowOf.imp (enc:=encPl)))) (.cons (.imp (.plain rfl) (AV.Imp.agg (RowOf.imp (enc:=encFs)))) .nil)) (ACalls.here (bufs_c z s hx hs hln hnv) ?_);refine sA ?_;refine aops_nil ?_;refine awp_ret ?_;refine retG (.inr rfl) (.cons (.tmp rfl) .nil) (VShift.of1 (AV.Imp.refl _) (.nil _)) ⟨congrArg (fun x:(Bool)=>(AV.bool x)) (show _=(Pn.pval z s) from ?_),rfl⟩;rw [Pn.pval,if_neg hb0,if_neg (by rw [List.any_eq_true];rintro⟨i,hi,h9⟩;rw [hinv i (by have:=List.mem_range.1 hi;omega)] at h9;cases h9),if_neg (by rw [List.any_eq_true];rintro⟨l9,hm9,h9⟩;obtain⟨i,hi,rfl⟩:=List.getElem_of_mem hm9;rw [hinw i hi (by omega)] at h9;cases h9)]
  ·kernel_rfl
theorem pvalid_c (z:Pn.Pl) (s:Pn.Fs) (hz:z.stages.length≤1000000∧z.pipes.length≤1000000) (hs:Pn.Fsz s):ACalls Tryz.prog 45 [(AV.agg (encPl z)),(AV.agg (encFs s))] [] (fun v st=>v=(AV.int (Pn.pvalid z s))∧st=[]):=by
  refine acalls_body Tryz.func45 (by kernel_rfl) rfl Tryz.ntmps45 (le_ rfl) ?_;rw [Tryz.results45];refine asr ?_;refine sB fun n1=> ?_;refine sB fun n2=> ?_;refine sA ?_;refine aops_nil ?_;refine awp_seq ?_;refine asr ?_;refine sW k1 ?_;refine aops_call (blt_lt rfl) (.plain rfl) (.cons (.imp (.plain rfl) (AV.Imp.agg (RowOf.imp (enc:=encPl)))) .nil) (ACalls.here (pchk_c z) ?_);refine sR ?_;refine sM ?_;refine gW k1 ?_;refine gW .here ?_;refine st_g rfl rfl rfl SaysI.out (fun hc _=>by exact y_call (.plain rfl) (.cons (.imp (.opt rfl hc) (AV.Imp.agg (RowOf.imp (enc:=encPl)))) (.cons (.imp (.opt rfl hc) (AV.Imp.agg (RowOf.imp (enc:=encFs)))) .nil)) (ACalls.pure (pval_c z s (Pn.pchk_ok.1 (by simpa using hc)) hs))) rfl ?_;refine gO0 ?_;refine sK ?_;refine aops_nil ?_;refine awp_cond rfl (fun h1=> ?_) (fun h1=> ?_)
  ·simp only [nf] at h1;refine asr ?_;refine sA ?_;refine aops_nil ?_;refine awp_ret ?_;refine retG (.inr rfl) (.cons (.tmp rfl) .nil) (VShift.of1 (AV.Imp.refl _) (.nil _)) ⟨congrArg (fun x:(Int)=>(AV.int x)) (show _=(Pn.pvalid z s) from ?_),rfl⟩;rw [Pn.pvalid,if_pos (by simpa using h1)]
  ·simp only [nf] at h1;refine awp_skip ?_;refine asr ?_;refine sA ?_;refine aops_nil ?_;refine awp_ret ?_;refine retG (.inr rfl) (.cons (.tmp rfl) .nil) (VShift.of1 (AV.Imp.refl _) (.nil _)) ⟨congrArg (fun x:(Int)=>(AV.int x)) (show _=(Pn.pvalid z s) from ?_),rfl⟩;rw [Pn.pvalid,if_neg (by simpa using h1)]
end Go.Proofs
namespace Pn
structure PickOk (x:Pl) (U:Int→Prop) (k:Nat) (q:Int→Option Nat):Prop where
  at_: ∀ i m,q i=some m→U i→m<k∧((pip x m).from_=i∨(pip x m).to_=i)∧U (pip x m).from_∧U (pip x m).to_
  inj: ∀ i j m,U i→U j→q i=some m→q j=some m→i=j
def PickAll (x:Pl) (U:Int→Prop) (k:Nat) (g:Int→Int):Prop:=
  ∀ q,PickOk x U k q→ ∀ i,U i→ ∃ v,U v∧g v=g i∧q v=none
theorem pick_step {x:Pl} (h:Pok x) {U:Int→Prop} (hU: ∀ i,U i→0≤i∧i<x.stages.length) {k:Nat} (hk:k<x.pipes.length) {g:Int→Int} (hab: ¬ g (pip x k).from_=g (pip x k).to_)
  (I:PickAll x U k g):PickAll x U (k+1) (upd g (g (pip x k).from_) (g (pip x k).to_) x.stages.length):=by
  intro q' hq i hi;have hg: ∀ v,U v→upd g (g (pip x k).from_) (g (pip x k).to_) x.stages.length v=if g v=g (pip x k).to_ then g (pip x k).from_ else g v:=by
   intro v hv;have:=hU v hv;unfold upd;by_cases e:g v=g (pip x k).to_
   ·rw [if_pos ⟨this.2,e⟩,if_pos e]
   ·rw [if_neg (fun h=>e h.2),if_neg e]
  let q:Int→Option Nat:=fun i=>if q' i=some k then none else q' i
  have qv: ∀ v,q v=none→q' v=none∨q' v=some k:=by
   intro v hv;by_cases e:q' v=some k
   ·exact .inr e
   ·simp only [q,if_neg e] at hv;exact .inl hv
  have hqok:PickOk x U k q:=by
   refine⟨fun i m hm hu=> ?_,fun i j m hi hj h1 h2=> ?_⟩
   ·by_cases e:q' i=some k
    ·simp only [q,if_pos e] at hm;cases hm
    ·simp only [q,if_neg e] at hm;have:=hq.at_ i m hm hu;refine⟨?_,this.2⟩;have h3:m≠k:=fun h4=>e (by rw [hm,h4]);omega
   ·by_cases e:q' i=some k
    ·simp only [q,if_pos e] at h1;cases h1
    ·by_cases e2:q' j=some k
     ·simp only [q,if_pos e2] at h2;cases h2
     ·simp only [q,if_neg e] at h1;simp only [q,if_neg e2] at h2;exact hq.inj i j m hi hj h1 h2
  by_cases hu: ∃ u,U u∧q' u=some k
  ·obtain⟨u,hu,huk⟩:=hu;obtain⟨-,h1,h2,h3⟩:=hq.at_ u k huk hu;have key: ∃ v,U v∧(g v=g (pip x k).from_∨g v=g (pip x k).to_)∧q' v=none:=by
    rcases h1 with h1|h1
    ·obtain⟨v,hv,hgv,hqv⟩:=I q hqok _ h3;refine⟨v,hv,.inr hgv,?_⟩;rcases qv v hqv with e|e
     ·exact e
     ·have:=hq.inj v u k hv hu e huk;subst this;rw [←h1] at hgv;exact absurd hgv hab
    ·obtain⟨v,hv,hgv,hqv⟩:=I q hqok _ h2;refine⟨v,hv,.inl hgv,?_⟩;rcases qv v hqv with e|e
     ·exact e
     ·have:=hq.inj v u k hv hu e huk;subst this;rw [←h1] at hgv;exact absurd hgv.symm hab
   by_cases hc:g i=g (pip x k).from_∨g i=g (pip x k).to_
   ·obtain⟨v,hv,hgv,hqv⟩:=key;refine⟨v,hv,?_,hqv⟩;rw [hg v hv,hg i hi];rcases hgv with e|e<;>rcases hc with e2|e2<;>rw [e,e2]<;>simp [hab]
   ·obtain⟨v,hv,hgv,hqv⟩:=I q hqok _ hi;refine⟨v,hv,by rw [hg v hv,hg i hi,hgv],?_⟩;rcases qv v hqv with e|e
    ·exact e
    ·have:=hq.inj v u k hv hu e huk;subst this;exfalso;apply hc;rcases h1 with h1|h1
     ·left;rw [←hgv,h1]
     ·right;rw [←hgv,h1]
  ·obtain⟨v,hv,hgv,hqv⟩:=I q hqok _ hi;refine⟨v,hv,by rw [hg v hv,hg i hi,hgv],?_⟩;rcases qv v hqv with e|e
   ·exact e
   ·exact absurd ⟨v,hv,e⟩ hu
theorem pick_all {x:Pl} (h:Pok x) {U:Int→Prop} (hU: ∀ i,U i→0≤i∧i<x.stages.length): ∀ (m k:Nat) (g:Int→Int),m+k=x.pipes.length→circF x.stages.length (x.pipes.drop k) g=false→PickAll x U k g→ ∃ g',PickAll x U x.pipes.length g'
  |0,k,g,hm,hc,I=>⟨g,by rw [show x.pipes.length=k by omega];exact I⟩
  |m+1,k,g,hm,hc,I=>by
   have hk:k<x.pipes.length:=by omega
   rw [List.drop_eq_getElem_cons hk,circF,←pip_get hk] at hc;split at hc
   ·cases hc
   ·rename_i hab;exact pick_all h hU m (k+1) _ (by omega) hc (pick_step h hU hk hab I)
theorem Pok.pick {x:Pl} (h:Pok x) {U:Int→Prop} (hU: ∀ i,U i→0≤i∧i<x.stages.length) (p:Int→Nat)
  (hp: ∀ i,U i→p i<x.pipes.length∧((Pn.pip x (p i)).from_=i∨(Pn.pip x (p i)).to_=i)∧U (Pn.pip x (p i)).from_∧U (Pn.pip x (p i)).to_)
  (inj: ∀ i j,U i→U j→p i=p j→i=j): ∀ i,¬ U i:=by
  intro i hi;obtain⟨g,hg⟩:=pick_all h hU x.pipes.length 0 (fun j=>j) (by omega) h.circ (fun q hq i hi=>⟨i,hi,rfl,by
   cases e:q i with
   |none=>rfl
   |some m=>exact absurd (hq.at_ i m e hi).1 (Nat.not_lt_zero _)⟩)
  obtain⟨v,hv,-,h3⟩:=hg (fun i=>some (p i)) ⟨fun i m e hu=>by cases e;exact hp i hu,fun i j m hi hj h1 h2=>by
   have e1:p i=m:=Option.some.inj h1;have e2:p j=m:=Option.some.inj h2;exact inj i j hi hj (by rw [e1,e2])⟩ i hi
  cases h3
theorem Pok.loop {x:Pl} (h:Pok x) {k:Nat} (hk:k<x.pipes.length):(Pn.pip x k).from_≠(Pn.pip x k).to_:=by
  intro e;refine h.pick (U:=fun i=>i=(Pn.pip x k).from_) (fun i hi=>by rw [hi];exact (h.pip hk).fr) (fun _=>k) (fun i hi=>⟨hk,.inl hi.symm,rfl,e.symm⟩) (fun i j hi hj _=>by rw [hi,hj]) _ rfl
theorem hout_pos {k:Int} (h:1≤k∧k≤10) (h1:k≠10):1≤hout k:=by
  rcases kinds h with h|h|h|h|h|h|h|h|h|h<;>subst h<;>first|exact absurd rfl h1|decide
theorem Pok.snk {x:Pl} (h:Pok x):0<Pn.snk x.stages:=by
  rcases Classical.em (∃ i:Int,(0≤i∧i<x.stages.length)∧(Pn.stg x i).kind=10) with ⟨i,hi,hk⟩|hno
  ·unfold Pn.snk;have hm:Pn.stg x i∈x.stages.filter (fun s=>decide (s.kind=10)):=by
    refine List.mem_filter.2 ⟨?_,by simpa using hk⟩;unfold Pn.stg;rw [List.getD,List.getElem?_eq_getElem (by omega),Option.getD_some];exact List.getElem_mem _
   have:=List.length_pos_of_mem hm;omega
  ·exfalso;have hk: ∀ i:Int,0≤i∧i<x.stages.length→0≤(0:Int)∧0<hout (Pn.stg x i).kind:=fun i hi=>⟨Int.le_refl _,by
    have:=hout_pos (h.stg hi).2.kind (fun e=>hno ⟨i,hi,e⟩);omega⟩
   refine h.pick (U:=fun i=>0≤i∧i<x.stages.length) (fun i hi=>hi) (fun i=>(outP x i 0).toNat) (fun i hi=> ?_) (fun i j hi hj e=> ?_) 0 (by have:=h.n;omega)
   ·obtain⟨k,hk1,hk2,hk3,hk4⟩:=h.outp hi (hk i hi);have e:(outP x i 0).toNat=k:=by omega
    rw [e];exact⟨hk1,.inl hk3,(h.pip hk1).fr,(h.pip hk1).to⟩
   ·obtain⟨k,hk1,hk2,hk3,hk4⟩:=h.outp hi (hk i hi);obtain⟨l,hl1,hl2,hl3,hl4⟩:=h.outp hj (hk j hj);have e1:k=l:=by omega
    subst e1;rw [←hk3,hl3]
theorem Pok.pipes {x:Pl} (h:Pok x):0<x.pipes.length:=by
  have h0:(0:Int)≤0∧(0:Int)<x.stages.length:=by have:=h.n;omega
  by_cases h1:(Pn.stg x 0).kind=1
  ·obtain⟨k,hk,-⟩:=h.outp h0 (n:=0) (by rw [h1];decide);omega
  ·obtain⟨k,hk,-⟩:=h.inp h0 (n:=0) ⟨Int.le_refl _,by have:=hin_pos (h.stg h0).2.kind h1;omega⟩;omega
end Pn
namespace Pn
theorem need_in {y:Sg} {t:Ss} (h:(sneed y t).2=0) (he:t.ended=false) (hk:y.kind≠1):0<(sneed y t).1.length∧0≤(sneed y t).1.getD 0 default∧(sneed y t).1.getD 0 default<hin y.kind:=by
  obtain⟨hg,hv⟩:=sneed_ok h;have hp:=hin_pos hg.kind hk;have h8:y.kind=8→0≤t.count∧t.count≤1:=fun e=>(sval8 hv e).1;have h82:y.kind=8→hin y.kind=2:=fun e=>by rw [e];rfl
  have h92:y.kind=9→hin y.kind=2:=fun e=>by rw [e];rfl
  unfold sneed at h ⊢;split at h
  ·rename_i h1;exact absurd h h1
  ·rename_i h1;rw [if_neg h1];split at h
   ·cases h
   ·rename_i h2;rw [if_neg h2];rw [if_neg (by rw [he];rintro (e|e);cases e;exact hk e)];split
    ·rename_i h3;have:=h8 h3.1;refine⟨Nat.zero_lt_one,?_⟩;show 0≤1 - t.count∧1 - t.count<hin y.kind;rw [h82 h3.1];omega
    ·split
     ·rename_i h3 h4;have:=h8 h4;refine⟨Nat.zero_lt_one,?_⟩;show 0≤t.count∧t.count<hin y.kind;rw [h82 h4];omega
     ·split
      ·rename_i h3 h4 h5;refine⟨Nat.zero_lt_one,?_⟩;show (0:Int)≤1∧1<hin y.kind;rw [h92 h5.1];decide
      ·refine⟨Nat.zero_lt_one,?_⟩;show (0:Int)≤0∧0<hin y.kind;omega
theorem rsum_len (r:Rn):(rsum r).out.length=r.out.length:=by
  unfold rsum;exact (rsend_s _ _ _).2.2
theorem rtake_len (y:Sg) (r:Rn) (i v:Int):(rtake y r i v).out.length=r.out.length:=by
  have e: ∀ a b,(reval y r a b).1.out.length=r.out.length:=fun a b=>rfl;unfold rtake;split
  ·exact (rsend_s _ _ _).2.2
  ·split
   ·exact (rsend_s _ _ _).2.2
   ·split
    ·split
     ·exact (rsend_s _ _ _).2.2
     ·rfl
    ·split
     ·unfold rbatch;dsimp only;split
      ·exact rsum_len _
      ·rfl
     ·split
      ·exact (rrep_s _ _ _).2.2
      ·split
       ·split
        ·exact (rsend_s _ _ _).2.2
        ·rfl
       ·split
        ·exact (rsend_s _ _ _).2.2
        ·split
         ·exact (rsend_s _ _ _).2.2
         ·split
          ·unfold rzip;split
           ·split<;>rfl
           ·split
            ·exact (rsend_s _ _ _).2.2
            ·rfl
          ·rfl
theorem rfin_len (y:Sg) (r:Rn) (i:Int):(rfin y r i).out.length=r.out.length:=by
  unfold rfin;split
  ·show (if 0<r.s.held.length then rsum r else r).out.length=_;split
   ·exact rsum_len _
   ·rfl
  ·split
   ·rfl
   ·split<;>rfl
theorem stake_len (y:Sg) (s:Ss) (i v:Int):(stake y s i v).2.1=[]∨(stake y s i v).2.1.length=(hout y.kind).toNat:=by
  unfold stake;repeat' split
  all_goals first|exact .inl rfl| (right;exact (rtake_len y _ i v).trans (rnew_out y s).1)
theorem sfin_len (y:Sg) (s:Ss) (i:Int):(sfin y s i).2.1=[]∨(sfin y s i).2.1.length=(hout y.kind).toNat:=by
  unfold sfin;repeat' split
  all_goals first|exact .inl rfl| (right;exact (rfin_len y _ i).trans (rnew_out y s).1)
theorem pnext_sent (x:Pl) (s:Fs) (i:Int):(pnext x s i).1.sent.length≤(hout (stg x i).kind).toNat:=by
  have h1: ∀ n,(mend (stg x i) (sst s i) n).sent.length≤(hout (stg x i).kind).toNat:=fun n=>by
   rcases sfin_len (stg x i) (sst s i) n with e|e<;>(unfold mend;dsimp only;rw [e];simp)
  have h2: ∀ n b v,(mtake (stg x i) (sst s i) n b v).sent.length≤(hout (stg x i).kind).toNat:=fun n b v=>by
   rcases stake_len (stg x i) (sst s i) n v with e|e<;>(unfold mtake;dsimp only;rw [e];simp)
  unfold pnext;split
  ·exact Nat.zero_le _
  ·split
   ·split
    ·exact h1 _
    ·exact h2 _ _ _
   ·split
    ·exact h2 _ _ _
    ·split
     ·exact h1 _
     ·exact Nat.zero_le _
theorem Pv.need' {x:Pl} {s:Fs} (h:Pv x s) {i:Int} (hi:0≤i∧i<x.stages.length):(sneed (stg x i) (sst s i)).2=0:=by
  have:=h.need i.toNat (by omega);rwa [Int.toNat_of_nonneg hi.1] at this
end Pn
namespace Pn
theorem pvalid_ok {x:Pl} {s:Fs} (h:pvalid x s=0):Pok x∧Pv x s:=by
  unfold pvalid at h;split at h
  ·cases h
  ·rename_i h1;rw [not_or] at h1;exact⟨pchk_ok.1 (Classical.not_not.1 h1.1),pval_ok.1 (by simpa using h1.2)⟩
theorem pvalid_of {x:Pl} {s:Fs} (hx:Pok x) (hv:Pv x s):pvalid x s=0:=by
  unfold pvalid;rw [if_neg];rintro (h|h)
  ·exact h (pchk_ok.2 hx)
  ·rw [pval_ok.2 hv] at h;cases h
theorem enabL_t {x:Pl} {s:Fs} {k:Nat} (h:(penab x s (k:Int)).2=true):enabL x s k++[(k:Int)]=enabL x s (k+1):=by
  unfold enabL;rw [List.range_succ,List.filter_append,List.map_append];simp [h]
theorem enabL_f {x:Pl} {s:Fs} {k:Nat} (h:(penab x s (k:Int)).2=false):enabL x s k=enabL x s (k+1):=by
  unfold enabL;rw [List.range_succ,List.filter_append,List.map_append];simp [h]
theorem enabL_len (x:Pl) (s:Fs) (k:Nat):(enabL x s k).length≤k:=by
  unfold enabL;rw [List.length_map];exact Nat.le_trans (List.length_filter_le _ _) (by simp)
end Pn
