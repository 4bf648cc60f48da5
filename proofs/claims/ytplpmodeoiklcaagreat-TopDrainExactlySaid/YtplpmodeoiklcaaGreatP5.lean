/- A part of the proof. No condition. -/
import Derived.Test.YtplpmodeoiklcaaGreatP4
import Derived.Shelf.GgSortFunc.InsertionK
import Derived.Shelf.SlSortCmp.NoneTotal
set_option linter.unusedVariables false
set_option linter.unusedSimpArgs false
set_option maxRecDepth 10000
namespace Go.Proofs
open Go.Aw Wl Pn
theorem merge_c (a b:List Int) (hl:a.length+b.length≤1000):ACalls Tryz.prog 89 [(AV.sl 1 (List.map Go.Aw.encI a)),(AV.sl 1 (List.map Go.Aw.encI b))] [] (fun v st=>v=(AV.sl 1 (List.map Go.Aw.encI (Pn.mrg a b)))∧st=[]):=by
  refine acalls_body Tryz.func89 (by kernel_rfl) rfl Tryz.ntmps89 (le_ rfl) ?_;rw [Tryz.results89];refine asr ?_;refine sA ?_;refine aops_nil ?_;refine asr ?_;refine sA ?_;refine aops_nil ?_;refine awp_seq ?_;refine awp_block ?_;refine awp_loop2 (X:=(List Int×List Int×List Int)×Option Nat) [] .nil (fun σ x=>((0,.sl 1 (x.1.1.map Go.Aw.encI)):Nat×AV)::((1,.sl 1 (x.1.2.1.map Go.Aw.encI)):Nat×AV)::((5,.grow 1 x.2 (x.1.2.2.map Go.Aw.encI)):Nat×AV)::σ) (fun R x=> .tail x.2::R) (fun x=>x.1.2.2++Pn.mrg x.1.1 x.1.2.1=Pn.mrg a b∧x.1.2.2.length+x.1.1.length+x.1.2.1.length≤1000) (fun x=>x.1.1.length+x.1.2.1.length) ((a,b,[]),none) (by exact Weak.of2 (by (repeat (first|exact .nil _|refine .cons rfl (by first|exact AV.Imp.refl _|exact AV.Imp.nil_grow) ?_));done) (by (repeat (first|exact .refl _|apply ItLe2.tail0));done)) ⟨rfl,by simp;omega⟩ ?_;rintro⟨⟨a1,b1,p⟩,tok⟩ ⟨hm,hn⟩;simp only at hm hn;dsimp only;refine awp_seq ?_;refine asr ?_;refine sM ?_;refine sN ?_;refine sG ?_;refine aops_nil ?_;refine awp_cond rfl (fun h1=> ?_) (fun h1=> ?_)
  ·simp only [nf] at h1;obtain⟨x1,a2,rfl⟩: ∃ x a2,a1=x::a2:=List.exists_cons_of_ne_nil (by rintro rfl;simp at h1);refine awp_skip ?_;refine awp_block ?_;refine asr ?_;refine sM ?_;refine sM ?_;refine st_p (fun _=>by exact y_indexMap (e:=x1) (.plain rfl) (.plain rfl) rfl ⟨by simp,rfl⟩) rfl ?_;refine sU ?_;refine st_p (fun _=>by exact y_buildSlice (.cons (.plain rfl) inferInstance (by rfl) .nil) rfl (le_ rfl)) rfl ?_;refine st_append (by rfl) (.plain rfl) (.plain rfl) (by (simp;try omega)) rfl fun tA=> ?_;refine sA ?_;refine aops_nil ?_;refine awp_any0 (ks:=[.free,.free,.free,.free,.free]) (by kernel_rfl) (fun K=> ?_) ?_
   ·refine rM ?_;refine rM ?_;refine dr_p (fun _=>by exact y_sliceLoM (.plain rfl) (.plain rfl) rfl (by (simp;done))) rfl ?_;refine rA ?_;refine rA ?_;refine dr_nil ⟨rfl,?_⟩;refine⟨((b1,a2,p++[x1]),tA),⟨by rw [Pn.mrg_cons] at hm;simpa using hm,by simp at hn ⊢;omega⟩,by show b1.length+a2.length<(x1::a2).length+b1.length;simp;omega,?_⟩;dsimp only;exact Weak.of2 (by (repeat (first|exact .nil _|refine .cons rfl (by first|exact AV.Imp.refl _|exact AV.Imp.grow_of (by simp)) ?_));done) (by (repeat (exact .refl _));done)
   ·kernel_rfl
  ·simp only [nf] at h1;obtain rfl:a1=[]:=List.eq_nil_of_length_eq_zero (by omega);rw [Pn.mrg_nil] at hm;refine awp_exit ?_;refine asr ?_;refine sM ?_;refine sM ?_;refine st_append (by rfl) (.plain rfl) (.plain rfl) (by (simp;try omega)) rfl fun t1=> ?_;refine sA ?_;refine aops_nil ?_;refine awp_ret ?_;exact retG (.inr rfl) (.cons (.tmp rfl) .nil) (VShift.of2 (AV.Imp.trans AV.Imp.grow_sl (AV.Imp.of_eq (by rw [←List.map_append,hm]))) (.nil _)) ⟨rfl,rfl⟩
theorem indexFLl_c (l:List (List Int)) (hl:l.length≤1000000) (f:Nat) (caps:List AV) (p:List Int→Bool) (st0:List Aw.Item) (h: ∀ w∈l,ACalls Tryz.prog f ([.sl 1 (w.map Go.Aw.encI)]++caps) st0 (fun v st=>v= .bool (p w)∧st=st0)):ACalls Tryz.prog 92 [.sl 1 (l.map encLI),.clo f caps] st0 (fun v st=>v= .int (idxF p l)∧st=st0):=by
  refine acalls_body Tryz.func92 (by kernel_rfl) rfl Tryz.ntmps92 (le_ rfl) ?_;rw [Tryz.results92];refine asr ?_;refine sA ?_;refine aops_nil ?_;refine awp_seq ?_;refine asr ?_;refine sM ?_;refine sN ?_;refine sM ?_;refine aops_nil ?_;refine awp_block ?_;refine awp_loop2 (X:=Nat) [0,1,7] (.cons rfl (.cons rfl (.cons rfl .nil))) (fun σ x=>((8,.int (x:Int)):Nat×AV)::σ) (fun R x=>R) (fun x=>x≤l.length∧(∀ i (h:i<l.length),i<x→p l[i]=false)) (fun x=>l.length - x) 0 (by exact Weak.of2 (by (repeat (first|exact .nil _|refine .cons rfl (by exact AV.Imp.refl _) ?_));done) (by (repeat (exact .refl _));done)) ⟨Nat.zero_le _,by omega⟩ ?_;rintro k ⟨hk,hinv⟩;refine asr ?_;refine sS ?_;refine aops_nil ?_;refine awp_seq ?_;refine awp_cond rfl (fun h1=> ?_) (fun h1=> ?_)
  ·simp only [nf] at h1;refine awp_skip ?_;refine awp_seq ?_;refine awp_block ?_;refine asr ?_;refine sM ?_;refine sA ?_;refine aops_nil ?_;refine asr ?_;refine sM ?_;refine sM ?_;refine sM ?_;refine st_p (fun _=>by exact y_indexMap (.plain rfl) (.plain rfl) rfl (by refine⟨?_,?_⟩;(omega);rfl)) rfl ?_;refine sU ?_;refine aops_call (blt_lt rfl) (.plain rfl) (.cons (.plain rfl) .nil) ((h l[k] (List.getElem_mem h1)).mono ?_);rintro v st ⟨rfl,rfl⟩;refine aops_nil ?_;refine awp_cond rfl (fun h2=> ?_) (fun h2=> ?_)
   ·refine asr ?_;refine sM ?_;refine sA ?_;refine aops_nil ?_;refine awp_ret ?_;exact retG (.inr rfl) (.cons (.tmp rfl) .nil) VShift.refl ⟨by rw [idxF_at p l k h1 h2 hinv];rfl,rfl⟩
   ·refine awp_skip ?_;refine awp_region ?_;refine sY ?_ (hb:=by omega);refine sM ?_;refine aops_nil ?_;refine⟨k+1,?_,?_,Weak.of2 (by (repeat (first|exact .nil _|refine .cons rfl (by exact AV.Imp.refl _) ?_));done) (by (repeat (exact .refl _));done)⟩
    ·refine⟨by omega,?_⟩;intro i hi hik;by_cases e:i=k
     ·subst e;exact h2
     ·exact hinv i hi (by omega)
    ·omega
  ·simp only [nf] at h1;refine awp_exit ?_;refine asr ?_;refine sA ?_;refine aops_nil ?_;refine awp_ret ?_;exact retG (.inr rfl) (.cons (.tmp rfl) .nil) VShift.refl ⟨by rw [idxF_no p l (fun i hi=>hinv i hi (by omega))];rfl,rfl⟩
theorem containsFLl_c (l:List (List Int)) (hl:l.length≤1000000) (f:Nat) (caps:List AV) (p:List Int→Bool) (st0:List Aw.Item) (h: ∀ w∈l,ACalls Tryz.prog f ([.sl 1 (w.map Go.Aw.encI)]++caps) st0 (fun v st=>v= .bool (p w)∧st=st0)):ACalls Tryz.prog 65 [.sl 1 (l.map encLI),.clo f caps] st0 (fun v st=>v= .bool (l.any p)∧st=st0):=by
  refine acalls_body Tryz.func65 (by kernel_rfl) rfl Tryz.ntmps65 (le_ rfl) ?_;rw [Tryz.results65];refine asr ?_;refine sA ?_;refine aops_nil ?_;refine asr ?_;refine sM ?_;refine sM ?_;refine aops_call (blt_lt rfl) (.plain rfl) (.cons (.plain rfl) (.cons (.plain rfl) .nil)) ((indexFLl_c l hl f caps p st0 h).mono ?_);rintro v st ⟨rfl,rfl⟩;refine st_p (fun _=>by exact y_geq (.plain rfl) (.plain rfl)) rfl ?_;refine sA ?_;refine aops_nil ?_;refine awp_ret ?_;exact retG (.inr rfl) (.cons (.tmp rfl) .nil) VShift.refl ⟨by rw [←idxF_any];rfl,rfl⟩
theorem longM_c (l:List Int):ACalls Tryz.prog 66 [.sl 1 (l.map Go.Aw.encI)] [] (fun v st=>v= .bool (decide (200<l.length))∧st=[]):=by
  refine acalls_body Tryz.func66 (by kernel_rfl) rfl Tryz.ntmps66 (le_ rfl) ?_;rw [Tryz.results66];refine asr ?_;refine sA ?_;refine aops_nil ?_;refine asr ?_;refine sM ?_;refine sN ?_;refine sG ?_;refine sA ?_;refine aops_nil ?_;refine awp_ret ?_;exact retG (.inr rfl) (.cons (.tmp rfl) .nil) (VShift.of2 (AV.Imp.of_eq (by show AV.bool _=_;exact congrArg AV.bool (decide_eq_decide.2 (by omega)))) (.nil _)) ⟨rfl,rfl⟩
theorem notnumM_c (n:Int):ACalls Tryz.prog 61 [.int n] [] (fun v st=>v= .bool (!Pn.num n)∧st=[]):=by
  refine acalls_body Tryz.func61 (by kernel_rfl) rfl Tryz.ntmps61 (le_ rfl) ?_;rw [Tryz.results61];refine asr ?_;refine sA ?_;refine aops_nil ?_;refine asr ?_;refine sM ?_;refine aops_call (blt_lt rfl) (.plain rfl) (.cons (.plain rfl) .nil) (ACalls.here (num_c n) ?_);refine sO ?_;refine sA ?_;refine aops_nil ?_;refine awp_ret ?_;exact retG (.inr rfl) (.cons (.tmp rfl) .nil) (VShift.of2 (AV.Imp.refl _) (.nil _)) ⟨rfl,rfl⟩
theorem htakeG_c (y:Pn.Sg) (h:Pn.Sgok y) (hk9:y.kind≠1∧y.kind≠8∧y.kind≠9): ∃ (f:Nat) (caps:List AV),Fun (hTake y.kind) f caps∧ ∀ n rn i v,Pn.Wk y n rn→n≤200→Pn.num v=true→ ∀ r o st0,RS r o y rn st0→ACalls Tryz.prog f ([.ptr r 0,.int i,.int v]++caps) st0 (fun v9 st=>v9= .tup []∧RS r o y (Pn.rtake y rn i v) st):=by
  rcases Pn.kinds h.kind with hk|hk|hk|hk|hk|hk|hk|hk|hk|hk
  ·exact absurd hk (by omega)
  ·rw [show hTake y.kind= .val (.func (.func 124) #[] #[]) by rw [hk];rfl];refine⟨_,_,inferInstance,fun n rn i v hw hn hv r o st0 hst=> ?_⟩;have hro:=hw.rok h (by omega) hn;have e:=(by unfold Pn.rtake;rw [if_neg (by omega),if_pos hk]:Pn.rtake y rn i v=_)
   rw [e];exact h3_c r o y rn st0 hst hro i v
  ·rw [show hTake y.kind= .val (.func (.func 125) #[] #[]) by rw [hk];rfl];refine⟨_,_,inferInstance,fun n rn i v hw hn hv r o st0 hst=> ?_⟩;have hro:=hw.rok h (by omega) hn;have e:=(by unfold Pn.rtake;rw [if_neg (by omega),if_neg (by omega),if_pos hk]:Pn.rtake y rn i v=_)
   rw [e];exact h4_c r o y rn st0 hst hro i v
  ·rw [show hTake y.kind= .val (.func (.func 126) #[] #[]) by rw [hk];rfl];refine⟨_,_,inferInstance,fun n rn i v hw hn hv r o st0 hst=> ?_⟩;have hro:=hw.rok h (by omega) hn;have e:=(by unfold Pn.rtake;rw [if_neg (by omega),if_neg (by omega),if_neg (by omega),if_pos hk]:Pn.rtake y rn i v=_)
   rw [e];exact batch_c r o y rn st0 hst hro hw.num (by have:=hw.held hk;have:=h.size2;omega) i v hv
  ·rw [show hTake y.kind= .val (.func (.func 129) #[] #[]) by rw [hk];rfl];refine⟨_,_,inferInstance,fun n rn i v hw hn hv r o st0 hst=> ?_⟩;have hro:=hw.rok h (by omega) hn;have e:=(by unfold Pn.rtake;rw [if_neg (by omega),if_neg (by omega),if_neg (by omega),if_neg (by omega),if_pos hk]:Pn.rtake y rn i v=_)
   rw [e];exact h6_c r o y rn st0 hst hro i v
  ·rw [show hTake y.kind= .val (.func (.func 130) #[] #[]) by rw [hk];rfl];refine⟨_,_,inferInstance,fun n rn i v hw hn hv r o st0 hst=> ?_⟩;have hro:=hw.rok h (by omega) hn;have e:=(by unfold Pn.rtake;rw [if_neg (by omega),if_neg (by omega),if_neg (by omega),if_neg (by omega),if_neg (by omega),if_pos hk]:Pn.rtake y rn i v=_)
   rw [e];exact h7_c r o y rn st0 hst hro hw.count i v
  ·rw [show hTake y.kind= .val (.func (.func 131) #[] #[]) by rw [hk];rfl];refine⟨_,_,inferInstance,fun n rn i v hw hn hv r o st0 hst=> ?_⟩;have hro:=hw.rok h (by omega) hn;have e:=(by unfold Pn.rtake;rw [if_neg (by omega),if_neg (by omega),if_neg (by omega),if_neg (by omega),if_neg (by omega),if_neg (by omega),if_pos hk]:Pn.rtake y rn i v=_)
   rw [e];exact h8_c r o y rn st0 hst hro (by rw [hw.out,hk];rfl) v (fun h9=>Pn.eval_truth h (by rw [hk];rfl) v 0 (Pn.reval_zero h9)) i
  ·exact absurd hk (by omega)
  ·exact absurd hk (by omega)
  ·rw [show hTake y.kind= .val (.func (.func 136) #[] #[]) by rw [hk];rfl];refine⟨_,_,inferInstance,fun n rn i v hw hn hv r o st0 hst=> ?_⟩;have e:=(by unfold Pn.rtake;rw [if_neg (by omega),if_neg (by omega),if_neg (by omega),if_neg (by omega),if_neg (by omega),if_neg (by omega),if_neg (by omega),if_neg (by omega),if_neg (by omega)]:Pn.rtake y rn i v=_)
   rw [e];exact h10_c r o y rn st0 hst i v
theorem hendG_c (y:Pn.Sg) (h:Pn.Sgok y) (hk9:y.kind≠1∧y.kind≠8∧y.kind≠9): ∃ (f:Nat) (caps:List AV),Fun (hEnd y.kind) f caps∧ ∀ n rn i,Pn.Wk y n rn→n≤200→ ∀ r o st0,RS r o y rn st0→ACalls Tryz.prog f ([.ptr r 0,.int i]++caps) st0 (fun v9 st=>v9= .tup []∧RS r o y (Pn.rfin y rn i) st):=by
  rcases Pn.kinds h.kind with hk|hk|hk|hk|hk|hk|hk|hk|hk|hk
  ·exact absurd hk (by omega)
  ·rw [show hEnd y.kind= .val (.func (.func 122) #[] #[]) by rw [hk];rfl];refine⟨_,_,inferInstance,fun n rn i hw hn r o st0 hst=> ?_⟩;have e:=(by unfold Pn.rfin;rw [if_neg (by omega),if_neg (by omega),if_neg (by omega)]:Pn.rfin y rn i=_)
   rw [e];exact h2_c r o y rn st0 hst i
  ·rw [show hEnd y.kind= .val (.func (.func 122) #[] #[]) by rw [hk];rfl];refine⟨_,_,inferInstance,fun n rn i hw hn r o st0 hst=> ?_⟩;have e:=(by unfold Pn.rfin;rw [if_neg (by omega),if_neg (by omega),if_neg (by omega)]:Pn.rfin y rn i=_)
   rw [e];exact h2_c r o y rn st0 hst i
  ·rw [show hEnd y.kind= .val (.func (.func 127) #[] #[]) by rw [hk];rfl];refine⟨_,_,inferInstance,fun n rn i hw hn r o st0 hst=> ?_⟩;have e:=(by unfold Pn.rfin;rw [if_pos hk]:Pn.rfin y rn i=_)
   rw [e];exact h5_c r o y rn st0 hst (hw.rok h (by omega) hn) hw.num (by have:=hw.held hk;have:=h.size2;omega) i
  ·rw [show hEnd y.kind= .val (.func (.func 122) #[] #[]) by rw [hk];rfl];refine⟨_,_,inferInstance,fun n rn i hw hn r o st0 hst=> ?_⟩;have e:=(by unfold Pn.rfin;rw [if_neg (by omega),if_neg (by omega),if_neg (by omega)]:Pn.rfin y rn i=_)
   rw [e];exact h2_c r o y rn st0 hst i
  ·rw [show hEnd y.kind= .val (.func (.func 122) #[] #[]) by rw [hk];rfl];refine⟨_,_,inferInstance,fun n rn i hw hn r o st0 hst=> ?_⟩;have e:=(by unfold Pn.rfin;rw [if_neg (by omega),if_neg (by omega),if_neg (by omega)]:Pn.rfin y rn i=_)
   rw [e];exact h2_c r o y rn st0 hst i
  ·rw [show hEnd y.kind= .val (.func (.func 122) #[] #[]) by rw [hk];rfl];refine⟨_,_,inferInstance,fun n rn i hw hn r o st0 hst=> ?_⟩;have e:=(by unfold Pn.rfin;rw [if_neg (by omega),if_neg (by omega),if_neg (by omega)]:Pn.rfin y rn i=_)
   rw [e];exact h2_c r o y rn st0 hst i
  ·exact absurd hk (by omega)
  ·exact absurd hk (by omega)
  ·rw [show hEnd y.kind= .val (.func (.func 122) #[] #[]) by rw [hk];rfl];refine⟨_,_,inferInstance,fun n rn i hw hn r o st0 hst=> ?_⟩;have e:=(by unfold Pn.rfin;rw [if_neg (by omega),if_neg (by omega),if_neg (by omega)]:Pn.rfin y rn i=_)
   rw [e];exact h2_c r o y rn st0 hst i
end Go.Proofs
set_option maxRecDepth 10000
namespace Go.Proofs
open Go.Aw Wl Pn
theorem whole_c (r o:Nat) (y:Pn.Sg) (rn:Pn.Rn) (L:List (List Int)) (st0:List Aw.Item) (hst:RS r o y rn st0) (h:Pn.Sgok y) (hr:y.kind=5→y.size≤4) (hw:Pn.Wk y 0 rn) (hL:(L.length:Int)=Pn.hin y.kind) (hl: ∀ l∈L,l.length≤200∧ ∀ n∈l,Pn.num n=true):ACalls Tryz.prog 64 [.ptr r 0,.agg (encHd y.kind),.sl 1 (L.map encLI)] st0 (fun v9 st=>v9= .tup []∧RQ r o y (Pn.swhole y L rn) st):=by
  refine acalls_body Tryz.func64 (by kernel_rfl) rfl Tryz.ntmps64 (le_ rfl) ?_;rw [Tryz.results64];obtain⟨os,rfl,hos⟩:=hst;unfold RNI ROI encRn;refine asr ?_;refine sB fun n1=> ?_;refine aops_nil ?_;refine asr ?_;refine sM ?_;refine sZ ?_;refine sF ?_;refine sF ?_;refine sL k1 ?_;refine aops_nil ?_;refine awp_block ?_;refine asr ?_;refine sQ ?_;refine sA ?_;refine aops_nil ?_;refine awp_cond rfl (fun h1=> ?_) (fun h1=> ?_)
  ·simp only [nf] at h1;obtain⟨⟨t1,l1⟩,rfl⟩:=Pn.len1 (show os.length=1 by have:=hw.out;rw [hos,List.length_map,(Pn.hin1 h.kind).2.2.2.2 (by omega)] at this;exact this);dsimp only [List.map,List.length];refine awp_anyT (ks:=[.free,.free,.free,.free,.free,.free,.free,.free,.free,.free,.free,.write]) [.cells o _] (by apply Takes.cons (by exact k2);exact .nil _) (by kernel_rfl) (fun K=> ?_) ?_
   ·refine rM ?_;refine rZ ?_;refine rF ?_;refine rL k1 ?_;refine rM ?_;refine rZ ?_;refine rF ?_;refine rF ?_;refine rL k1 ?_;refine dr_p (fun _=>by exact y_call (.plain rfl) (.cons (.plain rfl) .nil) (ACalls.pure (cloneI_c y.items (by have:=h.len;omega)))) rfl ?_;refine dr_p (fun _=>by exact y_indexArr (.plain rfl) (.plain rfl) rfl (by (simp;done))) rfl ?_;refine dr_s (fun _=>by exact y_storeW (by rfl) rfl (.plain rfl) (.plain rfl) (by exact .here) (by rfl)) ?_;refine dr_nil ?_;exact retG (.inl rfl) .nil (VShift.of2 (st':=[.cells r (encRn y rn.s o 1 rn.err),.cells o [.sl 1 (y.items.map Go.Aw.encI)]]) (AV.Imp.refl _) (by unfold encRn;(repeat (first|exact .nil _|apply ItLe2.cons (by first|exact .here|exact k2)));done)) ⟨rfl,by rw [Pn.swhole_1 (by assumption)];exact RQ.mk1 hos⟩
   ·kernel_rfl
  ·simp only [nf] at h1;refine asr ?_;refine sQ ?_;refine sA ?_;refine aops_nil ?_;refine awp_cond rfl (fun h2=> ?_) (fun h2=> ?_)
   ·simp only [nf] at h2;obtain⟨⟨t1,l1⟩,rfl⟩:=Pn.len1 (show os.length=1 by have:=hw.out;rw [hos,List.length_map,(Pn.hin1 h.kind).2.2.2.2 (by omega)] at this;exact this);dsimp only [List.map,List.length];obtain⟨a,b,rfl⟩:=Pn.len2 (show L.length=2 by (have:=(Pn.hin1 h.kind).2.1 (by omega);omega));have ha:=hl a (by simp);have hb:=hl b (by simp);refine awp_anyT (ks:=[.free,.free,.free,.free,.free,.free,.free,.free,.free,.free,.free,.free,.write]) [.cells o _] (by apply Takes.cons (by exact k2);exact .nil _) (by kernel_rfl) (fun K=> ?_) ?_
    ·refine rM ?_;refine rZ ?_;refine rF ?_;refine rL k1 ?_;refine rM ?_;refine dr_p (fun _=>by exact y_indexMap (e:=a) (.plain rfl) (.plain rfl) rfl ⟨by simp,rfl⟩) rfl ?_;refine rU ?_;refine rM ?_;refine dr_p (fun _=>by exact y_indexMap (e:=b) (.plain rfl) (.plain rfl) rfl ⟨by simp,rfl⟩) rfl ?_;refine rU ?_;refine dr_p (fun _=>by exact y_call (.plain rfl) (.cons (.imp (.plain rfl) (Sl.imp (enc:=Go.Aw.encI))) (.cons (.imp (.plain rfl) (Sl.imp (enc:=Go.Aw.encI))) .nil)) (ACalls.pure (merge_c a b (by omega)))) rfl ?_;refine dr_p (fun _=>by exact y_indexArr (.plain rfl) (.plain rfl) rfl (by (simp;done))) rfl ?_;refine dr_s (fun _=>by exact y_storeW (by rfl) rfl (.plain rfl) (.plain rfl) (by exact .here) (by rfl)) ?_;refine dr_nil ?_;exact retG (.inl rfl) .nil (VShift.of2 (st':=[.cells r (encRn y rn.s o 1 rn.err),.cells o [.sl 1 ((Pn.mrg a b).map Go.Aw.encI)]]) (AV.Imp.refl _) (by unfold encRn;(repeat (first|exact .nil _|apply ItLe2.cons (by first|exact .here|exact k2)));done)) ⟨rfl,by rw [Pn.swhole_8 (by assumption)];exact RQ.mk1 hos⟩
    ·kernel_rfl
   ·simp only [nf] at h2;refine asr ?_;refine sQ ?_;refine sA ?_;refine aops_nil ?_;refine awp_cond rfl (fun h3=> ?_) (fun h3=> ?_)
    ·simp only [nf] at h3;refine awp_seq ?_;obtain⟨⟨t1,l1⟩,rfl⟩:=Pn.len1 (show os.length=1 by have:=hw.out;rw [hos,List.length_map,(Pn.hin1 h.kind).2.2.2.2 (by omega)] at this;exact this);dsimp only [List.map,List.length];obtain⟨a,b,rfl⟩:=Pn.len2 (show L.length=2 by (have:=(Pn.hin1 h.kind).2.2.1 (by omega);omega));have ha:=hl a (by simp);have hb:=hl b (by simp);refine awp_any0 (ks:=[.free,.free,.free,.free,.free,.free,.free,.free,.free,.free]) (by kernel_rfl) (fun K=> ?_) ?_
     ·refine rM ?_;refine dr_p (fun _=>by exact y_indexMap (e:=a) (.plain rfl) (.plain rfl) rfl ⟨by simp,rfl⟩) rfl ?_;refine rU ?_;refine rN ?_;refine rM ?_;refine dr_p (fun _=>by exact y_indexMap (e:=b) (.plain rfl) (.plain rfl) rfl ⟨by simp,rfl⟩) rfl ?_;refine rU ?_;refine rN ?_;refine dr_p (fun _=>by exact y_min (.plain rfl) (.plain rfl)) rfl ?_;refine rM ?_;refine dr_nil ⟨rfl,?_⟩;refine awp_block ?_;refine awp_loop2 (X:=Nat×Option Nat×List Int) (rest:=[]) [0,2,69] (.cons rfl (.cons rfl (.cons rfl .nil))) (fun σ x=>((70,.int (x.1:Int)):Nat×AV)::σ) (fun R x=> .cells n1 (encHd y.kind)::RNI r o y (Pn.rzipK y a b rn x.1) [x.2]) (fun x=>x.1≤min a.length b.length∧(Pn.rzipK y a b rn x.1).out=[x.2.2]) (fun x=>min a.length b.length - x.1) (0,t1,l1) (by exact Weak.of2 (by (repeat (first|exact .nil _|refine .cons rfl (by exact AV.Imp.refl _) ?_));done) (by (repeat (exact .refl _));done)) ⟨Nat.zero_le _,hos⟩ ?_;rintro⟨k,tok,l9⟩ ⟨hk,ho9⟩;simp only at hk ho9;unfold RNI ROI encRn;dsimp only;refine asr ?_;refine sS ?_;refine aops_nil ?_;refine awp_seq ?_;refine awp_cond rfl (fun h4=> ?_) (fun h4=> ?_)
      ·simp only [nf] at h4;have hka:k<a.length:=by omega
       have hkb:k<b.length:=by omega
       have hga:a[k]=a.getD k default:=by rw [List.getD,List.getElem?_eq_getElem (by omega),Option.getD_some]
       have hgb:b[k]=b.getD k default:=by rw [List.getD,List.getElem?_eq_getElem (by omega),Option.getD_some]
       refine awp_skip ?_;refine awp_seq ?_;refine awp_block ?_;refine asr ?_;refine sM ?_;refine sA ?_;refine aops_nil ?_;refine awp_anyLk (ks:=[.free,.free,.free,.free,.free,.free,.free,.free,.free,.free,.free,.free,.free,.free,.write]) [.cells r _,.cells o _,.tail _] (by apply Takes.cons (by exact k1);apply Takes.cons (by exact k1);apply Takes.cons (by exact k1);exact .nil _) 15 rfl rfl (by kernel_rfl) (by kernel_rfl) (by kernel_rfl) (fun K=> ?_);dsimp only [List.take]
       ·refine rM ?_;refine rM ?_;refine rM ?_;refine dr_p (fun _=>by exact y_indexMap (e:=a) (.plain rfl) (.plain rfl) rfl ⟨by simp,rfl⟩) rfl ?_;refine rU ?_;refine rM ?_;refine dr_p (fun _=>by exact y_indexMap (e:=a.getD k default) (.plain rfl) (.plain rfl) rfl ⟨by omega,hga⟩) rfl ?_;refine rU ?_;refine rM ?_;refine dr_p (fun _=>by exact y_indexMap (e:=b) (.plain rfl) (.plain rfl) rfl ⟨by simp,rfl⟩) rfl ?_;refine rU ?_;refine rM ?_;refine dr_p (fun _=>by exact y_indexMap (e:=b.getD k default) (.plain rfl) (.plain rfl) rfl ⟨by omega,hgb⟩) rfl ?_;refine rU ?_;refine dr_n (v:=fun _=>_) (st':=fun _=>_) (fun _=>by exact y_call (.plain rfl) (.cons (.plain rfl) (.cons (.plain rfl) (.cons (.plain rfl) .nil))) (eval3_c r o y (Pn.rzipK y a b rn k) [(tok,l9)] h.kind (a.getD k default) (b.getD k default))) rfl fun _=> ?_;refine dr_nil ?_;refine aops_call (blt_lt rfl) (.plain rfl) (.cons (.plain rfl) (.cons (.plain rfl) (.cons (.plain rfl) .nil))) (ACalls.frame (st1:=RNI r o y (Pn.reval y (Pn.rzipK y a b rn k) (a.getD k default) (b.getD k default)).1 [(tok,l9)]) (send_c r o y (Pn.reval y (Pn.rzipK y a b rn k) (a.getD k default) (b.getD k default)).1 _ ⟨[(tok,l9)],rfl,ho9⟩ 0 ⟨fun _=>⟨Int.le_refl _,by show 0<(Pn.rzipK y a b rn k).out.length;rw [ho9];exact Nat.zero_lt_one⟩,by show (Pn.rzipK y a b rn k).out.length≤2;rw [ho9];exact (by decide:(1:Nat)≤2),fun l hl9=>by have h7:=(Pn.rzipK_s y a b rn k).2.2 (4*0) hw.len l hl9;omega⟩ (Pn.reval y (Pn.rzipK y a b rn k) (a.getD k default) (b.getD k default)).2) (List.Perm.refl _) ?_);rintro v9 st ⟨rfl,os1,rfl,hos1⟩;obtain⟨⟨tA,lA⟩,rfl⟩:=Pn.len1 (show os1.length=1 by have h7:=congrArg List.length hos1;rw [(Pn.rsend_s _ _ _).2.2,List.length_map] at h7;rw [←h7];show (Pn.rzipK y a b rn k).out.length=1;rw [ho9];rfl);refine aops_weak (Weak.perm List.perm_append_comm) ?_;refine aops_nil ?_;refine awp_region ?_;refine sY ?_ (hb:=by omega);refine sM ?_;refine aops_nil ?_;refine⟨(k+1,tA,lA),⟨by show k+1≤_;omega,hos1⟩,by show min a.length b.length - (k+1)<min a.length b.length - k;omega,Weak.of2 (by (repeat (first|exact .nil _|refine .cons rfl (by exact AV.Imp.refl _) ?_));done) (by (repeat (exact .refl _));done)⟩
      ·simp only [nf] at h4;refine awp_exit ?_;obtain rfl:k=min a.length b.length:=by omega
       exact retG (.inl rfl) .nil (VShift.of2 (st':=RNI r o y (Pn.rzipK y a b rn (min a.length b.length)) [(tok,l9)]) (AV.Imp.refl _) (by unfold RNI ROI encRn;dsimp only [List.map,List.length];(repeat (first|exact .nil _|apply ItLe2.cons (by exact k1)));done)) ⟨rfl,by rw [Pn.swhole_9 (by assumption)];exact RS.rq ⟨_,rfl,ho9⟩⟩
     ·kernel_rfl
    ·simp only [nf] at h3;refine awp_seq ?_;refine awp_seq ?_;have hk9:y.kind≠1∧y.kind≠8∧y.kind≠9:=⟨by omega,by omega,by omega⟩
     obtain⟨a,rfl⟩:=Pn.len1 (show L.length=1 by have:=(Pn.hin1 h.kind).2.2.2.1 hk9;omega);have ha:=hl a (by simp);obtain⟨f9,caps9,hF9,hcall⟩:=htakeG_c y h hk9;obtain⟨f8,caps8,hF8,hcall2⟩:=hendG_c y h hk9;refine awp_region ?_;refine sM ?_;refine st_p (fun _=>by exact y_indexMap (e:=a) (.plain rfl) (.plain rfl) rfl ⟨by simp,rfl⟩) rfl ?_;refine sU ?_;refine sN ?_;refine sM ?_;refine aops_nil ?_;refine awp_block ?_;refine awp_loop2 (X:=Nat×List Aw.Item) (rest:=[]) [0,4,16,17] (.cons rfl (.cons rfl (.cons rfl (.cons rfl .nil)))) (fun σ x=>((18,.int (x.1:Int)):Nat×AV)::σ) (fun R x=> .cells n1 (encHd y.kind)::x.2) (fun x=>x.1≤a.length∧RS r o y (Pn.rall y rn (a.take x.1)) x.2) (fun x=>a.length - x.1) (0,RNI r o y rn os) (by exact Weak.of2 (by (repeat (first|exact .nil _|refine .cons rfl (by exact AV.Imp.refl _) ?_));done) (by (repeat (exact .refl _));done)) ⟨Nat.zero_le _,os,rfl,hos⟩ ?_;rintro⟨k,st⟩ ⟨hk,hrs⟩;simp only at hk hrs;dsimp only;refine asr ?_;refine sS ?_;refine aops_nil ?_;refine awp_seq ?_;refine awp_cond rfl (fun h5=> ?_) (fun h5=> ?_)
     ·simp only [nf] at h5;have hkl:k<a.length:=by omega
      have hga:a[k]=a.getD k default:=by rw [List.getD,List.getElem?_eq_getElem (by omega),Option.getD_some]
      have hwk:=Pn.Wk.all hw h hr hk9 a ha.2 k (by omega);have hnk:Pn.num (a.getD k default)=true:=by rw [←hga];exact ha.2 _ (List.getElem_mem _)
      refine awp_skip ?_;refine awp_seq ?_;refine awp_block ?_;refine asr ?_;refine st_p (fun _=>by exact y_indexMap (e:=a.getD k default) (.plain rfl) (.plain rfl) rfl ⟨by omega,hga⟩) rfl ?_;refine sU ?_;refine sA ?_;refine aops_nil ?_;refine awp_region ?_;refine sF ?_;refine sL .here ?_;refine sM ?_;refine sM ?_;refine aops_call (blt_lt rfl) (.plain rfl) (.cons (.plain rfl) (.cons (.plain rfl) (.cons (.plain rfl) .nil))) (ACalls.frame (st1:=st) (hcall _ _ 0 (a.getD k default) hwk (by omega) hnk r o st hrs) (List.perm_append_comm (l₁:=[_])) ?_);rintro v9 st1 ⟨rfl,hrs1⟩;refine aops_weak (Weak.perm List.perm_append_comm) ?_;refine aops_nil ?_;refine awp_region ?_;refine sY ?_ (hb:=by omega);refine sM ?_;refine aops_nil ?_;refine⟨(k+1,st1),⟨by show k+1≤_;omega,by rw [Pn.rall_take y rn a k (by omega)];exact hrs1⟩,by show a.length - (k+1)<a.length - k;omega,Weak.of2 (by (repeat (first|exact .nil _|refine .cons rfl (by exact AV.Imp.refl _) ?_));done) (by (repeat (exact .refl _));done)⟩
     ·simp only [nf] at h5;refine awp_exit ?_;refine awp_region ?_;refine sF ?_;refine sL .here ?_;refine sM ?_;obtain rfl:k=a.length:=by omega
      have hwa:=Pn.Wk.all hw h hr hk9 a ha.2 a.length (Nat.le_refl _);rw [List.take_length] at hrs hwa;refine aops_call (blt_lt rfl) (.plain rfl) (.cons (.plain rfl) (.cons (.plain rfl) .nil)) (ACalls.frame (st1:=st) (hcall2 _ _ 0 hwa (by omega) r o st hrs) (List.perm_append_comm (l₁:=[_])) ?_);rintro v9 st1 ⟨rfl,hrs1⟩;refine aops_nil ?_;exact retG (.inl rfl) .nil (VShift.of2 (st':=st1) (AV.Imp.refl _) (.sub (List.sublist_append_left _ _))) ⟨rfl,by rw [Pn.swhole_x hk9];exact hrs1.rq⟩
end Go.Proofs
set_option maxRecDepth 10000
namespace Go.Proofs
open Go.Aw Wl Pn
theorem smean_c (y:Pn.Sg) (L:List (List Int)) (hr:y.kind=5→y.size≤4) (hL:L.length≤1000000):ACalls Tryz.prog 30 [(AV.agg (encSg y)),(AV.sl 1 (List.map encLI L))] [] (fun v st=>v=(AV.tup [(AV.sl 1 (List.map encLI ((Pn.smean y L).1))),(AV.int ((Pn.smean y L).2))])∧st=[]):=by
  refine acalls_body Tryz.func30 (by kernel_rfl) rfl Tryz.ntmps30 (le_ rfl) ?_;rw [Tryz.results30];refine asr ?_;refine sB fun n1=> ?_;refine sA ?_;refine sA ?_;refine aops_nil ?_;refine awp_seq ?_;refine asr ?_;refine sW .here ?_;refine aops_call (blt_lt rfl) (.plain rfl) (.cons (.imp (.plain rfl) (AV.Imp.agg (RowOf.imp (enc:=encSg)))) .nil) (ACalls.here (sgchk_c y) ?_);refine sA ?_;refine aops_nil ?_;refine asr ?_;refine sM ?_;refine sR ?_;refine aops_nil ?_;refine awp_cond rfl (fun h1=> ?_) (fun h1=> ?_)
  ·simp only [nf] at h1;refine asr ?_;refine sM ?_;refine sA ?_;refine sA ?_;refine aops_nil ?_;refine awp_ret ?_;refine retG (.inr rfl) (.cons (.tmp rfl) (.cons (.tmp rfl) .nil)) (VShift.of2 (AV.Imp.tup (.cons (Sl.imp (enc:=encLI)) (.cons (AV.Imp.refl _) .nil))) (.nil _)) ⟨congrArg (fun x:(List (List Int))×(Int)=>(AV.tup [(AV.sl 1 (List.map encLI x.1)),(AV.int x.2)])) (show (_,_)=(Pn.smean y L) from ?_),rfl⟩;rw [Pn.smean,if_pos (show Pn.sgchk y≠0 by omega)];all_goals rfl
  ·simp only [nf] at h1;refine awp_skip ?_;refine awp_seq ?_;have hsg:=Pn.sgchk_ok (x:=y) (by omega);refine awp_region ?_;refine sF ?_;refine sL .here ?_;refine aops_call (blt_lt rfl) (.plain rfl) (.cons (.plain rfl) .nil) (ACalls.here (known_c y.kind hsg.kind) ?_);refine sM ?_;refine sE ?_;refine sE ?_;refine sC fun n7=> ?_;refine st_s (fun _=>by exact y_storeW (by rfl) rfl (.plain rfl) (.plain rfl) (by exact .here) (by rfl)) ?_;refine sA ?_;refine aops_nil ?_;refine awp_seq ?_;refine asr ?_;refine sM ?_;refine sN ?_;refine sF ?_;refine sL .here ?_;refine sR ?_;refine aops_nil ?_;refine awp_cond rfl (fun h2=> ?_) (fun h2=> ?_)
   ·simp only [nf] at h2;refine asr ?_;refine sA ?_;refine sA ?_;refine aops_nil ?_;refine awp_ret ?_;refine retG (.inr rfl) (.cons (.tmp rfl) (.cons (.tmp rfl) .nil)) (VShift.of2 (AV.Imp.tup (.cons (Sl.imp (enc:=encLI)) (.cons (AV.Imp.refl _) .nil))) (.nil _)) ⟨congrArg (fun x:(List (List Int))×(Int)=>(AV.tup [(AV.sl 1 (List.map encLI x.1)),(AV.int x.2)])) (show (_,_)=(Pn.smean y L) from ?_),rfl⟩;rw [Pn.smean,if_neg (show ¬ Pn.sgchk y≠0 by omega),if_pos (show (L.length:Int)≠Pn.hin y.kind by omega)]
   ·simp only [nf] at h2;refine awp_skip ?_;refine awp_seq ?_;refine asr ?_;refine sM ?_;refine sN ?_;refine sM ?_;refine aops_nil ?_;refine awp_block ?_;refine awp_loop2 (X:=Nat) [1,2,7,28,29] (.cons rfl (.cons rfl (.cons rfl (.cons rfl (.cons rfl .nil))))) (fun σ x=>((30,.int (x:Int)):Nat×AV)::σ) (fun R x=> .cells n1 (encSg y):: .cells n7 (encHd y.kind)::R) (fun x=>x≤L.length∧(∀ i (h:i<L.length),i<x→Pn.lchk L[i]=0)) (fun x=>L.length - x) 0 (by exact Weak.of2 (by (repeat (first|exact .nil _|refine .cons rfl (by exact AV.Imp.refl _) ?_));done) (by (repeat (first|exact .refl _|apply ItLe2.cons (by exact k1)));done)) ⟨Nat.zero_le _,by omega⟩ ?_;rintro k ⟨hk,hinv⟩;refine asr ?_;refine sS ?_;refine aops_nil ?_;refine awp_seq ?_;refine awp_cond rfl (fun h3=> ?_) (fun h3=> ?_)
    ·simp only [nf] at h3;refine awp_skip ?_;refine awp_seq ?_;refine awp_block ?_;refine asr ?_;refine st_p (fun _=>by exact y_indexMap (.plain rfl) (.plain rfl) rfl (by refine⟨?_,?_⟩;(omega);rfl)) rfl ?_;refine sU ?_;refine sA ?_;refine aops_nil ?_;refine awp_seq ?_;refine asr ?_;refine sM ?_;refine sN ?_;refine sG ?_;refine aops_nil ?_;refine awp_cond rfl (fun h4=> ?_) (fun h4=> ?_)
     ·simp only [nf] at h4;refine asr ?_;refine sA ?_;refine sA ?_;refine aops_nil ?_;refine awp_ret ?_;refine retG (.inr rfl) (.cons (.tmp rfl) (.cons (.tmp rfl) .nil)) (VShift.of2 (AV.Imp.tup (.cons (Sl.imp (enc:=encLI)) (.cons (AV.Imp.refl _) .nil))) (.nil _)) ⟨congrArg (fun x:(List (List Int))×(Int)=>(AV.tup [(AV.sl 1 (List.map encLI x.1)),(AV.int x.2)])) (show (_,_)=(Pn.smean y L) from ?_),rfl⟩;have hb9:Pn.lchk L[k]=4:=by rw [Pn.lchk,if_pos (by omega)]
      have hb8:=Pn.lchks_bad (by omega) (fun i hi hik=>hinv i hi hik) (show Pn.lchk L[k]≠0 by omega);rw [Pn.smean,if_neg (show ¬ Pn.sgchk y≠0 by omega),if_neg (show ¬ (L.length:Int)≠Pn.hin y.kind by omega),if_pos (show Pn.lchks L≠0 by omega)];rw [hb8,hb9]
     ·simp only [nf] at h4;refine awp_skip ?_;refine asr ?_;refine sM ?_;refine aops_call (blt_lt rfl) (.plain rfl) (.cons (.plain rfl) (.cons (.imp (.plain rfl) Fun.imp) .nil)) (ACalls.here (containsFI_c L[k] (by omega) 61 [] (fun n=> !Pn.num n) [] (fun z _=>notnumM_c z)) ?_);refine aops_nil ?_;refine awp_cond rfl (fun h5=> ?_) (fun h5=> ?_)
      ·refine asr ?_;refine sA ?_;refine sA ?_;refine aops_nil ?_;refine awp_ret ?_;refine retG (.inr rfl) (.cons (.tmp rfl) (.cons (.tmp rfl) .nil)) (VShift.of2 (AV.Imp.tup (.cons (Sl.imp (enc:=encLI)) (.cons (AV.Imp.refl _) .nil))) (.nil _)) ⟨congrArg (fun x:(List (List Int))×(Int)=>(AV.tup [(AV.sl 1 (List.map encLI x.1)),(AV.int x.2)])) (show (_,_)=(Pn.smean y L) from ?_),rfl⟩;have hb9:Pn.lchk L[k]=2:=by rw [Pn.lchk,if_neg (by omega),if_pos (by assumption)]
       have hb8:=Pn.lchks_bad (by omega) (fun i hi hik=>hinv i hi hik) (show Pn.lchk L[k]≠0 by omega);rw [Pn.smean,if_neg (show ¬ Pn.sgchk y≠0 by omega),if_neg (show ¬ (L.length:Int)≠Pn.hin y.kind by omega),if_pos (show Pn.lchks L≠0 by omega)];rw [hb8,hb9]
      ·refine awp_skip ?_;refine awp_region ?_;refine sY ?_ (hb:=by omega);refine sM ?_;refine aops_nil ?_;refine⟨k+1,?_,?_,Weak.of2 (by (repeat (first|exact .nil _|refine .cons rfl (by exact AV.Imp.refl _) ?_));done) (by (repeat (exact .refl _));done)⟩
       ·refine⟨by omega,?_⟩;intro i hi hik;by_cases e9:i=k
        ·subst e9;rw [Pn.lchk,if_neg (by omega),if_neg (by simp_all)]
        ·exact hinv i hi (by omega)
       ·omega
    ·simp only [nf] at h3;refine awp_exit ?_;refine awp_seq ?_;have hgd:=Pn.lchks_good (l:=L) (fun i hi=>hinv i hi (by omega));have hll:=fun l hl=>Pn.lchk_ok (Pn.lchks_mem hgd l hl);have hw2:=Pn.swhole_two hsg hr hll;refine awp_region ?_;refine sW .here ?_;refine st_p (fun _=>by exact y_build (out:=[_,_,_]) .nil rfl rfl) rfl ?_;refine aops_call (blt_lt rfl) (.plain rfl) (.cons (.plain rfl) (.cons (.imp (.plain rfl) (AV.Imp.agg (RowOf.imp (enc:=encSt)))) .nil)) (ACalls.frame (st1:=[]) (begin_c y Pn.S0 hsg.kind) (List.Perm.refl _) ?_);rintro v9 st ⟨r,o,rfl,hrs⟩;refine aops_weak (Weak.perm List.perm_append_comm) ?_;refine sA ?_;refine aops_nil ?_;refine asr ?_;refine sM ?_;refine sW k1 ?_;refine sM ?_;refine aops_call (blt_lt rfl) (.plain rfl) (.cons (.plain rfl) (.cons (.plain rfl) (.cons (.plain rfl) .nil))) (ACalls.frame (st1:=st) (whole_c r o y _ L st hrs hsg hr (Pn.Wk.new hsg) (by omega) hll) List.perm_append_comm ?_);rintro v9 st9 ⟨rfl,hrq⟩;refine aops_weak (Weak.perm List.perm_append_comm) ?_;refine aops_nil ?_;refine awp_seq ?_;refine awp_seq ?_;refine awp_weak (Weak.outsQ hrq) ?_;refine awp_region ?_;refine sM ?_;refine sZ ?_;refine sF ?_;refine sL .here ?_;refine sR ?_;refine aops_nil ?_;refine awp_cond rfl (fun h6=> ?_) (fun h6=> ?_)
     ·simp only [nf] at h6;refine awp_seq ?_;refine awp_any0 (ks:=[.free,.free,.free,.free,.free,.free]) (by kernel_rfl) (fun K=> ?_) ?_
      ·refine rM ?_;refine rZ ?_;refine rF ?_;refine rL .here ?_;refine rA ?_;refine rA ?_;refine dr_nil ⟨rfl,?_⟩;refine awp_ret ?_;refine retG (.inr rfl) (.cons (.tmp rfl) (.cons (.tmp rfl) .nil)) (VShift.of2 (AV.Imp.tup (.cons (Sl.imp (enc:=encLI)) (.cons (AV.Imp.refl _) .nil))) (.nil _)) ⟨congrArg (fun x:(List (List Int))×(Int)=>(AV.tup [(AV.sl 1 (List.map encLI x.1)),(AV.int x.2)])) (show (_,_)=(Pn.smean y L) from ?_),rfl⟩;rw [Pn.smean,if_neg (show ¬ Pn.sgchk y≠0 by omega),if_neg (show ¬ (L.length:Int)≠Pn.hin y.kind by omega),if_neg (show ¬ Pn.lchks L≠0 by omega),if_pos (by assumption)]
      ·kernel_rfl
     ·simp only [nf] at h6;refine awp_skip ?_;refine awp_seq ?_;refine asr ?_;refine sM ?_;refine sZ ?_;refine sF ?_;refine sL .here ?_;refine aops_call (blt_lt rfl) (.plain rfl) (.cons (.plain rfl) (.cons (.imp (.plain rfl) Fun.imp) .nil)) (ACalls.here (containsFLl_c _ (by omega) 66 [] (fun l=>decide (200<l.length)) [] (fun z _=>longM_c z)) ?_);refine aops_nil ?_;refine awp_cond rfl (fun h7=> ?_) (fun h7=> ?_)
      ·refine asr ?_;refine sA ?_;refine sA ?_;refine aops_nil ?_;refine awp_ret ?_;refine retG (.inr rfl) (.cons (.tmp rfl) (.cons (.tmp rfl) .nil)) (VShift.of2 (AV.Imp.tup (.cons (Sl.imp (enc:=encLI)) (.cons (AV.Imp.refl _) .nil))) (.nil _)) ⟨congrArg (fun x:(List (List Int))×(Int)=>(AV.tup [(AV.sl 1 (List.map encLI x.1)),(AV.int x.2)])) (show (_,_)=(Pn.smean y L) from ?_),rfl⟩;rw [Pn.smean,if_neg (show ¬ Pn.sgchk y≠0 by omega),if_neg (show ¬ (L.length:Int)≠Pn.hin y.kind by omega),if_neg (show ¬ Pn.lchks L≠0 by omega),if_neg (fun h=>h (by assumption)),if_pos (by assumption)]
      ·refine awp_skip ?_;refine asr ?_;refine sM ?_;refine sZ ?_;refine sF ?_;refine sL .here ?_;refine sA ?_;refine sA ?_;refine aops_nil ?_;refine awp_ret ?_;refine retG (.inr rfl) (.cons (.tmp rfl) (.cons (.tmp rfl) .nil)) (VShift.of2 (AV.Imp.tup (.cons (Sl.imp (enc:=encLI)) (.cons (AV.Imp.refl _) .nil))) (.nil _)) ⟨congrArg (fun x:(List (List Int))×(Int)=>(AV.tup [(AV.sl 1 (List.map encLI x.1)),(AV.int x.2)])) (show (_,_)=(Pn.smean y L) from ?_),rfl⟩;rw [Pn.smean,if_neg (show ¬ Pn.sgchk y≠0 by omega),if_neg (show ¬ (L.length:Int)≠Pn.hin y.kind by omega),if_neg (show ¬ Pn.lchks L≠0 by omega),if_neg (fun h=>h (by assumption)),if_neg (by simp_all)]
end Go.Proofs
namespace Wl
def N0:St:={S0 with owner:= -1}
end Wl
namespace Cv
open Wl
end Cv
namespace Cv
open Wl
end Cv
namespace Fu
open Wl
end Fu
namespace Fu
open Wl
end Fu
namespace Fu
open Wl
end Fu
namespace Fu
open Wl
theorem idxI_get {l:List Int} {t:Int} (h:t∈l): ∃ k,∃ hk:k<l.length,idxI l t=(k:Int)∧l[k]=t:=by
  have h0:=(idxI_mem l t).2 h;unfold idxI at h0 ⊢;cases he:l.findIdx? (fun n=>decide (n=t)) with
  |none=>rw [he] at h0;simp at h0
  |some k=>
   rw [List.findIdx?_eq_some_iff_getElem] at he;obtain⟨hk,e,_⟩:=he;exact⟨k,hk,rfl,by simpa using e⟩
end Fu
namespace Fu
open Wl
end Fu
namespace Fu
open Wl
end Fu
namespace Dg
open Go.Aw (bl)
structure Ed where
  u:Int
  v:Int
  deriving DecidableEq,Inhabited
structure Gr where
  n:Int
  nx:List (List Int)
  deriving DecidableEq,Inhabited
def upd {α:Type} (s:Int→α) (u:Int) (x:α):Int→α:=fun j=>if j=u then x else s j
def bad (n:Int) (e:Ed):Bool:=decide (e.u<0)||decide (n≤e.u)||decide (e.v<0)||decide (n≤e.v)
def lessI (a b:Ed):Int:=if a.u≠b.u then a.u - b.u else a.v - b.v
def chkL (n:Int):Option Ed→List Ed→Int
  |_,[]=>0
  |p,e::r=>if bad n e=true then 2 else if ∃ q∈p,0≤lessI q e then 9 else chkL n (some e) r
def chk (n:Int) (l:List Ed):Int:=if n<0∨200<n then 2 else if 2000<l.length then 4 else chkL n none l
def sc (l:List Ed) (u:Int):List Int:=(l.filter (fun e=>decide (e.u=u))).map (·.v)
def gr (n:Int) (l:List Ed):Gr:=⟨n,bl n.toNat (sc l)⟩
def bd (n:Int) (l:List Ed):Gr:=if chk n l=0 then gr n l else ⟨0,[]⟩
def bdB (n:Int) (l:List Ed):Bool:=decide (chk n l=0)
def suc (g:Gr) (u:Int):List Int:=g.nx.getD u.toNat []
structure OkG (g:Gr):Prop where
  nb:0≤g.n∧g.n≤200
  len:g.nx.length=g.n.toNat
  row: ∀ u,(suc g u).length≤2000∧ ∀ v∈suc g u,0≤v∧v<g.n
def deg (l:List Ed) (j:Int):Int:=((l.filter (fun e=>decide (e.v=j))).length:Int)
def pick (m:Nat) (f:Int→Int):Int:=Wl.idxI (bl m f) 0
def decs (f:Int→Int) (vs:List Int):Int→Int:=vs.foldl (fun f v=>upd f v (f v - 1)) f
def ord (g:Gr):Nat→(Int→Int)→List Int→Option (List Int)
  |0,_,out=>some out
  |f+1,op,out=>if pick g.n.toNat op<0 then none else ord g f (decs (upd op (pick g.n.toNat op) (-1)) (suc g (pick g.n.toNat op))) (out++[pick g.n.toNat op])
def ordO (n:Int) (l:List Ed):Option (List Int):=ord (gr n l) n.toNat (deg l) []
def orderL (n:Int) (l:List Ed):List Int:=if chk n l≠0 then [] else (ordO n l).getD []
def orderE (n:Int) (l:List Ed):Int:=if chk n l≠0 then 1 else if (ordO n l).isSome=true then 0 else 21
end Dg
namespace Go.Aw
open Dg
def encEd (e:Ed):List AV:=[.int e.u,.int e.v]
def encG (g:Gr):List AV:=[.int g.n,.sl 1 (g.nx.map encLI)]
instance {a:Int} {v:AV} {l:List (List Int)} [h:Sl v 1 encLI l]:RowOf [.val (.int .i64 a),v] encG ⟨a,l⟩:=⟨.cons (AV.Imp.refl _) (.cons h.imp .nil)⟩
end Go.Aw
namespace Dg
def prv (l:List Ed) (k:Nat):Option Ed:=if k=0 then none else l[k - 1]?
theorem prv_lt (l:List Ed) (k:Nat) (hk:k<l.length) (e:Ed):(∃ q∈prv l k,0≤lessI q e)↔(0<k∧0≤lessI (l.getD (k - 1) default) e):=by
  unfold prv;by_cases h:k=0
  ·simp [h]
  ·have h1:k - 1<l.length:=by omega
   simp only [if_neg h,List.getElem?_eq_getElem h1,Option.mem_def,Option.some.injEq,List.getD,Option.getD_some];exact⟨fun ⟨q,e,hq⟩=>⟨by omega,by rw [e];exact hq⟩,fun ⟨_,hq⟩=>⟨_,rfl,hq⟩⟩
theorem chkL_step (n:Int) (l:List Ed) (k:Nat) (hk:k<l.length) (hb:bad n l[k]=false) (hn: ¬ (0<k∧0≤lessI (l.getD (k - 1) default) l[k])):chkL n (prv l k) (l.drop k)=chkL n (prv l (k+1)) (l.drop (k+1)):=by
  rw [List.drop_eq_getElem_cons hk,chkL,if_neg (by simp [hb]),if_neg (fun h=>hn ((prv_lt l k hk _).1 h))];simp [prv,hk]
theorem chkL_bad (n:Int) (l:List Ed) (k:Nat) (hk:k<l.length) (hb:bad n l[k]=true):chkL n (prv l k) (l.drop k)=2:=by
  rw [List.drop_eq_getElem_cons hk,chkL,if_pos hb]
theorem chkL_ord (n:Int) (l:List Ed) (k:Nat) (hk:k<l.length) (hb:bad n l[k]=false) (h:0<k∧0≤lessI (l.getD (k - 1) default) l[k]):chkL n (prv l k) (l.drop k)=9:=by
  rw [List.drop_eq_getElem_cons hk,chkL,if_neg (by simp [hb]),if_pos ((prv_lt l k hk _).2 h)]
theorem chkL_end (n:Int) (l:List Ed) (k:Nat) (hk:l.length≤k):chkL n (prv l k) (l.drop k)=0:=by
  rw [List.drop_of_length_le hk];cases prv l k<;>rfl
theorem bad_iff {n:Int} {e:Ed}:bad n e=false↔(0≤e.u∧e.u<n)∧(0≤e.v∧e.v<n):=by
  unfold bad;simp only [Bool.or_eq_false_iff,decide_eq_false_iff_not];omega
end Dg
namespace Dg
theorem prev_bd {n:Int} {l:List Ed} {k:Nat} (h: ∀ i (h:i<l.length),i<k→bad n l[i]=false) (hk:k<l.length) (h0:0<k) (hn:n≤200):(0≤(l.getD ((k:Int) - 1).toNat default).u∧(l.getD ((k:Int) - 1).toNat default).u<1000)∧(0≤(l.getD ((k:Int) - 1).toNat default).v∧(l.getD ((k:Int) - 1).toNat default).v<1000):=by
  have hp:k - 1<l.length:=by omega
  have hb:=bad_iff.1 (h (k - 1) hp (by omega));rw [show ((k:Int) - 1).toNat=k - 1 by omega,List.getD,List.getElem?_eq_getElem hp,Option.getD_some];omega
end Dg
namespace Dg
theorem chkL_zero {n:Int}: ∀ {l:List Ed} {p:Option Ed},chkL n p l=0→(∀ e∈l,bad n e=false)
  | [],_,_=>by simp
  |e::r,p,h=>by
   rw [chkL] at h;split at h
   ·cases h
   ·rename_i hb;split at h
    ·cases h
    ·intro x hx;rcases List.mem_cons.1 hx with rfl|hx
     ·simpa using hb
     ·exact chkL_zero h x hx
structure OkE (n:Int) (l:List Ed):Prop where
  nb:0≤n∧n≤200
  len:l.length≤2000
  u: ∀ e∈l,0≤e.u∧e.u<n
  v: ∀ e∈l,0≤e.v∧e.v<n
theorem okE {n:Int} {l:List Ed} (h:chk n l=0):OkE n l:=by
  unfold chk at h;split at h
  ·cases h
  ·split at h
   ·cases h
   ·have:=chkL_zero h;exact⟨by omega,by omega,fun e he=>(bad_iff.1 (this e he)).1,fun e he=>(bad_iff.1 (this e he)).2⟩
theorem take_succ' {l:List Ed} {k:Nat} (hk:k<l.length):l.take (k+1)=l.take k++[l[k]]:=by rw [List.take_add_one,List.getElem?_eq_getElem hk];rfl
theorem sc_succ {l:List Ed} {k:Nat} (hk:k<l.length) (u:Int):sc (l.take (k+1)) u=if u=l[k].u then sc (l.take k) u++[l[k].v] else sc (l.take k) u:=by
  unfold sc;rw [take_succ' hk,List.filter_append,List.map_append];by_cases h:l[k].u=u
  ·rw [List.filter_cons_of_pos (by simpa using h),if_pos h.symm];rfl
  ·rw [List.filter_cons_of_neg (by simpa using h),if_neg (Ne.symm h)];simp
theorem sc_len (l:List Ed) (u:Int):(sc l u).length≤l.length:=by unfold sc;rw [List.length_map];exact List.length_filter_le _ _
theorem sc_mem {l:List Ed} {u v:Int}:v∈sc l u↔(⟨u,v⟩:Ed)∈l:=by
  unfold sc;simp only [List.mem_map,List.mem_filter,decide_eq_true_eq];constructor
  ·rintro⟨⟨a,b⟩,⟨h1,rfl⟩,rfl⟩;exact h1
  ·intro h;exact⟨_,⟨h,rfl⟩,rfl⟩
theorem suc_gr {n:Int} {l:List Ed} {u:Int} (h:0≤u∧u<n):suc (gr n l) u=sc l u:=by
  unfold suc gr;rw [Go.Aw.bl_getD _ _ _ _ (by omega),Int.toNat_of_nonneg h.1]
theorem okG {n:Int} {l:List Ed} (h:OkE n l):OkG (gr n l):=by
  refine⟨h.nb,Go.Aw.bl_len _ _,fun u=> ?_⟩;have key: ∀ x,x∈(gr n l).nx→x.length≤2000∧ ∀ v∈x,0≤v∧v<n:=by
   intro x hx;unfold gr Go.Aw.bl at hx;obtain⟨j,hj,rfl⟩:=List.mem_map.1 hx;have:=sc_len l (j:Int);have:=h.len;exact⟨by omega,fun v hv=>h.v _ (sc_mem.1 hv)⟩
  unfold suc List.getD;cases e:(gr n l).nx[u.toNat]? with
  |none=>simp
  |some x=>exact key x (List.mem_of_getElem? e)
end Dg
namespace Dg
theorem fold_succ {α β:Type} (F:β→α→β) (b:β) (l:List α) {k:Nat} (hk:k<l.length):(l.take (k+1)).foldl F b=F ((l.take k).foldl F b) l[k]:=by
  rw [List.take_add_one,List.getElem?_eq_getElem hk,List.foldl_append];rfl
end Dg
namespace Dg
end Dg
namespace Dg
theorem bdB_f {n:Int} {l:List Ed} (h:bdB n l=true):chk n l=0:=by simpa [bdB] using h
theorem bd_gr {n:Int} {l:List Ed} (h:chk n l=0):bd n l=gr n l:=by rw [bd,if_pos h]
end Dg
namespace Dg
end Dg
namespace Go.Aw
open Dg
theorem ea_setI {m:Nat} (f:Int→Int) {t:Int} (x:Int) (h:0≤t∧t<m):setMany (ea m fun j=> .int (f j)) (0+t.toNat*1) [.int x]=ea m (fun j=> .int (upd f t x j)):=by
  rw [ea_set _ _ h];exact ea_congr fun j _=>by unfold upd;split<;>rfl
end Go.Aw
namespace Dg
theorem deg_succ {l:List Ed} {k:Nat} (hk:k<l.length) (j:Int):upd (deg (l.take k)) l[k].v (deg (l.take k) l[k].v+1) j=deg (l.take (k+1)) j:=by
  unfold upd deg;rw [take_succ' hk,List.filter_append];by_cases h:j=l[k].v
  ·subst h;rw [if_pos rfl,List.filter_cons_of_pos (by simp)];simp
  ·rw [if_neg h,List.filter_cons_of_neg (by simpa using Ne.symm h)];simp
theorem deg_bd (l:List Ed) (j:Int):0≤deg l j∧deg l j≤l.length:=by
  unfold deg;have:=List.length_filter_le (fun e:Ed=>decide (e.v=j)) l;omega
theorem decs_succ (f:Int→Int) (vs:List Int) {k:Nat} (hk:k<vs.length):upd (decs f (vs.take k)) vs[k] (decs f (vs.take k) vs[k] - 1)=decs f (vs.take (k+1)):=by
  unfold decs;rw [fold_succ _ _ _ hk]
theorem decs_all (f:Int→Int) (vs:List Int):decs f (vs.take vs.length)=decs f vs:=by rw [List.take_length]
theorem decs_bd (vs:List Int): ∀ (f:Int→Int) (b c:Int),(∀ j,b≤f j∧f j≤c)→ ∀ j,b - vs.length≤decs f vs j∧decs f vs j≤c:=by
  induction vs with
  |nil=>intro f b c h j;have:=h j;simp only [decs,List.foldl_nil,List.length_nil];omega
  |cons v vs ih=>
   intro f b c h j;have:=ih (upd f v (f v - 1)) (b - 1) c (fun i=>by unfold upd;have:=h i;have:=h v;split<;>omega) j;have e:decs f (v::vs) j=decs (upd f v (f v - 1)) vs j:=rfl;rw [e,List.length_cons];omega
theorem pick_lt {m:Nat} {f:Int→Int} (h:0≤pick m f):pick m f<m:=by
  obtain⟨k,hk,e,_⟩:=Fu.idxI_get ((Wl.idxI_mem _ _).1 h);unfold pick;rw [e];rw [Go.Aw.bl_len] at hk;omega
end Dg
namespace Go.Aw
end Go.Aw
namespace Dg
end Dg
namespace Dg
end Dg
namespace Dg
theorem ord_bd {g:Gr}: ∀ (f:Nat) (op:Int→Int) (out o:List Int),ord g f op out=some o→(∀ u∈out,0≤u∧u<(g.n.toNat:Int))→(∀ u∈o,0≤u∧u<(g.n.toNat:Int))∧o.length=out.length+f
  |0,op,out,o,h,hb=>by cases h;exact⟨hb,rfl⟩
  |f+1,op,out,o,h,hb=>by
   rw [ord] at h;split at h
   ·cases h
   ·rename_i hp;obtain⟨h1,h2⟩:=ord_bd f _ _ _ h (fun u hu=>by
     rcases List.mem_append.1 hu with hu|hu
     ·exact hb u hu
     ·rw [List.mem_singleton.1 hu];exact⟨by omega,pick_lt (by omega)⟩)
    refine⟨h1,?_⟩;rw [h2,List.length_append,List.length_singleton];omega
theorem orderE_zero {n:Int} {l:List Ed} (h:orderE n l=0):chk n l=0∧ordO n l=some (orderL n l):=by
  unfold orderE at h;split at h
  ·cases h
  ·rename_i hc;split at h
   ·rename_i hs;refine⟨by omega,?_⟩;unfold orderL;rw [if_neg hc];cases e:ordO n l with
    |none=>rw [e] at hs;cases hs
    |some o=>rfl
   ·cases h
theorem order_bd {n:Int} {l:List Ed} (h:orderE n l=0):(∀ u∈orderL n l,0≤u∧u<n)∧(orderL n l).length=n.toNat:=by
  obtain⟨h1,h2⟩:=orderE_zero h;have hk:=(okE h1).nb;obtain⟨k1,k2⟩:=ord_bd (g:=gr n l) n.toNat _ _ _ h2 (by simp);refine⟨fun u hu=> ?_,by simpa using k2⟩;have h3:=(k1 u hu).1;have h4:u<(n.toNat:Int):=(k1 u hu).2;omega
end Dg
namespace Dg
def frB (l:List Ed) (b:List Int) (y:Int):Bool:= !decide (0≤Wl.idxI b y) && !(l.any (fun z=>decide (z.v=y) && !decide (0≤Wl.idxI b z.u)))
theorem frB_iff {l:List Ed} {b:List Int} {y:Int}:frB l b y=true↔y ∉ b∧ ∀ z∈l,z.v=y→z.u∈b:=by
  unfold frB;simp only [Wl.idxI_mem];simp
def degO (l:List Ed) (out:List Int) (j:Int):Int:=((l.countP (fun e=>decide (e.v=j) && !decide (e.u∈out))):Int)
theorem degO_nil (l:List Ed) (j:Int):degO l [] j=deg l j:=by unfold degO deg;rw [List.countP_eq_length_filter];simp
theorem decs_eq (vs:List Int): ∀ (f:Int→Int) (j:Int),decs f vs j=f j - (vs.count j:Int):=by
  induction vs with
  |nil=>intro f j;simp [decs]
  |cons v vs ih=>
   intro f j;have e:decs f (v::vs) j=decs (upd f v (f v - 1)) vs j:=rfl;rw [e,ih,List.count_cons];unfold upd;by_cases h:j=v
   ·subst h;simp;omega
   ·have:(v==j)=false:=by simpa using Ne.symm h
    rw [if_neg h,this];simp
theorem count_sc (l:List Ed) (u j:Int):((sc l u).count j:Int)=((l.countP (fun e=>decide (e.v=j) && decide (e.u=u)):Nat):Int):=by
  congr 1
  unfold sc;induction l with
  |nil=>rfl
  |cons e l ih=>
   rw [List.countP_cons];by_cases h1:e.u=u
   ·rw [List.filter_cons_of_pos (by simpa using h1),List.map_cons,List.count_cons,ih];simp [h1]
   ·rw [List.filter_cons_of_neg (by simpa using h1),ih];simp [h1]
theorem degO_step (l:List Ed) (out:List Int) (u:Int) (hu:u ∉ out) (j:Int):degO l out j - ((sc l u).count j:Int)=degO l (out++[u]) j:=by
  rw [count_sc];unfold degO;induction l with
  |nil=>rfl
  |cons e l ih=>
   rw [List.countP_cons,List.countP_cons,List.countP_cons];simp at ih;by_cases h1:e.v=j
   ·by_cases h2:e.u=u
    ·have h3:e.u ∉ out:=h2 ▸ hu;simp [h1,h2,hu];omega
    ·by_cases h3:e.u∈out
     ·simp [h1,h2,h3];omega
     ·simp [h1,h2,h3];omega
   ·simp [h1];omega
structure OI (l:List Ed) (op:Int→Int) (out:List Int):Prop where
  free: ∀ j,j ∉ out→op j=degO l out j
  done: ∀ j∈out,op j<0
theorem degO_zero {l:List Ed} {out:List Int} {j:Int}:degO l out j=0↔ ∀ z∈l,z.v=j→z.u∈out:=by
  unfold degO;rw [Int.natCast_eq_zero,List.countP_eq_zero];constructor
  ·intro h z hz hv;have:=h z hz;simpa [hv] using this
  ·intro h z hz;simp;intro hv;exact h z hz hv
theorem OI.zero {l:List Ed} {op:Int→Int} {out:List Int} (h:OI l op out) (j:Int):op j=0↔frB l out j=true:=by
  rw [frB_iff];constructor
  ·intro e;have hn:j ∉ out:=fun hm=>by have:=h.done j hm;omega
   exact⟨hn,degO_zero.1 ((h.free j hn).symm.trans e)⟩
  ·rintro⟨hn,hz⟩;rw [h.free j hn];exact degO_zero.2 hz
theorem OI.next {l:List Ed} {op:Int→Int} {out:List Int} (h:OI l op out) {u:Int} (hu:op u=0):OI l (decs (upd op u (-1)) (sc l u)) (out++[u]):=by
  have hn:u ∉ out:=fun hm=>by have:=h.done u hm;omega
  refine⟨fun j hj=> ?_,fun j hj=> ?_⟩
  ·simp only [List.mem_append,List.mem_singleton,not_or] at hj;rw [decs_eq,←degO_step l out u hn j];unfold upd;rw [if_neg hj.2,h.free j hj.1]
  ·rw [decs_eq];have hc:(0:Int)≤((sc l u).count j:Int):=Int.natCast_nonneg _;unfold upd;split
   ·omega
   ·rename_i hne;rcases List.mem_append.1 hj with hj|hj
    ·have:=h.done j hj;omega
    ·exact absurd (List.mem_singleton.1 hj) hne
theorem pick_spec {m:Nat} {f:Int→Int} (h:0≤pick m f):f (pick m f)=0∧ ∀ y,0≤y→y<pick m f→f y≠0:=by
  unfold pick at h ⊢;unfold Wl.idxI at h ⊢;cases e:(Go.Aw.bl m f).findIdx? (fun n=>decide (n=0)) with
  |none=>rw [e] at h;simp at h
  |some k=>
   obtain⟨hk,h1,h2⟩:=List.findIdx?_eq_some_iff_getElem.1 e;rw [Go.Aw.bl_get] at h1;refine⟨by simpa using h1,fun y hy hlt=> ?_⟩;have hlt':y<(k:Int):=hlt;have h3:=h2 y.toNat (by omega);rw [Go.Aw.bl_get,Int.toNat_of_nonneg hy] at h3;simpa using h3
theorem pick_neg {m:Nat} {f:Int→Int} (h:pick m f<0): ∀ y:Int,0≤y→y<m→f y≠0:=by
  intro y hy hm e;have:0≤pick m f:=by
   refine (Wl.idxI_mem _ _).2 ?_;have hl:y.toNat<(Go.Aw.bl m f).length:=by rw [Go.Aw.bl_len];omega
   have hg:=Go.Aw.bl_get m f y.toNat hl;rw [Int.toNat_of_nonneg hy,e] at hg;rw [←hg];exact List.getElem_mem hl
  omega
theorem ord_spec {n:Int} {l:List Ed} (hok:OkE n l): ∀ (f:Nat) (op:Int→Int) (out o:List Int),OI l op out→ord (gr n l) f op out=some o→(∃ r,o=out++r)∧ ∀ i (h:i<o.length),out.length≤i→frB l (o.take i) o[i]=true∧ ∀ y,0≤y→y<o[i]→frB l (o.take i) y=false
  |0,op,out,o,hi,h=>by
   cases h;exact⟨⟨[],(List.append_nil _).symm⟩,fun i h h2=>absurd h2 (by omega)⟩
  |f+1,op,out,o,hi,h=>by
   rw [ord] at h;split at h
   ·cases h
   ·rename_i hp;have hp': ¬ pick n.toNat op<0:=hp;obtain⟨p1,p2⟩:=pick_spec (Int.not_lt.1 hp');have hlt:=pick_lt (Int.not_lt.1 hp');have hsuc:suc (gr n l) (pick n.toNat op)=sc l (pick n.toNat op):=suc_gr ⟨Int.not_lt.1 hp',by have:=hok.nb;omega⟩;have hi2:=hi.next p1;rw [←hsuc] at hi2;obtain⟨⟨r,hr⟩,h2⟩:=ord_spec hok f _ _ o hi2 h;refine⟨⟨pick n.toNat op::r,by rw [hr,List.append_assoc];rfl⟩,fun i hi3 h3=> ?_⟩;by_cases e:i=out.length
    ·subst e;subst hr;have e1:((out++[pick n.toNat op])++r).take out.length=out:=by rw [List.append_assoc,List.take_left]
     have e2:((out++[pick n.toNat op])++r)[out.length]=pick n.toNat op:=by simp
     rw [e1,e2];refine⟨(hi.zero _).1 p1,fun y hy hy2=> ?_⟩;cases hb:frB l out y with
     |false=>rfl
     |true=>exact absurd ((hi.zero y).2 hb) (p2 y hy hy2)
    ·exact h2 i hi3 (by rw [List.length_append,List.length_singleton];omega)
theorem order_law {n:Int} {l:List Ed} (h:orderE n l=0): ∀ i (h:i<(orderL n l).length),frB l ((orderL n l).take i) (orderL n l)[i]=true∧ ∀ y,0≤y→y<(orderL n l)[i]→frB l ((orderL n l).take i) y=false:=by
  obtain⟨h1,h2⟩:=orderE_zero h;have h0:OI l (deg l) []:=⟨fun j _=>(degO_nil l j).symm,by simp⟩
  exact fun i hi=>(ord_spec (okE h1) n.toNat (deg l) [] _ h0 h2).2 i hi (Nat.zero_le _)
theorem order_err {n:Int} {l:List Ed} (hc:chk n l=0) (h:orderE n l≠0):orderE n l=21∧orderL n l=[]:=by
  have hn: ¬ chk n l≠0:=by omega
  unfold orderE at h ⊢;unfold orderL;rw [if_neg hn] at h ⊢;rw [if_neg hn];cases e:ordO n l with
  |none=>exact⟨rfl,rfl⟩
  |some o=>rw [e] at h;exact absurd rfl h
end Dg
set_option maxRecDepth 10000
namespace Go.Proofs
open Go.Aw Wl Pn
theorem less_c (a b:Dg.Ed) (ha:(0≤a.u∧a.u<1000)∧(0≤a.v∧a.v<1000)) (hb:(0≤b.u∧b.u<1000)∧(0≤b.v∧b.v<1000)):ACalls Tryz.prog 161 [(AV.agg (encEd a)),(AV.agg (encEd b))] [] (fun v st=>v=(AV.int (Dg.lessI a b))∧st=[]):=by
  refine acalls_body Tryz.func161 (by kernel_rfl) rfl Tryz.ntmps161 (le_ rfl) ?_;rw [Tryz.results161];refine asr ?_;refine sB fun n1=> ?_;refine sB fun n2=> ?_;refine sA ?_;refine aops_nil ?_;refine awp_seq ?_;refine asr ?_;refine sF ?_;refine sL k1 ?_;refine sF ?_;refine sL .here ?_;refine sR ?_;refine aops_nil ?_;refine awp_cond rfl (fun h1=> ?_) (fun h1=> ?_)
  ·simp only [nf] at h1;refine asr ?_;refine sF ?_;refine sL k1 ?_;refine sF ?_;refine sL .here ?_;refine st_p (fun _=>by exact y_sub (.plain rfl) (.plain rfl) (by omega)) rfl ?_;refine sA ?_;refine aops_nil ?_;refine awp_ret ?_;refine retG (.inr rfl) (.cons (.tmp rfl) .nil) (VShift.of1 (AV.Imp.refl _) (.nil _)) ⟨congrArg (fun x:(Int)=>(AV.int x)) (show _=(Dg.lessI a b) from ?_),rfl⟩;rw [Dg.lessI,if_pos (by assumption)]
  ·simp only [nf] at h1;refine awp_skip ?_;refine asr ?_;refine sF ?_;refine sL k1 ?_;refine sF ?_;refine sL .here ?_;refine st_p (fun _=>by exact y_sub (.plain rfl) (.plain rfl) (by omega)) rfl ?_;refine sA ?_;refine aops_nil ?_;refine awp_ret ?_;refine retG (.inr rfl) (.cons (.tmp rfl) .nil) (VShift.of1 (AV.Imp.refl _) (.nil _)) ⟨congrArg (fun x:(Int)=>(AV.int x)) (show _=(Dg.lessI a b) from ?_),rfl⟩;rw [Dg.lessI,if_neg (by omega)]
theorem chk_c (n:Int) (l:List Dg.Ed) (hl:l.length≤1000000):ACalls Tryz.prog 119 [(AV.int n),(AV.sl 2 (List.map encEd l))] [] (fun v st=>v=(AV.int (Dg.chk n l))∧st=[]):=by
  refine acalls_body Tryz.func119 (by kernel_rfl) rfl Tryz.ntmps119 (le_ rfl) ?_;rw [Tryz.results119];refine asr ?_;refine sA ?_;refine aops_nil ?_;refine awp_seq ?_;refine asr ?_;refine sM ?_;refine sS ?_;refine sM ?_;refine gM ?_;refine gG0 ?_;refine sK ?_;refine aops_nil ?_;refine awp_cond rfl (fun h1=> ?_) (fun h1=> ?_)
  ·simp only [nf] at h1;refine asr ?_;refine sA ?_;refine aops_nil ?_;refine awp_ret ?_;refine retG (.inr rfl) (.cons (.tmp rfl) .nil) (VShift.of1 (AV.Imp.refl _) (.nil _)) ⟨congrArg (fun x:(Int)=>(AV.int x)) (show _=(Dg.chk n l) from ?_),rfl⟩;have he:Dg.chk n l=2:=by rw [Dg.chk,if_pos (by omega)]
   exact he.symm
  ·simp only [nf] at h1;refine awp_skip ?_;refine awp_seq ?_;refine asr ?_;refine sM ?_;refine sN ?_;refine sG ?_;refine aops_nil ?_;refine awp_cond rfl (fun h2=> ?_) (fun h2=> ?_)
   ·simp only [nf] at h2;refine asr ?_;refine sA ?_;refine aops_nil ?_;refine awp_ret ?_;refine retG (.inr rfl) (.cons (.tmp rfl) .nil) (VShift.of1 (AV.Imp.refl _) (.nil _)) ⟨congrArg (fun x:(Int)=>(AV.int x)) (show _=(Dg.chk n l) from ?_),rfl⟩;have he:Dg.chk n l=4:=by rw [Dg.chk,if_neg (by omega),if_pos (by omega)]
    exact he.symm
   ·simp only [nf] at h2;refine awp_skip ?_;refine awp_seq ?_;refine asr ?_;refine sM ?_;refine sN ?_;refine sM ?_;refine aops_nil ?_;refine awp_block ?_;refine awp_loop2 (X:=Nat) [0,1,16,17] (.cons rfl (.cons rfl (.cons rfl (.cons rfl .nil)))) (fun σ x=>((18,.int (x:Int)):Nat×AV)::σ) (fun R x=>R) (fun x=>x≤l.length∧(Dg.chkL n none l=Dg.chkL n (Dg.prv l x) (l.drop x)∧ ∀ i (h:i<l.length),i<x→Dg.bad n l[i]=false)) (fun x=>l.length - x) 0 (by exact Weak.of2 (by (repeat (first|exact .nil _|refine .cons rfl (by exact AV.Imp.refl _) ?_));done) (by (repeat (exact .refl _));done)) ⟨Nat.zero_le _,⟨rfl,by omega⟩⟩ ?_;rintro k ⟨hk,hinv⟩;refine asr ?_;refine sS ?_;refine aops_nil ?_;refine awp_seq ?_;refine awp_cond rfl (fun h3=> ?_) (fun h3=> ?_)
    ·simp only [nf] at h3;refine awp_skip ?_;refine awp_seq ?_;refine awp_block ?_;refine asr ?_;refine sM ?_;refine st_p (fun _=>by exact y_indexMap (.plain rfl) (.plain rfl) rfl (by refine⟨?_,?_⟩;(omega);rfl)) rfl ?_;refine sV ?_;refine sC fun n1=> ?_;refine sA ?_;refine st_s (fun _=>by exact y_storeW (by rfl) rfl (.plain rfl) (.plain rfl) (by exact .here) (by rfl)) ?_;refine aops_nil ?_;refine awp_seq ?_;refine asr ?_;refine sF ?_;refine sL .here ?_;refine sS ?_;refine sM ?_;refine gF ?_;refine gL0 .here ?_;refine gM ?_;refine st_g rfl rfl rfl SaysI.out (fun hc _=>by exact y_geq (.opt rfl hc) (.opt rfl hc)) rfl ?_;refine sK ?_;refine sM ?_;refine gF ?_;refine gL0 .here ?_;refine gS0 ?_;refine sK ?_;refine sM ?_;refine gF ?_;refine gL0 .here ?_;refine gM ?_;refine st_g rfl rfl rfl SaysI.out (fun hc _=>by exact y_geq (.opt rfl hc) (.opt rfl hc)) rfl ?_;refine sK ?_;refine aops_nil ?_;refine awp_cond rfl (fun h4=> ?_) (fun h4=> ?_)
     ·simp only [nf] at h4;have hbk:Dg.bad n l[k]=true:=by
       cases hb:Dg.bad n l[k]
       ·rw [Dg.bad_iff] at hb;omega
       ·rfl
      refine asr ?_;refine sA ?_;refine aops_nil ?_;refine awp_ret ?_;refine retG (.inr rfl) (.cons (.tmp rfl) .nil) (VShift.of1 (AV.Imp.refl _) (.nil _)) ⟨congrArg (fun x:(Int)=>(AV.int x)) (show _=(Dg.chk n l) from ?_),rfl⟩;have he:Dg.chk n l=2:=by rw [Dg.chk,if_neg (by omega),if_neg (by omega),hinv.1,Dg.chkL_bad n l k h3 hbk]
      exact he.symm
     ·simp only [nf] at h4;have hbk:Dg.bad n l[k]=false:=Dg.bad_iff.2 (by omega);refine awp_skip ?_;refine awp_seq ?_;refine awp_any0 (ks:=[.free,.free,.free,.free,.free,.free,.free,.free,.free,.free,.free,.free]) (by kernel_rfl) (fun K=> ?_) ?_
      ·refine rM ?_;refine rG ?_;refine rM ?_;refine qM ?_;refine qM ?_;refine dr_g rfl rfl rfl SaysI.out (fun hc _=>by exact y_sub (.opt rfl hc) (.plain rfl) (by omega)) rfl ?_;refine dr_g rfl rfl rfl SaysI.out (fun hc _=>by exact y_indexT (.opt rfl hc) (.opt rfl hc) (by (simp at hc;omega)) (by omega)) rfl ?_;refine qV0 ?_;refine qW .here ?_;refine dr_g rfl rfl rfl SaysI.out (fun hc _=>by exact y_call (.plain rfl) (.cons (.imp (.opt rfl hc) (AV.Imp.agg (RowOf.imp (enc:=encEd)))) (.cons (.imp (.opt rfl hc) (AV.Imp.agg (RowOf.imp (enc:=encEd)))) .nil)) (ACalls.pure (less_c (l.getD (((k:Int) - 1).toNat) default) l[k] (Dg.prev_bd hinv.2 h3 (by simp at hc;omega) (by omega)) (by omega)))) rfl ?_;refine dr_g rfl rfl rfl SaysI.out (fun hc _=>by exact y_geq (.opt rfl hc) (.plain rfl)) rfl ?_;refine rJ ?_;refine dr_nil ⟨rfl,?_⟩;refine awp_cond rfl (fun h5=> ?_) (fun h5=> ?_)
       ·simp only [nf] at h5;refine asr ?_;refine sA ?_;refine aops_nil ?_;refine awp_ret ?_;refine retG (.inr rfl) (.cons (.tmp rfl) .nil) (VShift.of1 (AV.Imp.refl _) (.nil _)) ⟨congrArg (fun x:(Int)=>(AV.int x)) (show _=(Dg.chk n l) from ?_),rfl⟩;have he:Dg.chk n l=9:=by rw [Dg.chk,if_neg (by omega),if_neg (by omega),hinv.1,Dg.chkL_ord n l k h3 hbk (by simp only [toNat_pred,Int.natCast_pos] at h5;omega)]
        exact he.symm
       ·simp only [nf] at h5;refine awp_skip ?_;refine awp_region ?_;refine sY ?_ (hb:=by omega);refine sM ?_;refine aops_nil ?_;refine⟨k+1,?_,?_,Weak.of2 (by (repeat (first|exact .nil _|refine .cons rfl (by exact AV.Imp.refl _) ?_));done) (by (repeat (exact .nil _));done)⟩
        ·refine⟨by omega,?_⟩;refine⟨hinv.1.trans (Dg.chkL_step n l k h3 hbk (by simp only [toNat_pred,Int.natCast_pos] at h5;omega)),?_⟩;intro i hi hik;by_cases e:i=k
         ·subst e;exact hbk
         ·exact hinv.2 i hi (by omega)
        ·omega
      ·kernel_rfl
    ·simp only [nf] at h3;refine awp_exit ?_;refine asr ?_;refine sA ?_;refine aops_nil ?_;refine awp_ret ?_;refine retG (.inr rfl) (.cons (.tmp rfl) .nil) (VShift.of1 (AV.Imp.refl _) (.nil _)) ⟨congrArg (fun x:(Int)=>(AV.int x)) (show _=(Dg.chk n l) from ?_),rfl⟩;have he:Dg.chk n l=0:=by rw [Dg.chk,if_neg (by omega),if_neg (by omega),hinv.1,Dg.chkL_end n l k (by omega)]
     exact he.symm
end Go.Proofs
set_option maxRecDepth 10000
namespace Go.Proofs
open Go.Aw Wl Pn
theorem build_c (n:Int) (l:List Dg.Ed) (hl:l.length≤1000000):ACalls Tryz.prog 83 [(AV.int n),(AV.sl 2 (List.map encEd l))] [] (fun v st=>v=(AV.tup [(AV.agg (encG (((Dg.bd n l,Dg.bdB n l)).1))),(AV.bool (((Dg.bd n l,Dg.bdB n l)).2))])∧st=[]):=by
  refine acalls_body Tryz.func83 (by kernel_rfl) rfl Tryz.ntmps83 (le_ rfl) ?_;rw [Tryz.results83];refine asr ?_;refine sC fun n4=> ?_;refine sA ?_;refine aops_nil ?_;refine awp_seq ?_;refine asr ?_;refine sM ?_;refine sM ?_;refine aops_call (blt_lt rfl) (.plain rfl) (.cons (.plain rfl) (.cons (.imp (.plain rfl) (Sl.imp (enc:=encEd))) .nil)) (ACalls.here (chk_c _ _ (by assumption)) ?_);refine sR ?_;refine aops_nil ?_;refine awp_cond rfl (fun h1=> ?_) (fun h1=> ?_)
  ·simp only [nf] at h1;refine asr ?_;refine st_p (fun _=>by exact y_build (out:=[_,_]) .nil rfl rfl) rfl ?_;refine st_s (fun _=>by exact y_storeW (by rfl) rfl (.plain rfl) (.plain rfl) (by exact .here) (by rfl)) ?_;refine sA ?_;refine aops_nil ?_;refine awp_ret ?_;refine retG (.inr rfl) (.cons (res_cellW rfl (by exact .here) (by rfl)) (.cons (.tmp rfl) .nil)) (VShift.of2 (AV.Imp.tup (.cons (AV.Imp.agg (RowOf.imp (enc:=encG))) (.cons (AV.Imp.refl _) .nil))) (.nil _)) ⟨congrArg (fun x:(Dg.Gr)×(Bool)=>(AV.tup [(AV.agg (encG x.1)),(AV.bool x.2)])) (show (_,_)=((Dg.bd n l,Dg.bdB n l)) from ?_),rfl⟩;rw [Dg.bd,Dg.bdB,if_neg (by omega),decide_eq_false (by omega)];all_goals rfl
  ·simp only [nf] at h1;have hck:Dg.chk n l=0:=by omega
   have hok:=Dg.okE hck;have hnb:=hok.nb;have hlen:=hok.len;refine awp_skip ?_;refine asr ?_;refine sM ?_;refine sM ?_;refine st_n (fun _=>by exact y_makeArr (by rfl) (.plain rfl) (.plain rfl) (Int.toNat_of_nonneg (a:=n) (by omega)).symm (by omega)) rfl fun nj=> ?_;refine st_p (fun _=>by exact y_build (out:=[_,_]) (.cons (.plain rfl) inferInstance rfl (.cons (.plain rfl) inferInstance rfl .nil)) rfl rfl) rfl ?_;refine sC fun n6=> ?_;refine st_s (fun _=>by exact y_storeW (by rfl) rfl (.plain rfl) (.plain rfl) (by exact .here) (by rfl)) ?_;refine aops_nil ?_;refine awp_seq ?_;refine asr ?_;refine sM ?_;refine sN ?_;refine sM ?_;refine aops_nil ?_;refine awp_block ?_;refine awp_loop2 (X:=Nat×(Int→Option Nat)) (rest:=[]) [4,6,18,19] (.cons rfl (.cons rfl (.cons rfl (.cons rfl .nil)))) (fun σ x=>((20,.int (x.1:Int)):Nat×AV)::σ) (fun R x=> .cells n6 [.int n,.arr nj 0 n.toNat]:: .cells nj (ea n.toNat fun u=> .grow 1 (x.2 u) ((Dg.sc (l.take x.1) u).map Go.Aw.encI)):: .cells n4 [.int 0,.val (.slice none 0 0)]::tails n.toNat x.2) (fun x=>x.1≤l.length) (fun x=>l.length - x.1) (0,fun _=>none) (by exact Weak.trans (tails_none n.toNat _) (Weak.trans (Weak.perm (st':= .cells n6 _:: .cells nj _:: .cells n4 _::tails n.toNat (fun _=>none)) (List.perm_append_comm (l₁:=tails n.toNat (fun _=>none)) (l₂:=[Item.cells n6 _,Item.cells nj _,Item.cells n4 _]))) (Weak.of2 (by (repeat (first|exact .nil _|refine .cons rfl (by exact AV.Imp.refl _) ?_));done) (.cells .here (ImpL.refl _) (.cells .here (by rw [ea_make];exact ea_imp fun j _=>AV.Imp.nil_grow) (.refl _)))))) (Nat.zero_le _) ?_;rintro⟨k,T⟩ hk;simp only at hk;dsimp only;refine asr ?_;refine sS ?_;refine aops_nil ?_;refine awp_seq ?_;refine awp_cond rfl (fun h2=> ?_) (fun h2=> ?_)
   ·simp only [nf] at h2;refine awp_skip ?_;refine awp_seq ?_;refine awp_block ?_;refine awp_seq ?_;have hub:=hok.u _ (List.getElem_mem h2);have hut:l[k].u.toNat<n.toNat:=by omega
    have hsl:=Dg.sc_len (l.take k) l[k].u;rw [List.length_take] at hsl;refine awp_region ?_;refine st_p (fun _=>by exact y_indexMap (.plain rfl) (.plain rfl) rfl (by refine⟨?_,?_⟩;(omega);rfl)) rfl ?_;refine sV ?_;refine sC fun n8=> ?_;refine st_s (fun _=>by exact y_storeW (by rfl) rfl (.plain rfl) (.plain rfl) (by exact .here) (by rfl)) ?_;refine aops_nil ?_;refine awp_weak (Weak.perm (List.Perm.append_left [Item.cells n8 _,Item.cells n6 _,Item.cells nj _,Item.cells n4 _] (tails_perm T hut))) ?_;rw [Int.toNat_of_nonneg hub.1];refine awp_anyT (ks:=[.free,.free,.free,.free,.free,.free,.free,.free,.free,.read,.free,.free,.free,.write,.free,.write]) [.tail (T l[k].u),.cells nj _] (by apply Takes.cons (by exact k4);apply Takes.cons (by exact k2);exact .nil _) (by kernel_rfl) (fun K=> ?_) ?_
    ·refine rF ?_;refine rL k1 ?_;refine rF ?_;refine rL .here ?_;refine rF ?_;refine rL k1 ?_;refine rF ?_;refine rL .here ?_;refine dr_p (fun _=>by exact y_indexArr (.plain rfl) (.plain rfl) (Int.toNat_of_nonneg hub.1).symm hut) rfl ?_;refine dr_r (fun _=>by exact y_load (.plain rfl) (.there .here) (ea_get _ ⟨hub.1,by omega⟩)) rfl ?_;refine rF ?_;refine rL .here ?_;refine dr_p (fun _=>by exact y_buildSlice (.cons (.plain rfl) inferInstance (by rfl) .nil) rfl (le_ rfl)) rfl ?_;refine dr_append (by rfl) (.plain rfl) (.plain rfl) (by (simp;try omega)) rfl fun t'=> ?_;refine dr_p (fun _=>by exact y_indexArr (.plain rfl) (.plain rfl) (Int.toNat_of_nonneg hub.1).symm hut) rfl ?_;refine dr_s (fun _=>by exact y_store (by rfl) rfl (.plain rfl) (.plain rfl) (.there .here) (by rw [ea_len];simp;omega)) ?_;refine dr_nil ?_;refine awp_region ?_;refine sY ?_ (hb:=by omega);refine sM ?_;refine aops_nil ?_;refine⟨(k+1,fun j=>if j=((l[k].u.toNat:Nat):Int) then t' else T j),by show k+1≤_;omega,by show l.length - (k+1)<l.length - k;omega,?_⟩;refine Weak.trans (Weak.items2 (st':= .cells n6 _:: .cells nj _:: .cells n4 _:: .tail t'::tailsX n.toNat l[k].u.toNat T) (.cons (.there (.there (.there .here))) (.cons (.there .here) (.cons (.there (.there .here)) (.cons .here (.sub (List.sublist_cons_self _ _))))))) ?_;refine Weak.trans (Weak.perm (List.Perm.append_left [Item.cells n6 _,Item.cells nj _,Item.cells n4 _] (tails_perm2 T t' hut))) ?_;refine Weak.of2 (by (repeat (first|exact .nil _|refine .cons rfl (by exact AV.Imp.refl _) ?_));done) (.cells .here (ImpL.refl _) (.cells .here ?_ (.refl _)));rw [ea_set _ _ ⟨hub.1,by omega⟩];refine ImpL.of_eq (ea_congr fun j hj=> ?_);dsimp only;rw [Dg.sc_succ h2,Int.toNat_of_nonneg hub.1];by_cases e:j=l[k].u
     ·subst e;rw [if_pos rfl,if_pos rfl,if_pos rfl,List.map_append];rfl
     ·rw [if_neg e,if_neg e,if_neg e]
    ·kernel_rfl
   ·simp only [nf] at h2;refine awp_exit ?_;refine awp_seq ?_;obtain rfl:k=l.length:=by omega
    refine awp_weak (Weak.items2 (st':= .cells n6 [.int n,.arr nj 0 ((bl n.toNat (Dg.sc l)).map encLI).length]:: .cells nj (((bl n.toNat (Dg.sc l)).map encLI).flatten++[]):: .cells n4 [.int 0,.val (.slice none 0 0)]::tails n.toNat T) ?_) ?_
    ·refine .cells .here ?_ (.cells .here ?_ (.refl _))
     ·rw [List.length_map,bl_len];exact ImpL.refl _
     ·rw [List.append_nil,List.take_length];refine Eq.mp (congrArg (ImpL _) (ea_row (fun b:List Int=> .sl 1 (b.map Go.Aw.encI)) n.toNat (Dg.sc l)).symm) (ea_imp fun j _=>AV.Imp.grow_sl)
    refine awp_weak (st':= .cells n6 [.int n,.sl 1 ((bl n.toNat (Dg.sc l)).map encLI)]:: .cells n4 [.int 0,.val (.slice none 0 0)]::tails n.toNat T) (Weak.freezeC (cs:=[.int n,.arr nj 0 ((bl n.toNat (Dg.sc l)).map encLI).length]) (i:=1) (sz:=1) (xs:=(bl n.toNat (Dg.sc l)).map encLI) (pad:=[]) (by simp [encLI]) rfl (.cons (.there .here) (.cons .here (.nil _)))) ?_;refine awp_region ?_;refine sW .here ?_;refine st_s (fun _=>by exact y_storeW (by rfl) rfl (.plain rfl) (.plain rfl) (by exact u1) (by rfl)) ?_;refine sA ?_;refine aops_nil ?_;refine awp_ret ?_;refine retG (.inr rfl) (.cons (res_cellW rfl (by exact k1) (by rfl)) (.cons (.tmp rfl) .nil)) (VShift.of2 (AV.Imp.tup (.cons (AV.Imp.agg (RowOf.imp (enc:=encG))) (.cons (AV.Imp.refl _) .nil))) (.nil _)) ⟨congrArg (fun x:(Dg.Gr)×(Bool)=>(AV.tup [(AV.agg (encG x.1)),(AV.bool x.2)])) (show (_,_)=((Dg.bd n l,Dg.bdB n l)) from ?_),rfl⟩;rw [Dg.bd,Dg.bdB,if_pos hck,decide_eq_true hck];all_goals rfl
theorem succ0_c (g:Dg.Gr) (u:Int):ACalls Tryz.prog 85 [.agg (encG g),.int u] [] (fun v st=> ∃ i j,v= .clo 120 [.ptr i 0,.ptr j 0]∧st=[.cells j [.int u],.cells i (encG g)]):=by
  refine acalls_body Tryz.func85 (by kernel_rfl) rfl Tryz.ntmps85 (le_ rfl) ?_;rw [Tryz.results85];refine asr ?_;refine sB fun n1=> ?_;refine sB fun n2=> ?_;refine sA ?_;refine aops_nil ?_;refine asr ?_;refine st_p (fun _=>by exact y_makeFunc (.cons (.plain rfl) (.cons (.plain rfl) .nil))) rfl ?_;refine sA ?_;refine aops_nil ?_;refine awp_ret ?_;exact retG (.inr rfl) (.cons (.tmp rfl) .nil) VShift.refl ⟨n1,n2,rfl,rfl⟩
theorem succ_c (g:Dg.Gr) (hg:Dg.OkG g) (u:Int) (hu:0≤u∧u<g.n) (i j:Nat) (yv:AV) (SP:Nat→List Aw.Item→Prop) (SE:List Aw.Item→Prop) (st0:List Aw.Item) (h0:SP 0 st0) (h: ∀ k (hk:k<(Dg.suc g u).length) st,SP k st→AYields Tryz.prog yv [.int (Dg.suc g u)[k]] st (fun v st'=> ∃ b,v= .bool b∧(b=true→SP (k+1) st')∧(b=false→SE st'))):ACalls Tryz.prog 120 [yv,.ptr i 0,.ptr j 0] (.cells j [.int u]:: .cells i (encG g)::st0) (fun v st=> ∃ stx,st= .cells j [.int u]:: .cells i (encG g)::stx∧(SP (Dg.suc g u).length stx∨SE stx)):=by
  refine acallsX_body Tryz.func120 (by kernel_rfl) rfl Tryz.ntmps120 (le_ rfl) ?_;rw [Tryz.results120];have hgn:=hg.nb;have hgl:=hg.len;have hrow:=(hg.row u).1;refine awx_seq ?_;refine awx_region rfl ?_;refine sF ?_;refine sL k1 ?_;refine sL .here ?_;refine st_p (v:= .eptr (encLI (Dg.suc g u))) (fun _=>by exact y_indexT (l:=g.nx) (.plain rfl) (.plain rfl) hu.1 (by omega)) rfl ?_;refine sU ?_;refine sN ?_;refine sM ?_;refine aops_nil ?_;refine awx_block ?_;refine awx_loop2 (X:=Nat×List Aw.Item) (rest:=[]) [0,10,11] (.cons rfl (.cons rfl (.cons rfl .nil))) (fun σ x=>((12,.int (x.1:Int)):Nat×AV)::σ) (fun R x=> .cells j [.int u]:: .cells i (encG g)::x.2) (fun x=>x.1≤(Dg.suc g u).length∧SP x.1 x.2) (fun x=>(Dg.suc g u).length - x.1) (0,st0) (by exact Weak.of2 (by (repeat (first|exact .nil _|refine .cons rfl (by exact AV.Imp.refl _) ?_));done) (by (repeat (exact .refl _));done)) ⟨Nat.zero_le _,h0⟩ ?_;rintro⟨k,st⟩ ⟨hk,hsp⟩;simp only at hk hsp;dsimp only;refine awx_seq ?_;refine awx_region rfl ?_;refine sS ?_;refine aops_nil ?_;refine awx_seq ?_;refine awx_cond rfl (fun h1=> ?_) (fun h1=> ?_)
  ·simp only [nf] at h1;refine awx_skip ?_;refine awx_seq ?_;refine awx_block ?_;refine awx_seq ?_;refine awx_region rfl ?_;refine st_p (fun _=>by exact y_indexMap (.plain rfl) (.plain rfl) rfl (by refine⟨?_,?_⟩;(omega);rfl)) rfl ?_;refine sU ?_;refine sA ?_;refine aops_nil ?_;refine awx_seq ?_;refine awx_regionYk 2 rfl rfl rfl ?_;dsimp only [List.take,List.drop];refine sM ?_;refine sM ?_;refine aops_nil ?_;refine⟨_,_,rfl,.cons (.plain rfl) .nil,AYields.frame (st1:=st) (st2:=[Aw.Item.cells j _,Aw.Item.cells i _]) (h k h1 st hsp) (List.perm_append_comm (l₁:=[Aw.Item.cells j _,Aw.Item.cells i _])) ?_⟩;rintro v st' ⟨b,rfl,hb1,hb2⟩;refine aops_weak (Weak.perm (st':=Aw.Item.cells j _::Aw.Item.cells i _::st') (List.perm_append_comm (l₂:=[Aw.Item.cells j _,Aw.Item.cells i _]))) ?_;refine sO ?_;refine aops_nil ?_;refine awx_cond rfl (fun h2=> ?_) (fun h2=> ?_)
   ·simp only [nf] at h2;refine awx_ret ?_;exact retX (.inr rfl) (List.Perm.refl _) .nil VShift.refl ⟨_,rfl,.inr (hb2 h2)⟩
   ·simp only [nf] at h2;refine awx_skip ?_;refine awx_region rfl ?_;refine sY ?_ (hb:=by omega);refine sM ?_;refine aops_nil ?_;refine⟨rfl,?_⟩;exact⟨(k+1,st'),⟨by show k+1≤_;omega,hb1 h2⟩,by show (Dg.suc g u).length - (k+1)<(Dg.suc g u).length - k;omega,Weak.of2 (by (repeat (first|exact .nil _|refine .cons rfl (by exact AV.Imp.refl _) ?_));done) (.refl _)⟩
  ·simp only [nf] at h1;refine awx_exit ?_;obtain rfl:k=(Dg.suc g u).length:=by omega
   exact retX (.inl rfl) (List.Perm.refl _) .nil VShift.refl ⟨_,rfl,.inl hsp⟩
end Go.Proofs
set_option maxRecDepth 10000
namespace Go.Proofs
open Go.Aw Wl Pn
theorem indexA_c (nj m:Nat) (f:Int→Int) (y:Int) (hm:m≤1000000):ACalls Tryz.prog 84 [.arr nj 0 m,.int y] [.cells nj (ea m (fun j=> .int (f j)))] (fun v st=>v= .int (idxI (bl m f) y)∧st=[.cells nj (ea m (fun j=> .int (f j)))]):=by
  refine acalls_body Tryz.func84 (by kernel_rfl) rfl Tryz.ntmps84 (le_ rfl) ?_;rw [Tryz.results84];refine asr ?_;refine sA ?_;refine aops_nil ?_;refine awp_seq ?_;refine asr ?_;refine sM ?_;refine st_p (fun _=>by exact y_lenArr (.plain rfl)) rfl ?_;refine sM ?_;refine aops_nil ?_;refine awp_block ?_;refine awp_loop2 (X:=Nat) [0,1,7] (.cons rfl (.cons rfl (.cons rfl .nil))) (fun σ x=>((8,.int (x:Int)):Nat×AV)::σ) (fun R x=> .cells nj (ea m (fun j=> .int (f j)))::R) (fun x=>x≤m∧ ∀ i,i<x→f (i:Int)≠y) (fun x=>m - x) 0 (by exact Weak.of2 (by (repeat (first|exact .nil _|refine .cons rfl (by exact AV.Imp.refl _) ?_));done) (by (repeat (exact .refl _));done)) ⟨Nat.zero_le _,by omega⟩ ?_;rintro k ⟨hk,hinv⟩;have hbl:=bl_len m f;refine asr ?_;refine sS ?_;refine aops_nil ?_;refine awp_seq ?_;refine awp_cond rfl (fun h1=> ?_) (fun h1=> ?_)
  ·simp only [nf] at h1;refine awp_skip ?_;refine awp_seq ?_;refine awp_block ?_;refine asr ?_;refine sM ?_;refine sA ?_;refine aops_nil ?_;refine asr ?_;refine sM ?_;refine sM ?_;refine sM ?_;refine st_p (fun _=>by exact y_indexArr (.plain rfl) (.plain rfl) rfl (by omega)) rfl ?_;refine st_p (fun _=>by exact y_load (.plain rfl) (by exact .here) (ea_getN (m:=m) (t:=k) _ (by omega))) rfl ?_;refine sQ ?_;refine aops_nil ?_;refine awp_cond rfl (fun h2=> ?_) (fun h2=> ?_)
   ·simp only [nf] at h2;refine asr ?_;refine sM ?_;refine sA ?_;refine aops_nil ?_;refine awp_ret ?_;exact retG (.inr rfl) (.cons (.tmp rfl) .nil) VShift.refl ⟨by rw [idxI_at (bl m f) y k (by omega) (by rw [bl_get];exact h2.symm) (fun i hi hik=>by rw [bl_get];exact hinv i hik)];rfl,rfl⟩
   ·simp only [nf] at h2;refine awp_skip ?_;refine awp_region ?_;refine sY ?_ (hb:=by omega);refine sM ?_;refine aops_nil ?_;refine⟨k+1,?_,?_,Weak.of2 (by (repeat (first|exact .nil _|refine .cons rfl (by exact AV.Imp.refl _) ?_));done) (by (repeat (exact .refl _));done)⟩
    ·refine⟨by omega,fun i hi=> ?_⟩;by_cases e:i=k
     ·subst e;exact Ne.symm h2
     ·exact hinv i (by omega)
    ·omega
  ·simp only [nf] at h1;refine awp_exit ?_;refine asr ?_;refine sA ?_;refine aops_nil ?_;refine awp_ret ?_;exact retG (.inr rfl) (.cons (.tmp rfl) .nil) VShift.refl ⟨by rw [idxI_no (bl m f) y (fun i hi=>by rw [bl_get];exact hinv i (by omega))];rfl,rfl⟩
theorem order_c (n:Int) (l:List Dg.Ed) (hl:l.length≤1000000):ACalls Tryz.prog 55 [(AV.int n),(AV.sl 2 (List.map encEd l))] [] (fun v st=>v=(AV.tup [(AV.sl 1 (List.map Go.Aw.encI (((Dg.orderL n l,Dg.orderE n l)).1))),(AV.int (((Dg.orderL n l,Dg.orderE n l)).2))])∧st=[]):=by
  refine acallsX_body Tryz.func55 (by kernel_rfl) rfl Tryz.ntmps55 (le_ rfl) ?_;rw [Tryz.results55];refine awx_seq ?_;refine awx_region rfl ?_;refine sA ?_;refine sA ?_;refine aops_nil ?_;refine awx_seq ?_;refine awx_region rfl ?_;refine sM ?_;refine sM ?_;refine aops_call (blt_lt rfl) (.plain rfl) (.cons (.plain rfl) (.cons (.imp (.plain rfl) (Sl.imp (enc:=encEd))) .nil)) (ACalls.here (build_c _ _ (by assumption)) ?_);refine sM ?_;refine sE ?_;refine sE ?_;refine sC fun n6=> ?_;refine st_s (fun _=>by exact y_storeW (by rfl) rfl (.plain rfl) (.plain rfl) (by exact .here) (by rfl)) ?_;refine sA ?_;refine aops_nil ?_;refine awx_seq ?_;refine awx_seq ?_;refine awx_region rfl ?_;refine sM ?_;refine sO ?_;refine aops_nil ?_;refine awx_cond rfl (fun h1=> ?_) (fun h1=> ?_)
  ·simp only [nf] at h1;refine awx_seq ?_;refine awx_region rfl ?_;refine sA ?_;refine sA ?_;refine aops_nil ?_;refine awx_ret ?_;refine retX (.inr rfl) (List.Perm.refl _) (.cons (.tmp rfl) (.cons (.tmp rfl) .nil)) (VShift.of2 (AV.Imp.tup (.cons (Sl.imp (enc:=Go.Aw.encI)) (.cons (AV.Imp.refl _) .nil))) (.nil _)) ⟨congrArg (fun x:(List (Int))×(Int)=>(AV.tup [(AV.sl 1 (List.map Go.Aw.encI x.1)),(AV.int x.2)])) (show (_,_)=((Dg.orderL n l,Dg.orderE n l)) from ?_),rfl⟩;rw [Dg.orderL,Dg.orderE,if_pos,if_pos];all_goals (simpa [Dg.bdB] using h1)
  ·simp only [nf] at h1;have hck:=Dg.bdB_f (by simpa using h1:Dg.bdB n l=true);have hok:=Dg.okE hck;have hG:=Dg.okG hok;have hnb:=hok.nb;have hlen:=hok.len;rw [Dg.bd_gr hck];refine awx_skip ?_;refine awx_seq ?_;refine awx_region rfl ?_;refine sM ?_;refine st_n (fun _=>by exact y_makeArr (by rfl) (.plain rfl) (.plain rfl) (Int.toNat_of_nonneg (a:=n) (by omega)).symm (by omega)) rfl fun nj=> ?_;refine sC fun n8=> ?_;refine st_s (fun _=>by exact y_storeW (by rfl) rfl (.plain rfl) (.plain rfl) (by exact .here) (by rfl)) ?_;refine aops_nil ?_;refine awx_seq ?_;refine awx_seq ?_;refine awx_region rfl ?_;refine sM ?_;refine sN ?_;refine sM ?_;refine aops_nil ?_;refine awx_block ?_;refine awx_loop2 (X:=Nat) (rest:=[]) [0,6,8,24,25] (.cons rfl (.cons rfl (.cons rfl (.cons rfl (.cons rfl .nil))))) (fun σ x=>((26,.int (x:Int)):Nat×AV)::σ) (fun R x=> .cells n8 [.arr nj 0 n.toNat]:: .cells nj (ea n.toNat (fun j=> .int (Dg.deg (l.take x) j))):: .cells n6 (encG (Dg.gr n l))::[]) (fun x=>x≤l.length) (fun x=>l.length - x) 0 (by exact Weak.of2 (by (repeat (first|exact .nil _|refine .cons rfl (by exact AV.Imp.refl _) ?_));done) (.cons .here (.cells .here (by rw [ea_make];exact ImpL.refl _) (.cons .here (.nil _))))) (Nat.zero_le _) ?_;rintro k hk;refine awx_seq ?_;refine awx_region rfl ?_;refine sS ?_;refine aops_nil ?_;refine awx_seq ?_;refine awx_cond rfl (fun h2=> ?_) (fun h2=> ?_)
   ·simp only [nf] at h2;refine awx_skip ?_;refine awx_seq ?_;refine awx_block ?_;refine awx_seq ?_;refine awx_region rfl ?_;refine st_p (fun _=>by exact y_indexMap (.plain rfl) (.plain rfl) rfl (by refine⟨?_,?_⟩;(omega);rfl)) rfl ?_;refine sV ?_;refine sC fun ne=> ?_;refine st_s (fun _=>by exact y_storeW (by rfl) rfl (.plain rfl) (.plain rfl) (by exact .here) (by rfl)) ?_;refine aops_nil ?_;have hvb:=hok.v _ (List.getElem_mem h2);have hdb:=Dg.deg_bd (l.take k) l[k].v;rw [List.length_take] at hdb;refine awx_region rfl ?_;refine sL k1 ?_;refine sF ?_;refine sL .here ?_;refine st_p (fun _=>by exact y_indexArr (.plain rfl) (.plain rfl) (Int.toNat_of_nonneg hvb.1).symm (by omega)) rfl ?_;refine st_p (fun _=>by exact y_load (.plain rfl) (by exact k2) (ea_get _ ⟨hvb.1,by omega⟩)) rfl ?_;refine sY ?_ (hb:=by omega);refine st_p (fun _=>by exact y_indexArr (.plain rfl) (.plain rfl) (Int.toNat_of_nonneg hvb.1).symm (by omega)) rfl ?_;refine st_s (fun _=>by exact y_store (by rfl) rfl (.plain rfl) (.plain rfl) (by exact u2) (by rw [ea_len];simp;omega)) ?_;refine aops_nil ?_;refine awx_region rfl ?_;refine sY ?_ (hb:=by omega);refine sM ?_;refine aops_nil ?_;refine⟨rfl,?_⟩;refine⟨k+1,by omega,by omega,?_⟩;rw [ea_setI (f:=Dg.deg (l.take k)) _ ⟨hvb.1,by omega⟩,show (ea n.toNat (fun j=> .int (Dg.upd (Dg.deg (l.take k)) l[k].v (Dg.deg (l.take k) l[k].v+1) j)))=(ea n.toNat (fun j=> .int (Dg.deg (l.take (k+1)) j))) from ea_congr fun j _=>by rw [Dg.deg_succ h2 j]];exact Weak.of2 (by (repeat (first|exact .nil _|refine .cons rfl (by exact AV.Imp.refl _) ?_));done) (by (repeat (first|exact .nil _|apply ItLe2.cons (by exact k1)));done)
   ·simp only [nf] at h2;refine awx_exit ?_;refine awx_seq ?_;obtain rfl:k=l.length:=by omega
    rw [List.take_length];refine awx_region rfl ?_;refine sA ?_;refine aops_nil ?_;refine awx_seq ?_;refine awx_block ?_;refine awx_loop3 (X:=Nat×(Int→Int)×List Int×Option Nat) [0,6,8] (.cons rfl (.cons rfl (.cons rfl .nil))) (fun σ x=>((11,.grow 1 x.2.2.2 (x.2.2.1.map Go.Aw.encI)):Nat×AV)::σ) (fun R x=> .cells n8 [.arr nj 0 n.toNat]:: .cells nj (ea n.toNat (fun j=> .int (x.2.1 j))):: .cells n6 (encG (Dg.gr n l)):: .tail x.2.2.2::R) (fun x=>x.2.2.1.length+x.1=n.toNat∧Dg.ord (Dg.gr n l) x.1 x.2.1 x.2.2.1=Dg.ordO n l∧ ∀ j,-(2001*(x.2.2.1.length:Int))≤x.2.1 j∧x.2.1 j≤2000) (fun x=>x.1) (n.toNat,Dg.deg l,[],none) (by exact Weak.of2 (by (repeat (first|exact .nil _|refine .cons rfl (by first|exact AV.Imp.refl _|exact AV.Imp.nil_grow) ?_));done) (.cons .here (.cons .here (.cons .here (.tail0 (.nil _)))))) ⟨by simp,rfl,fun j=>by have:=Dg.deg_bd l j;simp;omega⟩ ?_;intro ms1;rintro⟨f,op,out,tok⟩ ⟨hk,hord,hopb⟩;simp only at hk hord hopb;dsimp only;refine awx_seq ?_;refine awx_seq ?_;refine awx_region rfl ?_;refine sM ?_;refine sN ?_;refine sM ?_;refine sS ?_;refine aops_nil ?_;refine awx_cond rfl (fun h3=> ?_) (fun h3=> ?_)
    ·simp only [nf] at h3;obtain⟨f,rfl⟩: ∃ f0,f=f0+1:=⟨f - 1,by omega⟩
     have hol:out.length<n.toNat:=by omega
     refine awx_skip ?_;refine awx_block ?_;refine awx_seq ?_;refine awx_region rfl ?_;refine sL .here ?_;refine aops_call (blt_lt rfl) (.plain rfl) (.cons (.plain rfl) (.cons (.plain rfl) .nil)) (ACalls.then (v:= .int (Dg.pick n.toNat op)) (ACalls.keep (by apply Takes.cons (by exact k1);exact .nil _) (indexA_c nj n.toNat op 0 (by omega))) ?_);refine sA ?_;refine aops_nil ?_;refine awx_seq ?_;refine awx_seq ?_;refine awx_region rfl ?_;refine sM ?_;refine sS ?_;refine aops_nil ?_;refine awx_cond rfl (fun h4=> ?_) (fun h4=> ?_)
     ·simp only [nf] at h4;refine awx_seq ?_;refine awx_region rfl ?_;refine sA ?_;refine sA ?_;refine aops_nil ?_;refine awx_ret ?_;refine retX (.inr rfl) (List.perm_append_comm (l₁:=[_,_,_,_])) (.cons (.tmp rfl) (.cons (.tmp rfl) .nil)) (VShift.of2 (AV.Imp.tup (.cons (Sl.imp (enc:=Go.Aw.encI)) (.cons (AV.Imp.refl _) .nil))) (.nil _)) ⟨congrArg (fun x:(List (Int))×(Int)=>(AV.tup [(AV.sl 1 (List.map Go.Aw.encI x.1)),(AV.int x.2)])) (show (_,_)=((Dg.orderL n l,Dg.orderE n l)) from ?_),rfl⟩;rw [Dg.orderL,Dg.orderE,if_neg (by omega),if_neg (by omega),←hord,Dg.ord,if_pos (show Dg.pick (Dg.gr n l).n.toNat op<0 from h4)];all_goals rfl
     ·simp only [nf] at h4;have hu0:0≤(Dg.pick n.toNat op):=by omega
      have hu:0≤(Dg.pick n.toNat op)∧(Dg.pick n.toNat op)<n:=⟨hu0,by have:=Dg.pick_lt hu0;omega⟩
      have hsl:=(hG.row (Dg.pick n.toNat op)).1;refine awx_skip ?_;refine awx_seq ?_;refine awx_region rfl ?_;refine sL .here ?_;refine sM ?_;refine st_p (fun _=>by exact y_indexArr (.plain rfl) (.plain rfl) (Int.toNat_of_nonneg hu.1).symm (by omega)) rfl ?_;refine st_s (fun _=>by exact y_store (by rfl) rfl (.plain rfl) (.plain rfl) (by exact u1) (by rw [ea_len];simp;omega)) ?_;refine aops_nil ?_;rw [ea_setI (f:=op) _ ⟨hu.1,by omega⟩];refine awx_seq ?_;refine awx_seq ?_;refine awx_region rfl ?_;refine sW k2 ?_;refine sM ?_;refine aops_call (blt_lt rfl) (.plain rfl) (.cons (.plain rfl) (.cons (.plain rfl) .nil)) (ACalls.frame (st1:=[]) (succ0_c (Dg.gr n l) (Dg.pick n.toNat op)) (List.Perm.refl _) ?_);rintro v st ⟨si,sj,rfl,rfl⟩;refine aops_nil ?_;refine awx_block ?_;refine awx_rangeFunc rfl fun iL iD T fn D RS hRS=> ?_;refine ACalls.frame (succ_c (Dg.gr n l) hG (Dg.pick n.toNat op) hu si sj (.yld iL _ _ T) (fun k st=>st=Aw.Item.raw iL (RS .ready none)::[.cells n8 [.arr nj 0 n.toNat],.cells nj (ea n.toNat (fun j=> .int (Dg.decs (Dg.upd op (Dg.pick n.toNat op) (-1)) ((Dg.suc (Dg.gr n l) (Dg.pick n.toNat op)).take k) j)))]) (fun _=>False) _ rfl ?_) (Takes.perm (by apply Takes.cons (by exact k2);apply Takes.cons (by exact k2);apply Takes.cons (by exact .here);apply Takes.cons (by exact k1);apply Takes.cons (by exact k1);exact .nil _)) ?_
      ·rintro k hk st rfl;have hvb:=(hG.row (Dg.pick n.toNat op)).2 _ (List.getElem_mem hk);have hvm:(Dg.suc (Dg.gr n l) (Dg.pick n.toNat op))[k]<(n.toNat:Int):=by have hv2:(Dg.suc (Dg.gr n l) (Dg.pick n.toNat op))[k]<n:=hvb.2;omega
       have hdd:=Dg.decs_bd ((Dg.suc (Dg.gr n l) (Dg.pick n.toNat op)).take k) (Dg.upd op (Dg.pick n.toNat op) (-1)) (-(2001*(out.length:Int)) - 1) 2000 (fun i=>by have:=hopb i;unfold Dg.upd;split<;>omega) (Dg.suc (Dg.gr n l) (Dg.pick n.toNat op))[k];rw [List.length_take] at hdd;refine AYields.round hRS (by decide) rfl (fun lb=> ?_);refine awx_region rfl ?_;refine sA ?_;refine aops_nil ?_;refine⟨rfl,?_⟩;refine awx_block ?_;refine awx_region rfl ?_;refine sL .here ?_;refine sM ?_;refine st_p (fun _=>by exact y_indexArr (.plain rfl) (.plain rfl) (Int.toNat_of_nonneg hvb.1).symm (by omega)) rfl ?_;refine st_p (fun _=>by exact y_load (.plain rfl) (by exact k1) (ea_get _ ⟨hvb.1,hvm⟩)) rfl ?_;refine st_p (fun _=>by exact y_sub (.plain rfl) (.plain rfl) (by omega)) rfl ?_;refine st_p (fun _=>by exact y_indexArr (.plain rfl) (.plain rfl) (Int.toNat_of_nonneg hvb.1).symm (by omega)) rfl ?_;refine st_s (fun _=>by exact y_store (by rfl) rfl (.plain rfl) (.plain rfl) (by exact u1) (by rw [ea_len];simp;omega)) ?_;refine aops_nil ?_;refine⟨true,rfl,fun _=> ?_,fun h=>by cases h⟩;rw [ea_setI (f:=Dg.decs (Dg.upd op (Dg.pick n.toNat op) (-1)) ((Dg.suc (Dg.gr n l) (Dg.pick n.toNat op)).take k)) _ ⟨hvb.1,hvm⟩,Dg.decs_succ _ _ hk]
      rintro v st' ⟨stx,rfl,rfl|hx⟩;rotate_left
      ·cases hx
      refine⟨.ready,none,_,Take.perm (.there (.there .here)),by simp,?_⟩;rw [Dg.decs_all];refine awx_region rfl ?_;refine sM ?_;refine sM ?_;refine st_p (fun _=>by exact y_buildSlice (.cons (.plain rfl) inferInstance (by rfl) .nil) rfl (le_ rfl)) rfl ?_;refine st_appendT (by rfl) (.plain rfl) (.plain rfl) (by exact k6) (by (simp;try omega)) rfl fun tA=> ?_;refine sA ?_;refine aops_nil ?_;refine⟨(f,Dg.decs (Dg.upd op (Dg.pick n.toNat op) (-1)) (Dg.suc (Dg.gr n l) (Dg.pick n.toNat op)),out++[(Dg.pick n.toNat op)],tA),⟨?_,?_,fun j=> ?_⟩,by show f<f+1;omega,?_⟩
      ·simp only [List.length_append,List.length_singleton];omega
      ·rw [←hord,Dg.ord,if_neg (show ¬ Dg.pick (Dg.gr n l).n.toNat op<0 from Int.not_lt.2 hu0)];rfl
      ·have:=Dg.decs_bd (Dg.suc (Dg.gr n l) (Dg.pick n.toNat op)) (Dg.upd op (Dg.pick n.toNat op) (-1)) (-(2001*(out.length:Int)) - 1) 2000 (fun i=>by have:=hopb i;unfold Dg.upd;split<;>omega) j;simp only [List.length_append,List.length_singleton];omega
      ·dsimp only;exact Weak.of2 (by (repeat (first|exact .nil _|refine .cons rfl (by first|exact AV.Imp.refl _|exact AV.Imp.grow_of rfl) ?_));done) (by apply ItLe2.cons (by exact k3);apply ItLe2.cons (by exact k3);apply ItLe2.cons (by exact k4);apply ItLe2.cons (by exact .here);apply ItLe2.cons (by exact k2);exact .sub (.cons _ (.cons _ (.refl _))))
    ·simp only [nf] at h3;obtain rfl:f=0:=by omega
     refine awx_exit ?_;refine awx_seq ?_;refine awx_region rfl ?_;refine sM ?_;refine sA ?_;refine sA ?_;refine aops_nil ?_;refine awx_ret ?_;refine retX (.inr rfl) (List.perm_append_comm (l₁:=[_,_,_,_])) (.cons (.tmp rfl) (.cons (.tmp rfl) .nil)) (VShift.of2 (AV.Imp.tup (.cons (Sl.imp (enc:=Go.Aw.encI)) (.cons (AV.Imp.refl _) .nil))) (.nil _)) ⟨congrArg (fun x:(List (Int))×(Int)=>(AV.tup [(AV.sl 1 (List.map Go.Aw.encI x.1)),(AV.int x.2)])) (show (_,_)=((Dg.orderL n l,Dg.orderE n l)) from ?_),rfl⟩;rw [Dg.orderL,Dg.orderE,if_neg (by omega),if_neg (by omega),←hord,Dg.ord];all_goals rfl
end Go.Proofs
namespace Go.Aw
open Go.Sort (Holds grow mapBlock onCells putCells heap_grow_old)
open Go.Sort (flatK HoldsK putRowK size_flatK)
open Go.Proofs (sortWorldK)
variable {α:Type} [Inhabited α]
def flatV (enc:α→List Value) (k:Nat) (zs:List α):List AV:=(flatK enc k zs.toArray).toList.map AV.val
theorem flatK_one (enc:α→List Value) (k:Nat) (hk: ∀ x,(enc x).length=k) (h1: ∀ x,∀ v∈enc x,v.oneCell'=true) (d:Array α): ∀ v∈(flatK enc k d).toList,v.oneCell'=true:=by
  intro v hv;unfold flatK at hv;simp only [Array.toList_map,List.mem_map,Array.toList_range,List.mem_range] at hv;obtain⟨t,ht,rfl⟩:=hv;have hp:0<k:=by
   rcases Nat.eq_zero_or_pos k with h|h
   ·subst h;simp at ht
   ·exact h
  have:=Nat.mod_lt t hp;rw [getElem!_pos (enc d[t / k]!) (t % k) (by rw [hk];exact this)];exact h1 _ _ (List.getElem_mem _)
theorem ACalls.sortF {P:Program} {f:FuncId} (hf:callable P f=true) (enc:α→List Value) (k:Nat) (hk: ∀ x,(enc x).length=k) (h1: ∀ x,∀ v∈enc x,v.oneCell'=true) (g:Nat) (zs zs':List α) (hlen:zs'.length=zs.length)
  (hc: ∀ (blk off cap:Nat) (w:World),HoldsK enc k w blk off zs.toArray→blk<w.heap.size→Calls P f #[.slice (some ⟨blk,off,none⟩) zs.length cap,.func (.func g) #[] #[]] w fun e w'=>e= .returned (.tuple #[])∧ ∃ n os,w'=sortWorldK enc k w blk off n zs'.toArray os)
  (h0: ∀ (a:Option Addr) (cap:Nat) (w:World),Calls P f #[.slice a 0 cap,.func (.func g) #[] #[]] w fun e w'=>e= .returned (.tuple #[])∧w'=w)
  (t:Option Nat):
  ACalls P f [.vec k t zs.length,.clo g []] [.vec t (flatV enc k zs)] (fun v st=>v= .tup []∧st=[.vec t (flatV enc k zs')]):=by
  refine⟨hf,fun F gh w vs hw hv=> ?_⟩
  match vs,hv with
  | [u,c],⟨hu,hcl,_⟩=>
   obtain⟨us,e,hus⟩:=AV.clo_holds.1 hcl;obtain rfl:us=[]:=by cases us with|nil=>rfl|cons a b=>exact hus.elim
   subst e;cases t with
   |none=>
    obtain⟨⟨x,e⟩,hn⟩:=AV.vec_none.1 hu;subst e;refine (h0 x 0 w).mono ?_;rintro e w' ⟨rfl,rfl⟩;refine⟨_,_,_,gh,rfl,Ghost.ext.refl gh,hw.tailOf.vec0 _,?_,rfl,rfl⟩;exact AV.tup_holds.2 ⟨[],rfl,trivial⟩
   |some j=>
    obtain⟨b,p,s,cap,hl,e,hcap,hS⟩:=AV.vec_some.1 hu;subst e;have hw1:RelW gh (.vec (some j) (((flatK enc k zs.toArray).toList.map id).map AV.val)::F) w:=by
     rw [List.map_id];exact hw
    obtain⟨b',p',s',vs2,E,k1,k2,k3,k4,k5,k6,k7,k8⟩:=hw1.items _ (List.mem_cons_self ..);rw [hl] at k1;cases k1;have hbs:b<w.heap.size:=(Array.getElem?_eq_some_iff.1 k2).1;have hH:HoldsK enc k w b 0 zs.toArray:=by
     have:=RelW.holds hl id (flatK enc k zs.toArray).toList hw1;unfold HoldsK;simpa using this
    refine (hc b 0 cap w hH hbs).mono ?_;rintro e w' ⟨rfl,n,os,rfl⟩;have h2:=hw1.putRow hl id (flatK enc k zs'.toArray).toList (flatK_one enc k hk h1 _) (by simp at k4 ⊢;rw [hlen];exact k4) n os;rw [List.map_id,Array.toArray_toList] at h2;refine⟨_,_,_,gh,rfl,Ghost.ext.refl gh,h2,?_,rfl,rfl⟩;exact AV.tup_holds.2 ⟨[],rfl,trivial⟩
theorem ACalls.grown {P:Program} {f:FuncId} {args:List AV} {u:Value} (h:ACalls P f args [] (fun v st=>v= .val u∧st=[])) (W:World) (vs:List Value) (hv:holdsL (g0 W) args vs):
  Calls P f vs.toArray W fun e w'=>e= .returned u∧ ∃ q os,w'=grow (W.drewN q) os:=by
  refine (h.2 [] (g0 W) W vs (relW0 W) hv).mono ?_;rintro e w' ⟨u',v,st',g',rfl,hx,hw',hh,rfl,rfl⟩;rw [AV.val_holds] at hh;subst hh;have hB:g'.B=W.heap.size:=hx.le.B;have h0:g'.w0=W:=hx.le.w0;have hb:=hw'.below;have hd:=hw'.drawn;rw [hB,h0] at hb;rw [h0] at hd;refine⟨rfl,w'.drawn - W.drawn,w'.heap.extract W.heap.size w'.heap.size,?_⟩;have e1:=hb.os;have e2:=hb.tape;have e3:=hb.output;have e4:=hb.size;have e5:=hb.block;have hh:w'.heap=W.heap++w'.heap.extract W.heap.size w'.heap.size:=by
   refine Array.ext_getElem? fun k=> ?_;rw [Array.getElem?_append];split
   ·rename_i hk;exact e5 k hk
   ·rename_i hk;rw [Array.getElem?_extract];split
    ·congr 1;omega
    ·rw [Array.getElem?_eq_none (by omega)]
  obtain⟨a,b,c,d,e⟩:=w';obtain⟨a0,b0,c0,d0,e0⟩:=W;simp only at e1 e2 e3 hh hd;subst e1 e2 e3;unfold grow World.drewN;dsimp only;rw [←hh];congr 1
  omega
def zeroN (zs:List Value) (n:Nat):List AV:=(Builtin.zeroCells zs.toArray n).toList.map AV.val
theorem zeroN_len (zs:List Value) (n:Nat):(zeroN zs n).length=n*zs.length:=by unfold zeroN Builtin.zeroCells;simp
section
variable {P:Program} {σ:Fr} {st:List Item} {i:Nat} {d:Option Tmp} {ty:TypeId} {pos:String} {after:Array Edge} {gd:Option (Nat×Bool)} {w:World}
theorem y_clearArr {T E sz by_ j off n:Nat} {x:Operand} {cs cs':List AV} {zs:List Value} {st':List Item} [ht:SliceT P T E sz by_] [hz:ZeroT P E zs] (hzl:zs.length=sz) (hz1:zs.all (·.oneCell')=true) (hn:0<n)
  (hx:Ev σ x (.arr j off n)) (hu:Upd st (.cells j cs) (.cells j cs') st') (hs:setMany cs off (zeroN zs n)=cs') (hfit:off+n*sz≤cs.length):Yields P ⟨d,.call {callee:= .builtin .clear,args:= #[x],argTypes:= #[T]},ty,pos,after,gd⟩ σ st i (.tup []) st':=fun F g a w hw hi hs0=>by
  subst hs;obtain⟨b,p,s,cap,hl,e,hc⟩:=AV.arr_holds.1 (hx.holds hs0 (by simp [Op.operands,Call.operands]));obtain⟨r,p1,p2⟩:=hu.perm;have hw1:RelW g (.cells j cs::(r++F)) w:=hw.perm (p1.append_right F);obtain⟨b',p',s',vs,E',h1,h2,h3,h4,h5,h6⟩:=hw1.items _ (List.mem_cons_self ..);rw [hl] at h1;cases h1;obtain⟨z,hzero,hzc⟩:=zero_spec (P:=P) (w:=w) (T:=E);have hl1:=h3.length;have hone: ∀ u∈(Builtin.zeroCells zs.toArray n).toList,u.oneCell'=true:=by
   intro u hu;unfold Builtin.zeroCells at hu;simp only [Array.toList_map,List.mem_map,Array.toList_range,List.mem_range] at hu;obtain⟨k,hk,rfl⟩:=hu;have hpos:0<zs.toArray.size:=by
    have:=ht.pos;simp;omega
   have hlt:=Nat.mod_lt k hpos;rw [getElem!_pos zs.toArray (k % zs.toArray.size) hlt];rw [List.all_eq_true] at hz1;exact hz1 _ (by simp)
  have hzn:=zeroN_len zs n;have hz2:(Builtin.zeroCells zs.toArray n).toList.length=n*zs.length:=by simpa [zeroN] using hzn
  have hrun:=run_storeCells_at P b off E' (Builtin.zeroCells zs.toArray n).toList 0 vs w h2 (by simp only [Array.length_toList] at hl1 hz2 ⊢;rw [hz2,hzl];omega) hone;refine goes_value (u:= .tuple #[]) (w':=w.setRow b (setMany vs.toList off (Builtin.zeroCells zs.toArray n).toList).toArray) ?_ ⟨g,Ghost.to.refl g i,?_,AV.tup_holds.2 ⟨[],rfl,trivial⟩⟩
  ·obtain⟨m,rfl⟩: ∃ m,n=m+1:=⟨n - 1,by omega⟩
   simp [execOp,resolve,invoke,builtin,e,Builtin.clear_,run_underlying ht.und,hzero,hzc];have h9:=hrun;simp [setMany] at h9;simp [setMany,h9]
  ·have:=hw1.storeCells (cs':=setMany cs off (zeroN zs n)) hl (vs':=(setMany vs.toList off (Builtin.zeroCells zs.toArray n).toList).toArray) (h3.setMany off (holdsL_vals _)) (fun u hu=>by
    simp only [setMany,List.mem_append] at hu;rcases hu with (hu|hu)|hu
    ·exact h4 u (List.mem_of_mem_take hu)
    ·exact hone u hu
    ·exact h4 u (List.mem_of_mem_drop hu))
   exact this.perm (p2.append_right F).symm
end
end Go.Aw
namespace Dg
def cmpU (l:List Ed):Nat→List Ed
  |0=>[]
  |k+1=>if 0<k∧l.getD k default=l.getD (k - 1) default then cmpU l k else cmpU l k++[l.getD k default]
theorem cmpU_t {l:List Ed} {k:Nat} (h0:0<k) (h:l.getD k default=l.getD (k - 1) default):cmpU l (k+1)=cmpU l k:=by rw [cmpU,if_pos ⟨h0,h⟩]
theorem cmpU_f {l:List Ed} {k:Nat} (h: ¬ (0<k∧l.getD k default=l.getD (k - 1) default)):cmpU l (k+1)=cmpU l k++[l.getD k default]:=by rw [cmpU,if_neg h]
theorem cmpU_small (l:List Ed) (h:l.length<2):cmpU l l.length=l:=by
  match l,h with
  | [],_=>rfl
  | [a],_=>rfl
theorem cmpU_one {l:List Ed} (h:0<l.length):cmpU l 1=l.take 1:=by
  cases l with
  |nil=>cases h
  |cons a l=>rfl
theorem take_getD {l:List Ed} {k:Nat} (hk:k<l.length):l.take (k+1)=l.take k++[l.getD k default]:=by
  rw [List.take_succ_eq_append_getElem hk,List.getD,List.getElem?_eq_getElem hk,Option.getD_some]
theorem drop_getD {d l:List Ed} {m i:Nat} (h:d.drop m=l.drop m) (hi:m≤i):d.getD i default=l.getD i default:=by
  have h1:(d.drop m)[i - m]?=(l.drop m)[i - m]?:=by rw [h]
  rw [List.getElem?_drop,List.getElem?_drop,show m+(i - m)=i by omega] at h1;rw [List.getD,List.getD,h1]
theorem set_take {d c:List Ed} {e:Ed} {k:Nat} (h:d.take k=c) (hk:k<d.length):(d.set k e).take (k+1)=c++[e]:=by
  subst h;rw [List.take_set,List.take_succ_eq_append_getElem hk,List.set_append];rw [if_neg (by rw [List.length_take];omega),List.length_take,Nat.min_eq_left (by omega),Nat.sub_self];rfl
theorem set_drop {d l:List Ed} {e:Ed} {k m:Nat} (h:d.drop m=l.drop m) (hk:k<m):(d.set k e).drop m=l.drop m:=by
  rw [List.drop_set,if_pos hk,h]
theorem drop_more {d l:List Ed} {m:Nat} (h:d.drop m=l.drop m):d.drop (m+1)=l.drop (m+1):=by
  rw [←List.drop_drop,←List.drop_drop,h]
end Dg
namespace Go.Aw
open Dg
def rowE (l:List Ed):List AV:=(l.map encEd).flatten
theorem rowE_len (l:List Ed):(rowE l).length=l.length*2:=by
  induction l with
  |nil=>rfl
  |cons a l ih=>unfold rowE at ih ⊢;rw [List.map_cons,List.flatten_cons,List.length_append,ih,List.length_cons];simp [encEd];omega
theorem rowE_app (a b:List Ed):rowE (a++b)=rowE a++rowE b:=by unfold rowE;rw [List.map_append,List.flatten_append]
theorem rowE_split (l:List Ed) (k:Nat) (hk:k<l.length):rowE l=rowE (l.take k)++(encEd (l.getD k default)++rowE (l.drop (k+1))):=by
  have h:l=l.take k++([l.getD k default]++l.drop (k+1)):=by
   rw [List.getD,List.getElem?_eq_getElem hk,Option.getD_some,←List.append_assoc,←List.take_succ_eq_append_getElem hk,List.take_append_drop]
  conv=>lhs;rw [h]
  rw [rowE_app,rowE_app];simp [rowE]
theorem setMany_midE (A E0 E B:List AV) (h:E0.length=E.length):setMany (A++(E0++B)) A.length E=A++(E++B):=by
  unfold setMany;rw [←h,←List.drop_drop,List.drop_left,List.drop_left,List.take_left,List.append_assoc]
theorem rowE_get (l:List Ed) (pad:List AV) (k:Nat) (hk:k<l.length):((rowE l++pad).drop (k*2)).take 2=encEd (l.getD k default):=by
  rw [rowE_split l k hk,List.append_assoc,List.drop_append,List.drop_eq_nil_of_le (by rw [rowE_len,List.length_take];omega),rowE_len,List.length_take,Nat.min_eq_left (by omega),Nat.sub_self,List.nil_append,List.drop_zero,List.append_assoc];rfl
theorem rowE_set (l:List Ed) (pad:List AV) (k:Nat) (e:Ed) (hk:k<l.length):setMany (rowE l++pad) (k*2) (encEd e)=rowE (l.set k e)++pad:=by
  have h2:(l.set k e).take k=l.take k:=by rw [List.take_set_of_le (Nat.le_refl k)]
  have h3:(l.set k e).drop (k+1)=l.drop (k+1):=by rw [List.drop_set,if_pos (by omega)]
  have h4:(l.set k e).getD k default=e:=by rw [List.getD,List.getElem?_set_self (by omega)];rfl
  rw [rowE_split (l.set k e) k (by rw [List.length_set];exact hk),h2,h3,h4,rowE_split l k hk];have hl:(rowE (l.take k)).length=k*2:=by rw [rowE_len,List.length_take,Nat.min_eq_left (by omega)]
  rw [←hl,List.append_assoc,List.append_assoc,List.append_assoc,List.append_assoc];exact setMany_midE (rowE (l.take k)) (encEd (l.getD k default)) (encEd e) (rowE (l.drop (k+1))++pad) rfl
theorem rowE_cut (l:List Ed) (pad ds:List AV) (k:Nat) (hk:k≤l.length): ∃ r,setMany (rowE l++pad) (k*2) ds=rowE (l.take k)++r:=by
  have h:l=l.take k++l.drop k:=(List.take_append_drop k l).symm;have hl:(rowE (l.take k)).length=k*2:=by rw [rowE_len,List.length_take,Nat.min_eq_left (by omega)]
  refine⟨ds++(rowE l++pad).drop (k*2+ds.length),?_⟩;unfold setMany;rw [List.append_assoc];congr 1
  conv=>lhs;rw [h,rowE_app]
  rw [List.append_assoc,List.take_append,List.take_of_length_le (by omega),hl,Nat.sub_self,List.take_zero,List.append_nil]
end Go.Aw
namespace Dg
theorem ed_eq {a b:Ed} (h:a.u=b.u∧a.v=b.v):a=b:=by
  obtain⟨u,v⟩:=a;obtain⟨u',v'⟩:=b;obtain⟨h1,h2⟩:=h;subst h1 h2;rfl
end Dg
namespace Dg
def cmpI (a b:Int):Int:=if a<b then -1 else if b<a then 1 else 0
def orL:List Int→Int
  | []=>0
  |x::r=>if x≠0 then x else orL r
def cmpE (x y:Ed):Int:=if cmpI x.u y.u≠0 then cmpI x.u y.u else cmpI x.v y.v
theorem orL_at {l:List Int} {k:Nat} (hk:k<l.length) (h: ∀ i (hi:i<l.length),i<k→l[i]=0) (hb:l[k]≠0):orL l=l[k]:=by
  induction l generalizing k with
  |nil=>cases hk
  |cons a l ih=>
   cases k with
   |zero=>rw [orL];exact if_pos hb
   |succ k=>
    have h0:a=0:=h 0 (by simp) (by omega);rw [orL,if_neg (by omega)];exact ih (by simpa using hk) (fun i hi hik=>h (i+1) (by simpa using hi) (by omega)) hb
theorem orL_no {l:List Int} (h: ∀ i (hi:i<l.length),l[i]=0):orL l=0:=by
  induction l with
  |nil=>rfl
  |cons a l ih=>
   have h0:a=0:=h 0 (by simp);rw [orL,if_neg (by omega)];exact ih (fun i hi=>h (i+1) (by simpa using hi))
theorem cmpE_or (x y:Ed):orL [cmpI x.u y.u,cmpI x.v y.v]=cmpE x y:=by
  unfold orL orL orL cmpE;split
  ·rfl
  ·split
   ·rfl
   ·omega
theorem cmpE_lt (x y:Ed):cmpE x y<0↔x.u<y.u∨(x.u=y.u∧x.v<y.v):=by
  unfold cmpE cmpI
  (repeat' split)<;>omega
end Dg
namespace Go.Aw
open Dg
def edV (e:Ed):List Value:=[.int .i64 e.u,.int .i64 e.v]
theorem flatV_row (l:List Ed):flatV edV 2 l=rowE l:=by
  refine List.ext_getElem? fun t=> ?_;unfold flatV Go.Sort.flatK;rw [List.getElem?_map,Array.getElem?_toList,Array.getElem?_map];rcases Nat.lt_or_ge t (l.length*2) with h|h
  ·have h2:t / 2<l.length:=by omega
   have h3:=rowE_get l [] (t / 2) h2;rw [List.append_nil] at h3;have h4:(((rowE l).drop (t / 2*2)).take 2)[t % 2]?=(rowE l)[t]?:=by
    rw [List.getElem?_take,if_pos (by omega),List.getElem?_drop];congr 1;omega
   rw [←h4,h3];simp [h];have h5:l.getD (t / 2) default=l[t / 2]:=by rw [List.getD,List.getElem?_eq_getElem h2,Option.getD_some]
   rw [List.getElem?_eq_getElem h2,Option.getD_some];rcases Nat.mod_two_eq_zero_or_one t with e|e<;>simp [e,edV,encEd]
  ·rw [List.getElem?_eq_none (by rw [rowE_len];omega)];simp;omega
end Go.Aw
namespace Dg
def srt (l:List Ed):List Ed:=l.mergeSort fun x y=> !decide (y.u<x.u∨(y.u=x.u∧y.v<x.v))
theorem srt_len (l:List Ed):(srt l).length=l.length:=List.length_mergeSort l
end Dg
set_option maxRecDepth 10000
namespace Go.Proofs
open Go.Aw Wl Pn
theorem compE_c (j:Nat) (L:List Dg.Ed) (hL:L.length≤1000000):ACalls Tryz.prog 56 [.vec 2 (some j) L.length] [.vec (some j) (rowE L)] (fun v st=>v= .sl 2 ((Dg.cmpU L L.length).map encEd)∧st=[]):=by
  refine acalls_body Tryz.func56 (by kernel_rfl) rfl Tryz.ntmps56 (le_ rfl) ?_;rw [Tryz.results56];refine awp_vecCells .here fun pad=> ?_;refine asr ?_;refine sA ?_;refine aops_nil ?_;refine awp_seq ?_;refine asr ?_;refine sM ?_;refine st_p (fun _=>by exact y_vlen (.plain rfl)) rfl ?_;refine sS ?_;refine aops_nil ?_;refine awp_cond rfl (fun h1=> ?_) (fun h1=> ?_)
  ·simp only [nf] at h1;refine asr ?_;refine sM ?_;refine sA ?_;refine aops_nil ?_;refine awp_ret ?_;exact retG (.inr rfl) (.cons (.tmp rfl) .nil) (VShift.trans (VShift.of1 AV.Imp.vec_arr (.refl _)) (VShift.freezeR (sz:=2) (xs:=L.map encEd) (pad:=pad) (by rw [List.length_map]) (by intro x hx;obtain⟨b,_,rfl⟩:=List.mem_map.1 hx;rfl) (.cons .here (.nil _)))) ⟨by rw [Dg.cmpU_small L (by omega)],rfl⟩
  ·simp only [nf] at h1;refine awp_skip ?_;refine awp_seq ?_;refine asr ?_;refine sA ?_;refine aops_nil ?_;refine awp_block ?_;refine awp_loop2 (X:=Nat) [0] (.cons rfl .nil) (fun σ x=>((3,.int (x:Int)):Nat×AV)::σ) (fun R x=> .cells j (rowE L++pad)::R) (fun x=>(1≤x∧x≤L.length)∧(Dg.cmpU L x)=L.take x) (fun x=>L.length - x) 1 (by exact Weak.of2 (by (repeat (first|exact .nil _|refine .cons rfl (by exact AV.Imp.refl _) ?_));done) (by (repeat (exact .refl _));done)) ⟨⟨Nat.le_refl _,by omega⟩,Dg.cmpU_one (by omega)⟩ ?_;rintro k ⟨⟨hk1,hk⟩,hinv⟩;refine awp_seq ?_;refine asr ?_;refine sM ?_;refine sM ?_;refine st_p (fun _=>by exact y_vlen (.plain rfl)) rfl ?_;refine sS ?_;refine aops_nil ?_;refine awp_cond rfl (fun h2=> ?_) (fun h2=> ?_)
   ·simp only [nf] at h2;refine awp_skip ?_;refine awp_seq ?_;refine awp_block ?_;refine awp_seq ?_;refine awp_any0 (ks:=[.free,.free,.free,.free,.free,.free,.free,.free,.free,.free]) (by kernel_rfl) (fun K=> ?_) ?_
    ·refine rM ?_;refine rM ?_;refine dr_p (fun _=>by exact y_indexArr (.imp (.plain rfl) AV.Imp.vec_arr) (.plain rfl) rfl (by omega)) rfl ?_;refine dr_p (fun _=>by exact y_loadAggN (cs':=encEd (L.getD k default)) (.plain rfl) .here (by rw [List.length_append,rowE_len];omega) (by rw [show 0+k*2=k*2 by omega];exact rowE_get L pad k (by omega))) rfl ?_;refine rM ?_;refine rM ?_;refine dr_p (fun _=>by exact y_sub (.plain rfl) (.plain rfl) (by omega)) rfl ?_;refine dr_p (fun _=>by exact y_indexArr (.imp (.plain rfl) AV.Imp.vec_arr) (.plain rfl) (show (k:Int) - 1=((k - 1:Nat):Int) by omega) (by omega)) rfl ?_;refine dr_p (fun _=>by exact y_loadAggN (cs':=encEd (L.getD (k - 1) default)) (.plain rfl) .here (by rw [List.length_append,rowE_len];omega) (by rw [show 0+(k - 1)*2=(k - 1)*2 by omega];exact rowE_get L pad (k - 1) (by omega))) rfl ?_;refine dr_p (fun _=>by exact y_eqStruct (.plain rfl) (.plain rfl) (.int (k':= .i64) (by kernel_rfl) (.int (k':= .i64) (by kernel_rfl) .nil))) rfl ?_;refine dr_nil ⟨rfl,?_⟩;refine awp_cond rfl (fun h3=> ?_) (fun h3=> ?_)
     ·simp only [nf] at h3;have hdup:L.getD k default=L.getD (k - 1) default:=Dg.ed_eq (by simpa using h3);have hc1:(Dg.cmpU L (k+1))=L.take k:=by rw [Dg.cmpU_t (by omega) hdup];exact hinv
      have hc2:(Dg.cmpU L (k+1)).length=k:=by rw [hc1,List.length_take];omega
      refine asr ?_;refine sM ?_;refine sM ?_;refine st_p (fun _=>by exact y_sliceArrLo (.imp (.plain rfl) AV.Imp.vec_arr) (.plain rfl) (l:=k) rfl (by omega)) rfl ?_;refine sA ?_;refine aops_nil ?_;refine awp_seq ?_;refine asr ?_;refine sA ?_;refine aops_nil ?_;refine awp_block ?_;refine awp_loop2 (X:=Nat×List Dg.Ed) [0,4] (.cons rfl (.cons rfl .nil)) (fun σ x=>((3,.int ((Dg.cmpU L (k+x.1)).length:Int)):Nat×AV)::((5,.int (x.1:Int)):Nat×AV)::σ) (fun R x=> .cells j (rowE x.2++pad)::R) (fun x=>1≤x.1∧k+x.1≤L.length∧x.2.length=L.length∧x.2.take (Dg.cmpU L (k+x.1)).length=(Dg.cmpU L (k+x.1))∧x.2.drop (k+x.1 - 1)=L.drop (k+x.1 - 1)∧(Dg.cmpU L (k+x.1)).length≤k+x.1 - 1) (fun x=>L.length - k - x.1) (1,L) (by exact Weak.of2 (by (repeat (first|exact .nil _|refine .cons rfl (by first|exact AV.Imp.refl _|exact AV.Imp.of_eq (by rw [hc2])) ?_));done) (by (repeat (exact .refl _));done)) ⟨Nat.le_refl _,by show k+1≤_;omega,rfl,by show L.take (Dg.cmpU L (k+1)).length=(Dg.cmpU L (k+1));rw [hc2,hc1],rfl,by show (Dg.cmpU L (k+1)).length≤k+1 - 1;omega⟩ ?_;rintro⟨m,D⟩ ⟨hm1,hm,hDl,hDt,hDd,hcl⟩;simp only at hm1 hm hDl hDt hDd hcl;have hDd2:D.drop (k+m)=L.drop (k+m):=by have:=Dg.drop_more hDd;rwa [show k+m - 1+1=k+m by omega] at this
      dsimp only;refine awp_seq ?_;refine asr ?_;refine sM ?_;refine sM ?_;refine st_p (fun _=>by exact y_lenArr (.plain rfl)) rfl ?_;refine sS ?_;refine aops_nil ?_;refine awp_cond rfl (fun h4=> ?_) (fun h4=> ?_)
      ·simp only [nf] at h4;refine awp_skip ?_;refine awp_seq ?_;refine awp_block ?_;refine awp_seq ?_;refine awp_any0 (ks:=[.free,.free,.free,.free,.free,.free,.free,.free,.free,.free]) (by kernel_rfl) (fun K=> ?_) ?_
       ·refine rM ?_;refine rM ?_;refine dr_p (fun _=>by exact y_indexArr (.plain rfl) (.plain rfl) rfl (by omega)) rfl ?_;refine dr_p (fun _=>by exact y_loadAggN (cs':=encEd (D.getD (k+m) default)) (.plain rfl) .here (by rw [List.length_append,rowE_len];omega) (by rw [show 0+k*2+m*2=(k+m)*2 by omega];exact rowE_get D pad (k+m) (by omega))) rfl ?_;refine rM ?_;refine rM ?_;refine dr_p (fun _=>by exact y_sub (.plain rfl) (.plain rfl) (by omega)) rfl ?_;refine dr_p (fun _=>by exact y_indexArr (.plain rfl) (.plain rfl) (show (m:Int) - 1=((m - 1:Nat):Int) by omega) (by omega)) rfl ?_;refine dr_p (fun _=>by exact y_loadAggN (cs':=encEd (D.getD (k+m - 1) default)) (.plain rfl) .here (by rw [List.length_append,rowE_len];omega) (by rw [show 0+k*2+(m - 1)*2=(k+m - 1)*2 by omega];exact rowE_get D pad (k+m - 1) (by omega))) rfl ?_;refine dr_p (fun _=>by exact y_neStruct (.plain rfl) (.plain rfl) (.int (k':= .i64) (by kernel_rfl) (.int (k':= .i64) (by kernel_rfl) .nil))) rfl ?_;refine dr_nil ⟨rfl,?_⟩;refine awp_cond rfl (fun h5=> ?_) (fun h5=> ?_)
        ·simp only [nf] at h5;have hg1:=Dg.drop_getD (i:=k+m) hDd (by omega);have hg2:=Dg.drop_getD (i:=k+m - 1) hDd (by omega);have hnd: ¬ L.getD (k+m) default=L.getD (k+m - 1) default:=fun e=>by rw [hg1,hg2,e] at h5;simp at h5
         refine asr ?_;refine sM ?_;refine sM ?_;refine sM ?_;refine sM ?_;refine st_p (fun _=>by exact y_indexArr (.plain rfl) (.plain rfl) rfl (by omega)) rfl ?_;refine st_p (fun _=>by exact y_loadAggN (cs':=encEd (D.getD (k+m) default)) (.plain rfl) .here (by rw [List.length_append,rowE_len];omega) (by rw [show 0+k*2+m*2=(k+m)*2 by omega];exact rowE_get D pad (k+m) (by omega))) rfl ?_;refine st_p (fun _=>by exact y_indexArr (.imp (.plain rfl) AV.Imp.vec_arr) (.plain rfl) rfl (by omega)) rfl ?_;refine st_storeN (n:=2) (cs':=rowE (D.set (Dg.cmpU L (k+m)).length (D.getD (k+m) default))++pad) (by rfl) rfl (.plain rfl) (.plain rfl) .here (by rw [List.length_append,rowE_len];omega) (by rw [Nat.zero_add];exact rowE_set D pad _ _ (by omega)) ?_;refine aops_nil ?_;refine awp_region ?_;refine sM ?_;refine sY ?_ (hb:=by omega);refine sA ?_;refine aops_nil ?_;refine awp_region ?_;refine sM ?_;refine sY ?_ (hb:=by omega);refine sA ?_;refine aops_nil ?_;have hU:(Dg.cmpU L (k+(m+1)))=(Dg.cmpU L (k+m))++[D.getD (k+m) default]:=by rw [show k+(m+1)=k+m+1 from rfl,Dg.cmpU_f (fun h=>hnd h.2),hg1]
         have hU2:(Dg.cmpU L (k+(m+1))).length=(Dg.cmpU L (k+m)).length+1:=by rw [hU,List.length_append,List.length_singleton]
         refine⟨(m+1,D.set (Dg.cmpU L (k+m)).length (D.getD (k+m) default)),⟨by show 1≤m+1;omega,by show k+(m+1)≤_;omega,by show (D.set _ _).length=_;rw [List.length_set];exact hDl,by show List.take (Dg.cmpU L (k+(m+1))).length (D.set _ _)=(Dg.cmpU L (k+(m+1)));rw [hU2,hU];exact Dg.set_take hDt (by omega),Dg.set_drop hDd2 (by omega),by show (Dg.cmpU L (k+(m+1))).length≤k+(m+1) - 1;omega⟩,by show L.length - k - (m+1)<L.length - k - m;omega,?_⟩;dsimp only;exact Weak.of2 (by (repeat (first|exact .nil _|refine .cons rfl (by first|exact AV.Imp.refl _|exact AV.Imp.of_eq (by rw [hU2];push_cast;rfl)) ?_));done) (by (repeat (exact .refl _));done)
        ·simp only [nf] at h5;have hg1:=Dg.drop_getD (i:=k+m) hDd (by omega);have hg2:=Dg.drop_getD (i:=k+m - 1) hDd (by omega);have hdp:L.getD (k+m) default=L.getD (k+m - 1) default:=by rw [←hg1,←hg2];exact Dg.ed_eq (by simpa using h5)
         refine awp_skip ?_;refine awp_region ?_;refine sM ?_;refine sY ?_ (hb:=by omega);refine sA ?_;refine aops_nil ?_;have hU:(Dg.cmpU L (k+(m+1)))=(Dg.cmpU L (k+m)):=by rw [show k+(m+1)=k+m+1 from rfl,Dg.cmpU_t (by omega) hdp]
         refine⟨(m+1,D),⟨by show 1≤m+1;omega,by show k+(m+1)≤_;omega,hDl,by show List.take (Dg.cmpU L (k+(m+1))).length D=(Dg.cmpU L (k+(m+1)));rw [hU];exact hDt,hDd2,by show (Dg.cmpU L (k+(m+1))).length≤k+(m+1) - 1;rw [hU];omega⟩,by show L.length - k - (m+1)<L.length - k - m;omega,?_⟩;dsimp only;exact Weak.of2 (by (repeat (first|exact .nil _|refine .cons rfl (by first|exact AV.Imp.refl _|exact AV.Imp.of_eq (by rw [hU])) ?_));done) (by (repeat (exact .refl _));done)
       ·kernel_rfl
      ·simp only [nf] at h4;refine awp_exit ?_;refine awp_seq ?_;have hkm:k+m=L.length:=by omega
       obtain⟨r,hcut⟩:=rowE_cut D pad (zeroN [.int .i64 0,.int .i64 0] (L.length - (Dg.cmpU L (k+m)).length)) (Dg.cmpU L (k+m)).length (by omega);rw [hDt] at hcut;refine awp_region ?_;refine sM ?_;refine sM ?_;refine st_p (fun _=>by exact y_sliceArrLo (.imp (.plain rfl) AV.Imp.vec_arr) (.plain rfl) (l:=(Dg.cmpU L (k+m)).length) rfl (by omega)) rfl ?_;refine st_s (fun _=>by exact y_clearArr (cs':=rowE (Dg.cmpU L (k+m))++r) (by rfl) (by rfl) (by omega) (.plain rfl) .here (by rw [Nat.zero_add];exact hcut) (by rw [List.length_append,rowE_len];omega)) ?_;refine aops_nil ?_;refine asr ?_;refine sM ?_;refine sM ?_;refine st_p (fun _=>by exact y_sliceArrHi (.imp (.plain rfl) AV.Imp.vec_arr) (.plain rfl) (h:=(Dg.cmpU L (k+m)).length) rfl (by omega)) rfl ?_;refine sA ?_;refine aops_nil ?_;refine awp_ret ?_;exact retG (.inr rfl) (.cons (.tmp rfl) .nil) (VShift.trans (VShift.of1 (AV.Imp.refl _) (.refl _)) (VShift.freezeR (sz:=2) (xs:=(Dg.cmpU L (k+m)).map encEd) (pad:=r) (by rw [List.length_map]) (by intro x hx;obtain⟨b,_,rfl⟩:=List.mem_map.1 hx;rfl) (.cons .here (.nil _)))) ⟨by rw [hkm],rfl⟩
     ·simp only [nf] at h3;have hnd: ¬ L.getD k default=L.getD (k - 1) default:=fun e=>by rw [e] at h3;simp at h3
      refine awp_skip ?_;refine awp_region ?_;refine sM ?_;refine sY ?_ (hb:=by omega);refine sA ?_;refine aops_nil ?_;refine⟨k+1,⟨⟨by omega,by omega⟩,by rw [Dg.cmpU_f (fun h=>hnd h.2),hinv,←Dg.take_getD (by omega)]⟩,by omega,?_⟩;exact Weak.of2 (by (repeat (first|exact .nil _|refine .cons rfl (by exact AV.Imp.refl _) ?_));done) (by (repeat (exact .refl _));done)
    ·kernel_rfl
   ·simp only [nf] at h2;refine awp_exit ?_;refine asr ?_;refine sM ?_;refine sA ?_;refine aops_nil ?_;refine awp_ret ?_;obtain rfl:k=L.length:=by omega
    exact retG (.inr rfl) (.cons (.tmp rfl) .nil) (VShift.trans (VShift.of1 AV.Imp.vec_arr (.refl _)) (VShift.freezeR (sz:=2) (xs:=L.map encEd) (pad:=pad) (by rw [List.length_map]) (by intro x hx;obtain⟨b,_,rfl⟩:=List.mem_map.1 hx;rfl) (.cons .here (.nil _)))) ⟨by rw [hinv,List.take_length],rfl⟩
end Go.Proofs
set_option maxRecDepth 10000
namespace Go.Proofs
open Go.Aw Wl Pn
open Go.Shelf
def Tryz.laysF_ren:Go.Shelf.Ren:=⟨fun|6=>51|15=>81|14=>80|28=>117|29=>118|20=>109|21=>110|22=>111|23=>112|24=>113|25=>114|26=>115|27=>116|46=>156|47=>157|48=>158|49=>159|50=>160|57=>173|n=>n,fun|22=>98|24=>100|25=>103|3=>3|39=>139|0=>0|53=>172|55=>174|4=>4|46=>165|45=>164|50=>169|5=>5|9=>9|66=>198|70=>179|76=>218|77=>215|n=>n,fun|n=>n⟩
theorem Tryz.laysF:Go.Proofs.SlLaysF0.n6 Tryz.prog Tryz.laysF_ren where
  mixed:=by kernel_rfl
  f6:=⟨Tryz.f51.name,by decide,Tryz.func51.trans (congrArg some (by kernel_rfl))⟩
  f14:=⟨Tryz.f80.name,by decide,Tryz.func80.trans (congrArg some (by kernel_rfl))⟩
  f15:=Tryz.func81.trans (congrArg some (by kernel_rfl))
  f20:=⟨Tryz.f109.name,by decide,Tryz.func109.trans (congrArg some (by kernel_rfl))⟩
  f21:=⟨Tryz.f110.name,by decide,Tryz.func110.trans (congrArg some (by kernel_rfl))⟩
  f22:=⟨Tryz.f111.name,by decide,Tryz.func111.trans (congrArg some (by kernel_rfl))⟩
  f23:=⟨Tryz.f112.name,by decide,Tryz.func112.trans (congrArg some (by kernel_rfl))⟩
  f24:=⟨Tryz.f113.name,by decide,Tryz.func113.trans (congrArg some (by kernel_rfl))⟩
  f25:=⟨Tryz.f114.name,by decide,Tryz.func114.trans (congrArg some (by kernel_rfl))⟩
  f26:=⟨Tryz.f115.name,by decide,Tryz.func115.trans (congrArg some (by kernel_rfl))⟩
  f27:=⟨Tryz.f116.name,by decide,Tryz.func116.trans (congrArg some (by kernel_rfl))⟩
  f28:=Tryz.func117.trans (congrArg some (by kernel_rfl))
  f29:=Tryz.func118.trans (congrArg some (by kernel_rfl))
  f46:=⟨Tryz.f156.name,by decide,Tryz.func156.trans (congrArg some (by kernel_rfl))⟩
  f47:=Tryz.func157.trans (congrArg some (by kernel_rfl))
  f48:=Tryz.func158.trans (congrArg some (by kernel_rfl))
  f49:=⟨Tryz.f159.name,by decide,Tryz.func159.trans (congrArg some (by kernel_rfl))⟩
  f50:=⟨Tryz.f160.name,by decide,Tryz.func160.trans (congrArg some (by kernel_rfl))⟩
  f57:=⟨Tryz.f173.name,by decide,Tryz.func173.trans (congrArg some (by kernel_rfl))⟩
  t0:=Tryz.underlying0
  a0:=Tryz.isAgg0
  z0:=Tryz.sizeOf0
  v0:=Tryz.zeroValue0
  t3:=Tryz.underlying3
  a3:=Tryz.isAgg3
  z3:=Tryz.sizeOf3
  v3:=Tryz.zeroValue3
  t4:=Tryz.underlying4
  a4:=Tryz.isAgg4
  z4:=Tryz.sizeOf4
  v4:=Tryz.zeroValue4
  t5:=Tryz.underlying5
  a5:=Tryz.isAgg5
  z5:=Tryz.sizeOf5
  v5:=Tryz.zeroValue5
  t9:=Tryz.underlying9
  a9:=Tryz.isAgg9
  z9:=Tryz.sizeOf9
  v9:=Tryz.zeroValue9
  t22:=Tryz.underlying98
  a22:=Tryz.isAgg98
  z22:=Tryz.sizeOf98
  v22:=Tryz.zeroValue98
  t25:=Tryz.underlying103
  a25:=Tryz.isAgg103
  z25:=Tryz.sizeOf103
  v25:=Tryz.zeroValue103
  t39:=Tryz.underlying139
  a39:=Tryz.isAgg139
  z39:=Tryz.sizeOf139
  v39:=Tryz.zeroValue139
  t45:=Tryz.underlying164
  a45:=Tryz.isAgg164
  z45:=Tryz.sizeOf164
  v45:=Tryz.zeroValue164
  t46:=Tryz.underlying165
  a46:=Tryz.isAgg165
  z46:=Tryz.sizeOf165
  v46:=Tryz.zeroValue165
  t50:=Tryz.underlying169
  a50:=Tryz.isAgg169
  z50:=Tryz.sizeOf169
  v50:=Tryz.zeroValue169
  t53:=Tryz.underlying172
  a53:=Tryz.isAgg172
  z53:=Tryz.sizeOf172
  v53:=Tryz.zeroValue172
  t55:=Tryz.underlying174
  a55:=Tryz.isAgg174
  z55:=Tryz.sizeOf174
  v55:=Tryz.zeroValue174
  t66:=Tryz.underlying198
  a66:=Tryz.isAgg198
  z66:=Tryz.sizeOf198
  v66:=Tryz.zeroValue198
  t70:=Tryz.underlying179
  a70:=Tryz.isAgg179
  z70:=Tryz.sizeOf179
  v70:=Tryz.zeroValue179
  t76:=Tryz.underlying218
  a76:=Tryz.isAgg218
  z76:=Tryz.sizeOf218
  v76:=Tryz.zeroValue218
  t77:=Tryz.underlying215
  a77:=Tryz.isAgg215
  z77:=Tryz.sizeOf215
  v77:=Tryz.zeroValue215
theorem isnan_c (x:Int) :ACalls Tryz.prog 82 [(AV.int x)] [] (fun v st=>v=(AV.bool (false))∧st=[]):=by
  refine acalls_body Tryz.func82 (by kernel_rfl) rfl Tryz.ntmps82 (le_ rfl) ?_;rw [Tryz.results82];refine asr ?_;refine sA ?_;refine aops_nil ?_;refine asr ?_;refine sM ?_;refine sM ?_;refine sR ?_;refine sA ?_;refine aops_nil ?_;refine awp_ret ?_;refine retG (.inr rfl) (.cons (.tmp rfl) .nil) (VShift.of1 (AV.Imp.refl _) (.nil _)) ⟨congrArg (fun x:(Bool)=>(AV.bool x)) (show _=(false) from ?_),rfl⟩;simp
theorem cmpI_c (a b:Int) :ACalls Tryz.prog 54 [(AV.int a),(AV.int b)] [] (fun v st=>v=(AV.int (Dg.cmpI a b))∧st=[]):=by
  refine acalls_body Tryz.func54 (by kernel_rfl) rfl Tryz.ntmps54 (le_ rfl) ?_;rw [Tryz.results54];refine asr ?_;refine sA ?_;refine aops_nil ?_;refine asr ?_;refine sM ?_;refine aops_call (blt_lt rfl) (.plain rfl) (.cons (.plain rfl) .nil) (ACalls.here (isnan_c _) ?_);refine sA ?_;refine aops_nil ?_;refine asr ?_;refine sM ?_;refine aops_call (blt_lt rfl) (.plain rfl) (.cons (.plain rfl) .nil) (ACalls.here (isnan_c _) ?_);refine sA ?_;refine aops_nil ?_;refine awp_seq ?_;refine asr ?_;refine sM ?_;refine aops_nil ?_;refine awp_cond rfl (fun h1=> ?_) (fun h1=> ?_)
  ·simp at h1
  ·simp only [nf] at h1;refine awp_skip ?_;refine awp_seq ?_;refine asr ?_;refine sM ?_;refine aops_nil ?_;refine awp_cond rfl (fun h2=> ?_) (fun h2=> ?_)
   ·simp at h2
   ·simp only [nf] at h2;refine awp_skip ?_;refine awp_seq ?_;refine asr ?_;refine sM ?_;refine sM ?_;refine sS ?_;refine aops_nil ?_;refine awp_cond rfl (fun h3=> ?_) (fun h3=> ?_)
    ·simp only [nf] at h3;refine asr ?_;refine sA ?_;refine aops_nil ?_;refine awp_ret ?_;refine retG (.inr rfl) (.cons (.tmp rfl) .nil) (VShift.of1 (AV.Imp.refl _) (.nil _)) ⟨congrArg (fun x:(Int)=>(AV.int x)) (show _=(Dg.cmpI a b) from ?_),rfl⟩;unfold Dg.cmpI;rw [if_pos (by assumption)]
    ·simp only [nf] at h3;refine awp_skip ?_;refine awp_seq ?_;refine asr ?_;refine sM ?_;refine sM ?_;refine sG ?_;refine aops_nil ?_;refine awp_cond rfl (fun h4=> ?_) (fun h4=> ?_)
     ·simp only [nf] at h4;refine asr ?_;refine sA ?_;refine aops_nil ?_;refine awp_ret ?_;refine retG (.inr rfl) (.cons (.tmp rfl) .nil) (VShift.of1 (AV.Imp.refl _) (.nil _)) ⟨congrArg (fun x:(Int)=>(AV.int x)) (show _=(Dg.cmpI a b) from ?_),rfl⟩;unfold Dg.cmpI;rw [if_neg (by assumption),if_pos (by assumption)]
     ·simp only [nf] at h4;refine awp_skip ?_;refine asr ?_;refine sA ?_;refine aops_nil ?_;refine awp_ret ?_;refine retG (.inr rfl) (.cons (.tmp rfl) .nil) (VShift.of1 (AV.Imp.refl _) (.nil _)) ⟨congrArg (fun x:(Int)=>(AV.int x)) (show _=(Dg.cmpI a b) from ?_),rfl⟩;unfold Dg.cmpI;rw [if_neg (by assumption),if_neg (by assumption)]
theorem orI_c (l:List Int) (hl:l.length≤1000):ACalls Tryz.prog 53 [(AV.sl 1 (List.map Go.Aw.encI l))] [] (fun v st=>v=(AV.int (Dg.orL l))∧st=[]):=by
  refine acalls_body Tryz.func53 (by kernel_rfl) rfl Tryz.ntmps53 (le_ rfl) ?_;rw [Tryz.results53];refine asr ?_;refine sA ?_;refine aops_nil ?_;refine asr ?_;refine sA ?_;refine aops_nil ?_;refine awp_seq ?_;refine asr ?_;refine sM ?_;refine sN ?_;refine sM ?_;refine aops_nil ?_;refine awp_block ?_;refine awp_loop2 (X:=Nat) [3,6,7] (.cons rfl (.cons rfl (.cons rfl .nil))) (fun σ x=>((8,.int (x:Int)):Nat×AV)::σ) (fun R x=>R) (fun x=>x≤l.length∧(∀ i (h:i<l.length),i<x→l[i]=0)) (fun x=>l.length - x) 0 (by exact Weak.of2 (by (repeat (first|exact .nil _|refine .cons rfl (by exact AV.Imp.refl _) ?_));done) (by (repeat (exact .refl _));done)) ⟨Nat.zero_le _,by omega⟩ ?_;rintro k ⟨hk,hinv⟩;refine asr ?_;refine sS ?_;refine aops_nil ?_;refine awp_seq ?_;refine awp_cond rfl (fun h1=> ?_) (fun h1=> ?_)
  ·simp only [nf] at h1;refine awp_skip ?_;refine awp_seq ?_;refine awp_block ?_;refine asr ?_;refine st_p (fun _=>by exact y_indexMap (.plain rfl) (.plain rfl) rfl (by refine⟨?_,?_⟩;(omega);rfl)) rfl ?_;refine sU ?_;refine sA ?_;refine aops_nil ?_;refine asr ?_;refine sM ?_;refine sM ?_;refine sR ?_;refine aops_nil ?_;refine awp_cond rfl (fun h2=> ?_) (fun h2=> ?_)
   ·simp only [nf] at h2;refine asr ?_;refine sM ?_;refine sA ?_;refine aops_nil ?_;refine awp_ret ?_;refine retG (.inr rfl) (.cons (.tmp rfl) .nil) (VShift.of1 (AV.Imp.refl _) (.nil _)) ⟨congrArg (fun x:(Int)=>(AV.int x)) (show _=(Dg.orL l) from ?_),rfl⟩;rw [Dg.orL_at (by assumption) (fun i hi hik=>hinv i hi hik) (by omega)]
   ·simp only [nf] at h2;refine awp_skip ?_;refine awp_region ?_;refine sY ?_ (hb:=by omega);refine sM ?_;refine aops_nil ?_;refine⟨k+1,?_,?_,Weak.of2 (by (repeat (first|exact .nil _|refine .cons rfl (by exact AV.Imp.refl _) ?_));done) (by (repeat (exact .refl _));done)⟩
    ·refine⟨by omega,?_⟩;intro i hi hik;by_cases e9:i=k
     ·subst e9;omega
     ·exact hinv i hi (by omega)
    ·omega
  ·simp only [nf] at h1;refine awp_exit ?_;refine asr ?_;refine sM ?_;refine sA ?_;refine aops_nil ?_;refine awp_ret ?_;refine retG (.inr rfl) (.cons (.tmp rfl) .nil) (VShift.of1 (AV.Imp.refl _) (.nil _)) ⟨congrArg (fun x:(Int)=>(AV.int x)) (show _=(Dg.orL l) from ?_),rfl⟩;rw [Dg.orL_no (fun i hi=>hinv i hi (by omega))]
theorem ord1_c (x y:Dg.Ed) :ACalls Tryz.prog 52 [(AV.agg (encEd x)),(AV.agg (encEd y))] [] (fun v st=>v=(AV.int (Dg.cmpE x y))∧st=[]):=by
  refine acalls_body Tryz.func52 (by kernel_rfl) rfl Tryz.ntmps52 (le_ rfl) ?_;rw [Tryz.results52];refine asr ?_;refine sB fun n1=> ?_;refine sB fun n2=> ?_;refine sA ?_;refine aops_nil ?_;refine awp_seq ?_;refine awp_any0 (ks:=[.free,.free,.free,.free,.free,.free,.free,.free,.free,.free,.free,.free,.free]) (by kernel_rfl) (fun K=> ?_) ?_
  ·refine rF ?_;refine rL k1 ?_;refine rF ?_;refine rL .here ?_;refine dr_p (fun _=>by exact y_call (.plain rfl) (.cons (.plain rfl) (.cons (.plain rfl) .nil)) (ACalls.pure (cmpI_c x.u y.u))) rfl ?_;refine rF ?_;refine rL k1 ?_;refine rF ?_;refine rL .here ?_;refine dr_p (fun _=>by exact y_call (.plain rfl) (.cons (.plain rfl) (.cons (.plain rfl) .nil)) (ACalls.pure (cmpI_c x.v y.v))) rfl ?_;refine dr_p (fun _=>by exact y_buildSlice (.cons (.plain rfl) inferInstance (by rfl) (.cons (.plain rfl) inferInstance (by rfl) .nil)) rfl (le_ rfl)) rfl ?_;refine dr_p (fun _=>by exact y_call (.plain rfl) (.cons (.imp (.plain rfl) (Sl.imp (enc:=Go.Aw.encI))) .nil) (ACalls.pure (orI_c [Dg.cmpI x.u y.u,Dg.cmpI x.v y.v] (by simp)))) rfl ?_;refine rA ?_;refine dr_nil ⟨rfl,?_⟩;refine awp_ret ?_;refine retG (.inr rfl) (.cons (.tmp rfl) .nil) (VShift.of1 (AV.Imp.refl _) (.nil _)) ⟨congrArg (fun x:(Int)=>(AV.int x)) (show _=(Dg.cmpE x y) from ?_),rfl⟩;rw [Dg.cmpE_or]
  ·kernel_rfl
theorem ltE (x y:Dg.Ed):Go.Proofs.ltOf Dg.cmpE x y=decide (x.u<y.u∨(x.u=y.u∧x.v<y.v)):=by
  unfold Go.Proofs.ltOf;exact decide_eq_decide.2 (Dg.cmpE_lt x y)
theorem swoE:Go.Sort.SWO (Go.Proofs.ltOf Dg.cmpE) where
  irrefl x:=by rw [ltE];simp
  trans x y z h1 h2:=by rw [ltE] at*;simp at*;omega
  ntrans x y z h1 h2:=by rw [ltE] at*;simp at*;omega
def srtE (l:List Dg.Ed):List Dg.Ed:=l.mergeSort fun x y=> !(Go.Proofs.ltOf Dg.cmpE) y x
theorem srtE_len (l:List Dg.Ed):(srtE l).length=l.length:=List.length_mergeSort l
theorem sortE_c (t:Option Nat) (l:List Dg.Ed) (hl:l.length≤1000000):ACalls Tryz.prog 51 [.vec 2 t l.length,.clo 52 []] [.vec t (rowE l)] (fun v st=>v= .tup []∧st=[.vec t (rowE (Dg.srt l))]):=by
  have h:=ACalls.sortF (P:=Tryz.prog) (f:=51) (by kernel_rfl) edV 2 (fun _=>rfl) (fun x v hv=>by simp [edV] at hv;rcases hv with rfl|rfl<;>rfl) 52 l (srtE l) (srtE_len l)
   (fun blk off cap w hH hb=>AnyQ.slices_SortFunc_total Tryz.laysF 2 Tryz.isAgg100 Tryz.sizeOf100 edV (fun _=>rfl) (fun x v hv=>by simp [edV] at hv;rcases hv with rfl|rfl<;>rfl) Dg.cmpE swoE 52 #[] blk off cap l.toArray w
    (enters_of Tryz.func52 (by kernel_rfl) rfl) (fun m os dk hs x y=>ACalls.grown (ord1_c x y) _ [.agg (edV x).toArray,.agg (edV y).toArray] ⟨AV.agg_holds.2 ⟨edV x,rfl,⟨AV.val_self _,AV.val_self _,trivial⟩,fun u hu=>by simp [edV] at hu;rcases hu with rfl|rfl<;>rfl⟩,AV.agg_holds.2 ⟨edV y,rfl,⟨AV.val_self _,AV.val_self _,trivial⟩,fun u hu=>by simp [edV] at hu;rcases hu with rfl|rfl<;>rfl⟩,trivial⟩) hH hb (by simp;omega)
    (fun x y h1 h2=>by rw [ltE] at h1 h2;simp at h1 h2;exact Dg.ed_eq (by omega)))
   (fun a cap w=>AnyF.slices_SortFunc_none Tryz.laysF a cap _ w) t
  have e:srtE l=Dg.srt l:=by unfold srtE Dg.srt;congr 1;funext x y;rw [ltE]
  rw [flatV_row,flatV_row,e] at h;exact h
end Go.Proofs
namespace Pn
def edP (y:Pp):Dg.Ed:=⟨y.from_,y.to_⟩
def edg (z:Pl):List Dg.Ed:=z.pipes.map edP
def edS (z:Pl):List Dg.Ed:=Dg.cmpU (Dg.srt (edg z)) (Dg.srt (edg z)).length
def pord (z:Pl):List Int:=Dg.orderL z.stages.length (edS z)
theorem edg_len (z:Pl):(edg z).length=z.pipes.length:=List.length_map ..
theorem edg_take {z:Pl} {k:Nat} (hk:k<z.pipes.length):(edg z).take (k+1)=(edg z).take k++[edP z.pipes[k]]:=by
  rw [List.take_succ_eq_append_getElem (by rw [edg_len];exact hk)];unfold edg;rw [List.getElem_map]
end Pn
namespace Dg
theorem cmpU_le (l:List Ed): ∀ k,(cmpU l k).length≤k
  |0=>Nat.le_refl _
  |k+1=>by
   have:=cmpU_le l k;rw [cmpU];split
   ·omega
   ·rw [List.length_append,List.length_singleton];omega
end Dg
set_option maxRecDepth 10000
namespace Go.Proofs
open Go.Aw Wl Pn
theorem compN_c:ACalls Tryz.prog 56 [.vec 2 none 0] [.vec none (rowE [])] (fun v st=>v= .sl 2 (([]:List Dg.Ed).map encEd)∧st=[]):=by
  refine acalls_body Tryz.func56 (by kernel_rfl) rfl Tryz.ntmps56 (le_ rfl) ?_;rw [Tryz.results56];refine asr ?_;refine sA ?_;refine aops_nil ?_;refine awp_seq ?_;refine asr ?_;refine sM ?_;refine st_p (fun _=>by exact y_vlen (.plain rfl)) rfl ?_;refine sS ?_;refine aops_nil ?_;refine awp_cond rfl (fun h1=> ?_) (fun h1=> ?_)
  ·simp only [nf] at h1;refine asr ?_;refine sM ?_;refine sA ?_;refine aops_nil ?_;refine awp_ret ?_;exact retG (.inr rfl) (.cons (.tmp rfl) .nil) (VShift.freezeV (sz:=2) (xs:=[]) rfl (by intro x hx;cases hx) (.cons .here (.nil _))) ⟨rfl,rfl⟩
  ·simp at h1
theorem compA_c (t:Option Nat) (L:List Dg.Ed) (hL:L.length≤1000000) (h0:L.length=0→t=none) (h1:L.length≠0→ ∃ j,t=some j):ACalls Tryz.prog 56 [.vec 2 t L.length] [.vec t (rowE L)] (fun v st=>v= .sl 2 ((Dg.cmpU L L.length).map encEd)∧st=[]):=by
  rcases Classical.em (L.length=0) with h|h
  ·obtain rfl:=h0 h;obtain rfl:L=[]:=List.eq_nil_of_length_eq_zero h;exact compN_c
  ·obtain⟨j,rfl⟩:=h1 h;exact compE_c j L hL
theorem pord_c (z:Pn.Pl) (hz:z.stages.length≤1000000∧z.pipes.length≤1000):ACalls Tryz.prog 27 [(AV.agg (encPl z))] [] (fun v st=>v=(AV.sl 1 (List.map Go.Aw.encI (Pn.pord z)))∧st=[]):=by
  refine acalls_body Tryz.func27 (by kernel_rfl) rfl Tryz.ntmps27 (le_ rfl) ?_;rw [Tryz.results27];refine asr ?_;refine sB fun n1=> ?_;refine sA ?_;refine aops_nil ?_;refine asr ?_;refine sA ?_;refine aops_nil ?_;refine awp_seq ?_;refine asr ?_;refine sF ?_;refine sL .here ?_;refine sN ?_;refine sM ?_;refine aops_nil ?_;refine awp_block ?_;refine awp_loop2 (X:=Nat×Option Nat) [1,9,10] (.cons rfl (.cons rfl (.cons rfl .nil))) (fun σ x=>((3,.vec 2 x.2 x.1):Nat×AV)::((11,.int (x.1:Int)):Nat×AV)::σ) (fun R x=> .vec x.2 (rowE ((Pn.edg z).take x.1)):: .cells n1 (encPl z)::R) (fun x=>x.1≤z.pipes.length∧(x.1=0→x.2=none)∧(x.1≠0→ ∃ j,x.2=some j)) (fun x=>z.pipes.length - x.1) (0,none) (by exact Weak.trans (Weak.vec0 []) (Weak.of2 (by (repeat (first|exact .nil _|refine .cons rfl (by first|exact AV.Imp.refl _|exact AV.Imp.nil_vec) ?_));done) (by (repeat (exact .refl _));done))) ⟨Nat.zero_le _,fun _=>rfl,fun h=>absurd rfl h⟩ ?_;rintro⟨k,tok⟩ ⟨hk,ht0,ht1⟩;simp only at hk ht0 ht1;dsimp only;refine asr ?_;refine sS ?_;refine aops_nil ?_;refine awp_seq ?_;refine awp_cond rfl (fun h1=> ?_) (fun h1=> ?_)
  ·simp only [nf] at h1;refine awp_skip ?_;refine awp_seq ?_;refine awp_block ?_;refine asr ?_;refine st_p (fun _=>by exact y_indexMap (.plain rfl) (.plain rfl) rfl (by refine⟨?_,?_⟩;(omega);rfl)) rfl ?_;refine sV ?_;refine sC fun n5=> ?_;refine st_s (fun _=>by exact y_storeW (by rfl) rfl (.plain rfl) (.plain rfl) (by exact .here) (by rfl)) ?_;refine aops_nil ?_;refine awp_region ?_;refine sM ?_;refine sF ?_;refine sL .here ?_;refine sF ?_;refine sL .here ?_;refine st_p (fun _=>by exact y_build (out:=[_,_]) (.cons (.plain rfl) inferInstance rfl (.cons (.plain rfl) inferInstance rfl .nil)) rfl rfl) rfl ?_;refine st_p (fun _=>by exact y_buildSlice (.cons (.plain rfl) inferInstance (by rfl) .nil) rfl (le_ rfl)) rfl ?_;refine st_n (fun _=>by exact y_vappend (xs:=rowE ((Pn.edg z).take k)) (by rfl) (by rfl) (.plain rfl) (by rw [rowE_len,List.length_take,Pn.edg_len,Nat.min_eq_left (by omega)]) (.plain rfl) (by simp) (by simp;omega) (by exact k1)) rfl fun nv=> ?_;refine sA ?_;refine aops_nil ?_;refine awp_region ?_;refine sY ?_ (hb:=by omega);refine sM ?_;refine aops_nil ?_;refine⟨(k+1,some nv),⟨by show k+1≤_;omega,fun h=>absurd h (by show k+1≠0;omega),fun _=>⟨nv,rfl⟩⟩,by show z.pipes.length - (k+1)<z.pipes.length - k;omega,?_⟩;dsimp only;rw [Pn.edg_take (by omega),rowE_app];exact Weak.of2 (by (repeat (first|exact .nil _|refine .cons rfl (by exact AV.Imp.refl _) ?_));done) (by (repeat (first|exact .nil _|apply ItLe2.cons (by first|exact .here|exact k1)));done)
  ·simp only [nf] at h1;refine awp_exit ?_;refine awp_seq ?_;obtain rfl:k=z.pipes.length:=by omega
   have hel:=Pn.edg_len z;have hsort:=sortE_c tok (Pn.edg z) (by omega);have hcomp:=compA_c tok (Dg.srt (Pn.edg z)) (by rw [Dg.srt_len];omega) (fun h=>ht0 (by rw [Dg.srt_len] at h;omega)) (fun h=>ht1 (by rw [Dg.srt_len] at h;omega));rw [Dg.srt_len,hel,show Dg.cmpU (Dg.srt (Pn.edg z)) z.pipes.length=Pn.edS z by unfold Pn.edS;rw [Dg.srt_len,hel]] at hcomp;rw [hel] at hsort;rw [←hel,List.take_length];rw [hel];refine awp_region ?_;refine sM ?_;refine aops_call (blt_lt rfl) (.plain rfl) (.cons (.plain rfl) (.cons (.imp (.plain rfl) Fun.imp) .nil)) (ACalls.upd (its:=[.vec tok _]) (by apply Takes.cons (by exact .here);exact .nil _) hsort ?_);refine aops_nil ?_;refine awp_seq ?_;refine awp_anyT (ks:=[.free,.free,.free,.free,.write,.free,.free,.free,.free,.free,.free]) [.vec _ _] (by apply Takes.cons (by exact .here);exact .nil _) (by kernel_rfl) (fun K=> ?_) ?_
   ·refine rF ?_;refine rL .here ?_;refine rN ?_;refine rM ?_;refine dr_n (v:=fun _=>_) (st':=fun _=>_) (fun _=>by exact y_call (.plain rfl) (.cons (.plain rfl) .nil) (hcomp)) rfl fun _=> ?_;refine dr_p (fun _=>by exact y_call (.plain rfl) (.cons (.plain rfl) (.cons (.imp (.plain rfl) (Sl.imp (enc:=encEd))) .nil)) (ACalls.pure (order_c z.stages.length (Pn.edS z) (by have:=Dg.cmpU_le (Dg.srt (Pn.edg z)) (Dg.srt (Pn.edg z)).length;rw [Dg.srt_len,Pn.edg_len] at this;show (Dg.cmpU _ _).length≤_;rw [Dg.srt_len,Pn.edg_len];omega)))) rfl ?_;refine rM ?_;refine rE ?_;refine rE ?_;refine rA ?_;refine rA ?_;refine dr_nil ?_;refine asr ?_;refine sM ?_;refine sA ?_;refine aops_nil ?_;refine awp_ret ?_;refine retG (.inr rfl) (.cons (.tmp rfl) .nil) (VShift.of1 (Sl.imp (enc:=Go.Aw.encI)) (.nil _)) ⟨congrArg (fun x:(List (Int))=>(AV.sl 1 (List.map Go.Aw.encI x))) (show _=(Pn.pord z) from ?_),rfl⟩;rfl
   ·kernel_rfl
end Go.Proofs
namespace Pn
def insK (z:Pl) (T:Int→List Int) (i:Int) (n:Nat):List (List Int):=(List.range n).map fun (m:Nat)=>T (inP z i (m:Int))
def ins (z:Pl) (T:Int→List Int) (i:Int):List (List Int):=insK z T i (sinp (stg z i)).toNat
def putK (z:Pl) (T:Int→List Int) (i:Int) (out:List (List Int)):Nat→(Int→List Int)
  |0=>T
  |n+1=>Dg.upd (putK z T i out n) (outP z i (n:Int)) (out.getD n default)
def sent (z:Pl) (T:Int→List Int) (i:Int):List (List Int):=(smean (stg z i) (ins z T i)).1
def pmS (z:Pl) (x:(Int→List Int)×(Int→List Int)) (i:Int):(Int→List Int)×(Int→List Int):=
  (putK z x.1 i (sent z x.1 i) (sent z x.1 i).length,if (stg z i).kind=10 then Dg.upd x.2 i ((ins z x.1 i).getD 0 default) else x.2)
def pmK (z:Pl) (k:Nat):(Int→List Int)×(Int→List Int):=((pord z).take k).foldl (pmS z) (fun _=>[],fun _=>[])
def pmE (z:Pl) (k:Nat):Int:=(smean (stg z ((pord z).getD k default)) (ins z (pmK z k).1 ((pord z).getD k default))).2
def pmErr (z:Pl):Int:=fst0 ((List.range (pord z).length).map (pmE z))
def snkL (z:Pl) (K:Int→List Int) (n:Nat):List (List Int):=((List.range n).filter fun (i:Nat)=>decide ((stg z (i:Int)).kind=10)).map fun (i:Nat)=>K (i:Int)
def pmean (z:Pl):List (List Int)×Int:=
  if pchk z≠0 then ([],pchk z) else if pmErr z≠0 then ([],pmErr z) else (snkL z (pmK z (pord z).length).2 z.stages.length,0)
theorem insK_succ (z:Pl) (T:Int→List Int) (i:Int) (n:Nat):insK z T i (n+1)=insK z T i n++[T (inP z i (n:Int))]:=by unfold insK;rw [List.range_succ,List.map_append];rfl
theorem insK_len (z:Pl) (T:Int→List Int) (i:Int) (n:Nat):(insK z T i n).length=n:=by unfold insK;rw [List.length_map,List.length_range]
theorem snkL_t {z:Pl} {K:Int→List Int} {n:Nat} (h:(stg z (n:Int)).kind=10):snkL z K n++[K (n:Int)]=snkL z K (n+1):=by
  unfold snkL;rw [List.range_succ,List.filter_append,List.map_append];simp [h]
theorem snkL_f {z:Pl} {K:Int→List Int} {n:Nat} (h: ¬ (stg z (n:Int)).kind=10):snkL z K n=snkL z K (n+1):=by
  unfold snkL;rw [List.range_succ,List.filter_append,List.map_append];simp [h]
theorem snkL_len (z:Pl) (K:Int→List Int) (n:Nat):(snkL z K n).length≤n:=by
  unfold snkL;rw [List.length_map];exact Nat.le_trans (List.length_filter_le _ _) (by rw [List.length_range];exact Nat.le_refl _)
theorem pmK_succ {z:Pl} {k:Nat} (h:k<(pord z).length):pmK z (k+1)=pmS z (pmK z k) (pord z)[k]:=by
  unfold pmK;rw [List.take_succ_eq_append_getElem h,List.foldl_append];rfl
theorem smean_len {y:Sg} {l:List (List Int)} (h:(smean y l).2=0) (hr:y.kind=5→y.size≤4):(smean y l).1.length=(hout y.kind).toNat:=by
  have key:sgchk y=0→lchks l=0→(swhole y l (rnew y S0)).out.length=(hout y.kind).toNat:=by
   intro hc hl0;have hsg:=sgchk_ok hc;have hl:=fun a ha=>lchk_ok (lchks_mem hl0 a ha);have h1:=Wk.new hsg;have hg: ∀ v∈l.getD 0 [],num v=true:=by
    intro v hv;cases l with
    |nil=>cases hv
    |cons a l=>exact (hl a (List.mem_cons_self ..)).2 v hv
   unfold swhole;split
   ·simpa using h1.out
   split
   ·simpa using h1.out
   split
   ·rw [(rzipK_s y _ _ _ _).2.1];exact h1.out
   rename_i h1' h2' h3';have h4:=h1.all hsg hr ⟨h1',h2',h3'⟩ (l.getD 0 []) hg (l.getD 0 []).length (Nat.le_refl _);rw [List.take_length] at h4;rw [rfin_len];exact h4.out
  unfold smean at h ⊢;split at h
  ·rename_i h1;exact absurd h h1
  split at h
  ·cases h
  split at h
  ·rename_i h1;exact absurd h h1
  split at h
  ·rename_i h1;exact absurd h h1
  split at h
  ·cases h
  rename_i a1 a2 a3 a4 a5;rw [if_neg a1,if_neg a2,if_neg a3,if_neg a4,if_neg a5];exact key (Classical.not_not.1 a1) (Classical.not_not.1 a3)
theorem pord_bd {z:Pl} (h: ∀ u∈pord z,0≤u∧u<z.stages.length) {k:Nat} (hk:k<(pord z).length):0≤(pord z)[k]∧(pord z)[k]<z.stages.length:=h _ (List.getElem_mem hk)
theorem orderL_bd {n:Int} {l:List Dg.Ed}:(∀ u∈Dg.orderL n l,0≤u∧u<n)∧(Dg.orderL n l).length≤n.toNat:=by
  rcases Classical.em (Dg.orderE n l=0) with h|h
  ·have:=Dg.order_bd h;exact⟨this.1,by omega⟩
  ·have:Dg.orderL n l=[]:=by
    rcases Classical.em (Dg.chk n l=0) with hc|hc
    ·exact (Dg.order_err hc h).2
    ·unfold Dg.orderL;rw [if_pos hc]
   rw [this];exact⟨fun u hu=>absurd hu (by simp),Nat.zero_le _⟩
end Pn
namespace Go.Aw
theorem ea_updS {m:Nat} (f:Int→List Int) {t:Int} (x:List Int) (h:0≤t∧t<m):setMany (ea m fun j=> .sl 1 ((f j).map encI)) (0+t.toNat*1) [.sl 1 (x.map encI)]=ea m (fun j=> .sl 1 ((Dg.upd f t x j).map encI)):=by
  rw [ea_set _ _ h];refine ea_congr fun j _=> ?_;unfold Dg.upd;split<;>rfl
end Go.Aw
set_option maxRecDepth 10000
namespace Go.Proofs
open Go.Aw Wl Pn
theorem pmean_c (z:Pn.Pl) (hz:z.stages.length≤1000000∧z.pipes.length≤1000000) (hr: ∀ i:Int,0≤i∧i<z.stages.length→(Pn.stg z i).kind=5→(Pn.stg z i).size≤4):ACalls Tryz.prog 14 [(AV.agg (encPl z))] [] (fun v st=>v=(AV.tup [(AV.sl 1 (List.map encLI ((Pn.pmean z).1))),(AV.int ((Pn.pmean z).2))])∧st=[]):=by
  refine acalls_body Tryz.func14 (by kernel_rfl) rfl Tryz.ntmps14 (le_ rfl) ?_;rw [Tryz.results14];refine asr ?_;refine sB fun n1=> ?_;refine sA ?_;refine sA ?_;refine aops_nil ?_;refine awp_seq ?_;refine asr ?_;refine sW .here ?_;refine aops_call (blt_lt rfl) (.plain rfl) (.cons (.imp (.plain rfl) (AV.Imp.agg (RowOf.imp (enc:=encPl)))) .nil) (ACalls.here (pchk_c z) ?_);refine sA ?_;refine aops_nil ?_;refine asr ?_;refine sM ?_;refine sR ?_;refine aops_nil ?_;refine awp_cond rfl (fun h1=> ?_) (fun h1=> ?_)
  ·simp only [nf] at h1;refine asr ?_;refine sM ?_;refine sA ?_;refine sA ?_;refine aops_nil ?_;refine awp_ret ?_;refine retG (.inr rfl) (.cons (.tmp rfl) (.cons (.tmp rfl) .nil)) (VShift.of2 (AV.Imp.tup (.cons (Sl.imp (enc:=encLI)) (.cons (AV.Imp.refl _) .nil))) (.nil _)) ⟨congrArg (fun x:(List (List Int))×(Int)=>(AV.tup [(AV.sl 1 (List.map encLI x.1)),(AV.int x.2)])) (show (_,_)=(Pn.pmean z) from ?_),rfl⟩;rw [Pn.pmean,if_pos (show Pn.pchk z≠0 by omega)];all_goals rfl
  ·simp only [nf] at h1;refine awp_skip ?_;refine awp_seq ?_;have hx:=Pn.pchk_ok.1 (show Pn.pchk z=0 by omega);have hxn:=hx.n;have hxp:=hx.np;obtain⟨hob,hol0⟩:=Pn.orderL_bd (n:=(z.stages.length:Int)) (l:=Pn.edS z);have hol:(Pn.pord z).length≤z.stages.length:=by
    show (Dg.orderL _ _).length≤_;omega
   refine awp_region ?_;refine sF ?_;refine sL .here ?_;refine sN ?_;refine st_n (fun _=>by exact y_makeArr (n:=z.pipes.length) (by rfl) (.plain rfl) (.plain rfl) rfl (by omega)) rfl fun nT=> ?_;refine sA ?_;refine aops_nil ?_;refine asr ?_;refine sF ?_;refine sL k1 ?_;refine sN ?_;refine st_n (fun _=>by exact y_makeArr (n:=z.stages.length) (by rfl) (.plain rfl) (.plain rfl) rfl (by omega)) rfl fun nK=> ?_;refine sA ?_;refine aops_nil ?_;refine awp_seq ?_;refine asr ?_;refine sW k2 ?_;refine aops_call (blt_lt rfl) (.plain rfl) (.cons (.imp (.plain rfl) (AV.Imp.agg (RowOf.imp (enc:=encPl)))) .nil) (ACalls.here (pord_c z ⟨by omega,by omega⟩) ?_);refine sN ?_;refine sM ?_;refine aops_nil ?_;refine awp_block ?_;refine awp_loop2 (X:=Nat) [1,5,6,32,33] (.cons rfl (.cons rfl (.cons rfl (.cons rfl (.cons rfl .nil))))) (fun σ x=>((34,.int (x:Int)):Nat×AV)::σ) (fun R x=> .cells n1 (encPl z):: .cells nT (ea z.pipes.length fun j=> .sl 1 (((Pn.pmK z x).1 j).map Go.Aw.encI)):: .cells nK (ea z.stages.length fun j=> .sl 1 (((Pn.pmK z x).2 j).map Go.Aw.encI))::R) (fun x=>x≤(Pn.pord z).length∧Pn.pmErr z=Pn.fst0 (((List.range (Pn.pord z).length).drop x).map (Pn.pmE z))) (fun x=>(Pn.pord z).length - x) 0 (by exact Weak.of2 (by (repeat (first|exact .nil _|refine .cons rfl (by exact AV.Imp.refl _) ?_));done) (.cons (by exact .there (.there .here)) (.cells (by exact .there .here) (by rw [ea_make];exact ea_imp fun j _=>AV.Imp.trans AV.Imp.nil_grow AV.Imp.grow_sl) (.cells (by exact .here) (by rw [ea_make];exact ea_imp fun j _=>AV.Imp.trans AV.Imp.nil_grow AV.Imp.grow_sl) (.nil _))))) ⟨Nat.zero_le _,rfl⟩ ?_;rintro k ⟨hk,herr⟩;refine asr ?_;refine sS ?_;refine aops_nil ?_;refine awp_seq ?_;refine awp_cond rfl (fun h2=> ?_) (fun h2=> ?_)
   ·simp only [nf] at h2;have hkl:k<(Pn.pord z).length:=by omega
    obtain⟨i,hi⟩: ∃ i,(Pn.pord z)[k]=i:=⟨_,rfl⟩
    have hib:0≤i∧i<z.stages.length:=by rw [←hi];exact Pn.pord_bd hob hkl
    have hsg:=hx.stg hib;have hsi:=Pn.sinp_of hsg.1;have hsb:=Pn.sio_bd (Pn.stg z i);refine awp_skip ?_;refine awp_seq ?_;refine awp_block ?_;refine asr ?_;refine st_p (fun _=>by exact y_indexMap (e:=i) (.plain rfl) (.plain rfl) rfl ⟨hkl,hi⟩) rfl ?_;refine sU ?_;refine sA ?_;refine aops_nil ?_;refine asr ?_;refine sA ?_;refine aops_nil ?_;refine awp_seq ?_;refine asr ?_;refine sF ?_;refine sL .here ?_;refine sM ?_;refine st_p (fun _=>by exact y_indexT (l:=z.stages) (q:=i) (.plain rfl) (.plain rfl) hib.1 (by omega)) rfl ?_;refine sV ?_;refine aops_call (blt_lt rfl) (.plain rfl) (.cons (.imp (.plain rfl) (AV.Imp.agg (RowOf.imp (enc:=encSg)))) .nil) (ACalls.here (sinp_c (Pn.stg z i)) ?_);refine sM ?_;refine aops_nil ?_;refine awp_block ?_;refine awp_loop2 (X:=Nat×Option Nat) [1,5,6,8,32,33,34,43] (.cons rfl (.cons rfl (.cons rfl (.cons rfl (.cons rfl (.cons rfl (.cons rfl (.cons rfl .nil)))))))) (fun σ x=>((9,.grow 1 x.2 ((Pn.insK z (Pn.pmK z k).1 i x.1).map encLI)):Nat×AV)::((44,.int (x.1:Int)):Nat×AV)::σ) (fun R x=> .cells n1 (encPl z):: .cells nT (ea z.pipes.length fun j=> .sl 1 (((Pn.pmK z k).1 j).map Go.Aw.encI)):: .cells nK (ea z.stages.length fun j=> .sl 1 (((Pn.pmK z k).2 j).map Go.Aw.encI)):: .tail x.2::R) (fun x=>x.1≤(Pn.sinp (Pn.stg z i)).toNat) (fun x=>(Pn.sinp (Pn.stg z i)).toNat - x.1) (0,none) (by exact Weak.of2 (by (repeat (first|exact .nil _|refine .cons rfl (by first|exact AV.Imp.refl _|exact AV.Imp.nil_grow) ?_));done) (by (repeat (first|exact .refl _|apply ItLe2.cons (by exact .here)|apply ItLe2.tail0));done)) (Nat.zero_le _) ?_;rintro⟨m,tok⟩ hm;simp only at hm;have hil:=Pn.insK_len z (Pn.pmK z k).1 i m;dsimp only;refine asr ?_;refine sS ?_;refine aops_nil ?_;refine awp_seq ?_;refine awp_cond rfl (fun h3=> ?_) (fun h3=> ?_)
    ·simp only [nf] at h3;obtain⟨p,hp1,hp2,-⟩:=hx.inp hib (n:=(m:Int)) ⟨by omega,by rw [←hsi];omega⟩;refine awp_skip ?_;refine awp_seq ?_;refine awp_block ?_;refine asr ?_;refine sM ?_;refine sA ?_;refine aops_nil ?_;refine awp_region ?_;refine sM ?_;refine sM ?_;refine sW .here ?_;refine sM ?_;refine sM ?_;refine aops_call (blt_lt rfl) (.plain rfl) (.cons (.imp (.plain rfl) (AV.Imp.agg (RowOf.imp (enc:=encPl)))) (.cons (.plain rfl) (.cons (.plain rfl) .nil))) (ACalls.here (inp_c z i (m:Int) (by omega)) ?_);refine st_p (fun _=>by exact y_indexArr (.plain rfl) (.plain rfl) (Int.toNat_of_nonneg (a:=Pn.inP z i (m:Int)) (by omega)).symm (by omega)) rfl ?_;refine st_p (fun _=>by exact y_load (.plain rfl) (by exact k1) (ea_get _ (by omega))) rfl ?_;refine st_p (fun _=>by exact y_buildSlice (.cons (.plain rfl) inferInstance (by rfl) .nil) rfl (le_ rfl)) rfl ?_;refine st_appendT (by rfl) (.plain rfl) (.plain rfl) (by exact k3) (by (simp;try omega)) rfl fun tA=> ?_;refine sA ?_;refine aops_nil ?_;refine awp_region ?_;refine sY ?_ (hb:=by omega);refine sM ?_;refine aops_nil ?_;refine⟨(m+1,tA),by show m+1≤_;omega,by show (Pn.sinp (Pn.stg z i)).toNat - (m+1)<(Pn.sinp (Pn.stg z i)).toNat - m;omega,?_⟩;dsimp only;exact Weak.of2 (by (repeat (first|exact .nil _|refine .cons rfl (by first|exact AV.Imp.refl _|exact AV.Imp.grow_of (by rw [Pn.insK_succ])) ?_));done) (by (repeat (first|exact .refl _|apply ItLe2.cons (by exact k1)));done)
    ·simp only [nf] at h3;obtain rfl:m=(Pn.sinp (Pn.stg z i)).toNat:=by omega
     rw [show (Pn.insK z (Pn.pmK z k).1 i (Pn.sinp (Pn.stg z i)).toNat)=(Pn.ins z (Pn.pmK z k).1 i) from rfl];refine awp_exit ?_;refine asr ?_;refine sF ?_;refine sL .here ?_;refine sM ?_;refine st_p (fun _=>by exact y_indexT (l:=z.stages) (q:=i) (.plain rfl) (.plain rfl) hib.1 (by omega)) rfl ?_;refine sV ?_;refine sM ?_;refine aops_call (blt_lt rfl) (.plain rfl) (.cons (.imp (.plain rfl) (AV.Imp.agg (RowOf.imp (enc:=encSg)))) (.cons (.imp (.plain rfl) (Sl.imp (enc:=encLI))) .nil)) (ACalls.here (smean_c (Pn.stg z i) (Pn.ins z (Pn.pmK z k).1 i) (hr i hib) (by have:=Pn.insK_len z (Pn.pmK z k).1 i (Pn.sinp (Pn.stg z i)).toNat;show (Pn.insK _ _ _ _).length≤_;omega)) ?_);refine sM ?_;refine sE ?_;refine sE ?_;refine sA ?_;refine sA ?_;refine aops_nil ?_;refine awp_seq ?_;refine asr ?_;refine sM ?_;refine sR ?_;refine aops_nil ?_;refine awp_cond rfl (fun h4=> ?_) (fun h4=> ?_)
     ·simp only [nf] at h4;refine asr ?_;refine sM ?_;refine sA ?_;refine sA ?_;refine aops_nil ?_;refine awp_ret ?_;refine retG (.inr rfl) (.cons (.tmp rfl) (.cons (.tmp rfl) .nil)) (VShift.of2 (AV.Imp.tup (.cons (Sl.imp (enc:=encLI)) (.cons (AV.Imp.refl _) .nil))) (.nil _)) ⟨congrArg (fun x:(List (List Int))×(Int)=>(AV.tup [(AV.sl 1 (List.map encLI x.1)),(AV.int x.2)])) (show (_,_)=(Pn.pmean z) from ?_),rfl⟩;have hgi:(Pn.pord z).getD k default=i:=by rw [List.getD,List.getElem?_eq_getElem hkl,Option.getD_some,hi]
      have hE:Pn.pmE z k=(Pn.smean (Pn.stg z i) (Pn.ins z (Pn.pmK z k).1 i)).2:=by unfold Pn.pmE;rw [hgi]
      have hEr:Pn.pmErr z=(Pn.smean (Pn.stg z i) (Pn.ins z (Pn.pmK z k).1 i)).2:=by rw [herr,List.drop_eq_getElem_cons (by rw [List.length_range];omega),List.map_cons,List.getElem_range,Pn.fst0,if_pos (by rw [hE];assumption),hE]
      rw [Pn.pmean,if_neg (show ¬ Pn.pchk z≠0 by omega),if_pos (by rw [hEr];assumption),hEr];all_goals rfl
     ·simp only [nf] at h4;have hsl:(Pn.sent z (Pn.pmK z k).1 i).length=(Pn.hout (Pn.stg z i).kind).toNat:=Pn.smean_len (show (Pn.smean (Pn.stg z i) (Pn.ins z (Pn.pmK z k).1 i)).2=0 by omega) (hr i hib);have hho:=(Pn.hio hsg.2.kind).2.1;refine awp_skip ?_;refine awp_seq ?_;refine asr ?_;refine sM ?_;refine sN ?_;refine sM ?_;refine aops_nil ?_;refine awp_block ?_;refine awp_loop2 (X:=Nat) [1,5,6,8,9,32,33,34,71,72] (.cons rfl (.cons rfl (.cons rfl (.cons rfl (.cons rfl (.cons rfl (.cons rfl (.cons rfl (.cons rfl (.cons rfl .nil)))))))))) (fun σ x=>((73,.int (x:Int)):Nat×AV)::σ) (fun R x=> .cells n1 (encPl z):: .cells nT (ea z.pipes.length fun j=> .sl 1 (((Pn.putK z (Pn.pmK z k).1 i (Pn.sent z (Pn.pmK z k).1 i) x) j).map Go.Aw.encI)):: .cells nK (ea z.stages.length fun j=> .sl 1 (((Pn.pmK z k).2 j).map Go.Aw.encI)):: .tail tok::R) (fun x=>x≤(Pn.sent z (Pn.pmK z k).1 i).length) (fun x=>(Pn.sent z (Pn.pmK z k).1 i).length - x) 0 (by exact Weak.of2 (by (repeat (first|exact .nil _|refine .cons rfl (by exact AV.Imp.refl _) ?_));done) (by (repeat (exact .refl _));done)) (Nat.zero_le _) ?_;rintro m hm9;refine asr ?_;refine sS ?_;refine aops_nil ?_;refine awp_seq ?_;refine awp_cond rfl (fun h5=> ?_) (fun h5=> ?_)
      ·simp only [nf] at h5;have hml:m<(Pn.sent z (Pn.pmK z k).1 i).length:=by
        show m<(Pn.smean _ _).1.length;omega
       have hgm:(Pn.sent z (Pn.pmK z k).1 i)[m]=(Pn.sent z (Pn.pmK z k).1 i).getD m default:=by rw [List.getD,List.getElem?_eq_getElem hml,Option.getD_some]
       obtain⟨p,hp1,hp2,-⟩:=hx.outp hib (n:=(m:Int)) ⟨by omega,by have:=(Pn.hio hsg.2.kind).2.1;have h9:(Pn.sent z (Pn.pmK z k).1 i).length=(Pn.hout (Pn.stg z i).kind).toNat:=hsl;omega⟩;refine awp_skip ?_;refine awp_seq ?_;refine awp_block ?_;refine asr ?_;refine sM ?_;refine st_p (fun _=>by exact y_indexMap (e:=(Pn.sent z (Pn.pmK z k).1 i).getD m default) (.plain rfl) (.plain rfl) rfl ⟨hml,hgm⟩) rfl ?_;refine sU ?_;refine sA ?_;refine sA ?_;refine aops_nil ?_;refine awp_region ?_;refine sM ?_;refine sW .here ?_;refine sM ?_;refine sM ?_;refine aops_call (blt_lt rfl) (.plain rfl) (.cons (.imp (.plain rfl) (AV.Imp.agg (RowOf.imp (enc:=encPl)))) (.cons (.plain rfl) (.cons (.plain rfl) .nil))) (ACalls.here (outp_c z i (m:Int) (by omega)) ?_);refine sM ?_;refine st_p (fun _=>by exact y_indexArr (.plain rfl) (.plain rfl) (Int.toNat_of_nonneg (a:=Pn.outP z i (m:Int)) (by omega)).symm (by omega)) rfl ?_;refine st_s (fun _=>by exact y_store (by rfl) rfl (.plain rfl) (.plain rfl) (by exact u1) (by rw [ea_len];simp;omega)) ?_;refine aops_nil ?_;rw [ea_updS _ _ (by omega)];refine awp_region ?_;refine sY ?_ (hb:=by omega);refine sM ?_;refine aops_nil ?_;refine⟨m+1,by omega,by omega,?_⟩;exact Weak.of2 (by (repeat (first|exact .nil _|refine .cons rfl (by exact AV.Imp.refl _) ?_));done) (by (repeat (exact .refl _));done)
      ·simp only [nf] at h5;obtain rfl:m=(Pn.sent z (Pn.pmK z k).1 i).length:=by
        have h9: ¬ m<(Pn.sent z (Pn.pmK z k).1 i).length:=by
         show ¬ m<(Pn.smean _ _).1.length;omega
        omega
       refine awp_exit ?_;refine asr ?_;refine sF ?_;refine sL .here ?_;refine sM ?_;refine st_p (fun _=>by exact y_indexT (l:=z.stages) (q:=i) (.plain rfl) (.plain rfl) hib.1 (by omega)) rfl ?_;refine st_p (fun _=>by exact y_fieldE (.plain rfl) (le_ rfl)) rfl ?_;refine sU ?_;refine sQ ?_;refine aops_nil ?_;refine awp_cond rfl (fun h6=> ?_) (fun h6=> ?_)
       ·simp only [nf] at h6;have hi0:0<(Pn.ins z (Pn.pmK z k).1 i).length:=by
         have:=Pn.insK_len z (Pn.pmK z k).1 i (Pn.sinp (Pn.stg z i)).toNat;have h9:Pn.hin (Pn.stg z i).kind=1:=by rw [show (Pn.stg z i).kind=10 from h6];rfl
         show 0<(Pn.insK _ _ _ _).length;omega
        have hg0:(Pn.ins z (Pn.pmK z k).1 i)[0]=(Pn.ins z (Pn.pmK z k).1 i).getD 0 default:=by rw [List.getD,List.getElem?_eq_getElem hi0,Option.getD_some]
        refine awp_region ?_;refine sM ?_;refine sM ?_;refine sM ?_;refine st_p (fun _=>by exact y_indexMap (e:=(Pn.ins z (Pn.pmK z k).1 i).getD 0 default) (.plain rfl) (.plain rfl) rfl ⟨hi0,hg0⟩) rfl ?_;refine sU ?_;refine st_p (fun _=>by exact y_indexArr (.plain rfl) (.plain rfl) (Int.toNat_of_nonneg (a:=i) hib.1).symm (by omega)) rfl ?_;refine st_s (fun _=>by exact y_store (by rfl) rfl (.plain rfl) (.plain rfl) (by exact u2) (by rw [ea_len];simp;omega)) ?_;refine aops_nil ?_;rw [ea_updS _ _ hib];refine awp_region ?_;refine sY ?_ (hb:=by omega);refine sM ?_;refine aops_nil ?_;have hgi:(Pn.pord z).getD k default=i:=by rw [List.getD,List.getElem?_eq_getElem hkl,Option.getD_some,hi]
        have hE:Pn.pmE z k=0:=by unfold Pn.pmE;rw [hgi];omega
        refine⟨k+1,⟨by omega,by rw [herr,List.drop_eq_getElem_cons (by rw [List.length_range];omega),List.map_cons,List.getElem_range,Pn.fst0,if_neg (fun h=>h hE)]⟩,by omega,?_⟩;rw [Pn.pmK_succ hkl,hi,Pn.pmS];dsimp only;rw [if_pos (by assumption)];exact Weak.of2 (by (repeat (first|exact .nil _|refine .cons rfl (by exact AV.Imp.refl _) ?_));done) (by (repeat (first|exact .nil _|apply ItLe2.cons (by exact .here)));done)
       ·simp only [nf] at h6;refine awp_skip ?_;refine awp_region ?_;refine sY ?_ (hb:=by omega);refine sM ?_;refine aops_nil ?_;have hgi:(Pn.pord z).getD k default=i:=by rw [List.getD,List.getElem?_eq_getElem hkl,Option.getD_some,hi]
        have hE:Pn.pmE z k=0:=by unfold Pn.pmE;rw [hgi];omega
        refine⟨k+1,⟨by omega,by rw [herr,List.drop_eq_getElem_cons (by rw [List.length_range];omega),List.map_cons,List.getElem_range,Pn.fst0,if_neg (fun h=>h hE)]⟩,by omega,?_⟩;rw [Pn.pmK_succ hkl,hi,Pn.pmS];dsimp only;rw [if_neg (by assumption)];exact Weak.of2 (by (repeat (first|exact .nil _|refine .cons rfl (by exact AV.Imp.refl _) ?_));done) (by (repeat (first|exact .nil _|apply ItLe2.cons (by exact .here)));done)
   ·simp only [nf] at h2;refine awp_exit ?_;refine asr ?_;refine sA ?_;refine aops_nil ?_;refine awp_seq ?_;refine asr ?_;refine sF ?_;refine sL .here ?_;refine sN ?_;refine sM ?_;refine aops_nil ?_;refine awp_block ?_;refine awp_loop2 (X:=Nat×Option Nat) [6,101,102] (.cons rfl (.cons rfl (.cons rfl .nil))) (fun σ x=>((15,.grow 1 x.2 ((Pn.snkL z (Pn.pmK z k).2 x.1).map encLI)):Nat×AV)::((103,.int (x.1:Int)):Nat×AV)::σ) (fun R x=> .cells n1 (encPl z):: .cells nT (ea z.pipes.length fun j=> .sl 1 (((Pn.pmK z k).1 j).map Go.Aw.encI)):: .cells nK (ea z.stages.length fun j=> .sl 1 (((Pn.pmK z k).2 j).map Go.Aw.encI)):: .tail x.2::R) (fun x=>x.1≤z.stages.length) (fun x=>z.stages.length - x.1) (0,none) (by exact Weak.of2 (by (repeat (first|exact .nil _|refine .cons rfl (by first|exact AV.Imp.refl _|exact AV.Imp.nil_grow) ?_));done) (by (repeat (first|exact .refl _|apply ItLe2.cons (by exact .here)|apply ItLe2.tail0));done)) (Nat.zero_le _) ?_;rintro⟨q,tok⟩ hq;simp only at hq;have hql:=Pn.snkL_len z (Pn.pmK z k).2 q;dsimp only;refine asr ?_;refine sS ?_;refine aops_nil ?_;refine awp_seq ?_;refine awp_cond rfl (fun h7=> ?_) (fun h7=> ?_)
    ·simp only [nf] at h7;have hqs:q<z.stages.length:=by omega
     have hgs:Pn.stg z (q:Int)=z.stages[q]:=by unfold Pn.stg;rw [List.getD,Int.toNat_natCast,List.getElem?_eq_getElem hqs,Option.getD_some]
     refine awp_skip ?_;refine awp_seq ?_;refine awp_block ?_;refine asr ?_;refine sM ?_;refine st_p (fun _=>by exact y_indexMap (.plain rfl) (.plain rfl) rfl (by refine⟨?_,?_⟩;(omega);rfl)) rfl ?_;refine sV ?_;refine sC fun nS=> ?_;refine sA ?_;refine st_s (fun _=>by exact y_storeW (by rfl) rfl (.plain rfl) (.plain rfl) (by exact .here) (by rfl)) ?_;refine aops_nil ?_;refine asr ?_;refine sF ?_;refine sL .here ?_;refine sQ ?_;refine aops_nil ?_;refine awp_cond rfl (fun h8=> ?_) (fun h8=> ?_)
     ·simp only [nf] at h8;refine awp_region ?_;refine sM ?_;refine sM ?_;refine sM ?_;refine st_p (fun _=>by exact y_indexArr (.plain rfl) (.plain rfl) rfl (by omega)) rfl ?_;refine st_p (fun _=>by exact y_load (.plain rfl) (by exact k3) (ea_getN (m:=z.stages.length) (t:=q) _ (by omega))) rfl ?_;refine st_p (fun _=>by exact y_buildSlice (.cons (.plain rfl) inferInstance (by rfl) .nil) rfl (le_ rfl)) rfl ?_;refine st_appendT (by rfl) (.plain rfl) (.plain rfl) (by exact k4) (by (simp;try omega)) rfl fun tB=> ?_;refine sA ?_;refine aops_nil ?_;refine awp_region ?_;refine sY ?_ (hb:=by omega);refine sM ?_;refine aops_nil ?_;refine⟨(q+1,tB),by show q+1≤_;omega,by show z.stages.length - (q+1)<z.stages.length - q;omega,?_⟩;dsimp only;exact Weak.of2 (by (repeat (first|exact .nil _|refine .cons rfl (by first|exact AV.Imp.refl _|exact AV.Imp.grow_of (Pn.snkL_t (by rw [hgs];assumption))) ?_));done) (by (repeat (first|exact .nil _|apply ItLe2.cons (by first|exact .here|exact k2)));done)
     ·simp only [nf] at h8;refine awp_skip ?_;refine awp_region ?_;refine sY ?_ (hb:=by omega);refine sM ?_;refine aops_nil ?_;refine⟨(q+1,tok),by show q+1≤_;omega,by show z.stages.length - (q+1)<z.stages.length - q;omega,?_⟩;dsimp only;exact Weak.of2 (by (repeat (first|exact .nil _|refine .cons rfl (by first|exact AV.Imp.refl _|exact AV.Imp.grow_of (Pn.snkL_f (by rw [hgs];assumption))) ?_));done) (by (repeat (first|exact .nil _|apply ItLe2.cons (by exact k1)));done)
    ·simp only [nf] at h7;refine awp_exit ?_;refine asr ?_;refine sM ?_;refine sA ?_;refine sA ?_;refine aops_nil ?_;refine awp_ret ?_;refine retG (.inr rfl) (.cons (.tmp rfl) (.cons (.tmp rfl) .nil)) (VShift.of2 (AV.Imp.tup (.cons (Sl.imp (enc:=encLI)) (.cons (AV.Imp.refl _) .nil))) (.nil _)) ⟨congrArg (fun x:(List (List Int))×(Int)=>(AV.tup [(AV.sl 1 (List.map encLI x.1)),(AV.int x.2)])) (show (_,_)=(Pn.pmean z) from ?_),rfl⟩;obtain rfl:q=z.stages.length:=by omega
     obtain rfl:k=(Pn.pord z).length:=by omega
     rw [List.drop_of_length_le (by rw [List.length_range];omega)] at herr;rw [Pn.pmean,if_neg (show ¬ Pn.pchk z≠0 by omega),if_neg (fun h=>h herr)];all_goals rfl
end Go.Proofs
namespace Pn
theorem Pv.drain {x:Pl} {s:Fs} (h:Pv x s) (b:Bool):Pv x {s with draining:=b}:=⟨h.ls,h.lc,h.lo,h.need,h.outs,h.ok,h.cap,h.closed,h.granted,h.noted⟩
theorem pbegin_of {x:Pl} {s:Fs} (hx:Pok x) (hv:Pv x s) (hd:s.draining=false):pbegin x s=({s with draining:=true},0):=by
  unfold pbegin;rw [if_neg (fun h=>h (pvalid_of hx hv)),if_neg (by rw [hd];decide)]
end Pn
namespace Pn
def need (y:Sg) (t:Ss):Int:=(sneed y t).1.getD 0 default
inductive Den (y:Sg) (acc:Int):Nat→Ss→(Int→List Int)→(Int→List Int)→Prop
  |done {t:Ss} {a b:Int→List Int} (he:t.ended=true) (ha: ∀ n,0≤n→n<hin y.kind→a n=[]) (hb: ∀ n,0≤n→n<hout y.kind→b n=[]):Den y acc 0 t a b
  |take {N:Nat} {t:Ss} {a b b':Int→List Int} {v:Int} {r:List Int} (hk:y.kind≠1) (ha:a (need y t)=v::r) (he:(stake y t (need y t) v).2.2=0) (hb: ∀ n,0≤n→n<hout y.kind→b n=(stake y t (need y t) v).2.1.getD n.toNat default++b' n)
   (h:Den y acc N (stake y t (need y t) v).1 (fun m=>if m=need y t then r else a m) b'):Den y acc (N+1) t a b
  |fin {N:Nat} {t:Ss} {a b b':Int→List Int} (hk:y.kind≠1) (ha:a (need y t)=[]) (he:(sfin y t (need y t)).2.2.2=0) (hb: ∀ n,0≤n→n<hout y.kind→b n=(sfin y t (need y t)).2.1.getD n.toNat default++b' n)
   (h:Den y acc N (sfin y t (need y t)).1 a b'):Den y acc (N+1) t a b
  |srcT {N:Nat} {t:Ss} {a b b':Int→List Int} (hk:y.kind=1) (hc:t.count<acc) (he:(stake y t (-1) 0).2.2=0) (hb: ∀ n,0≤n→n<hout y.kind→b n=(stake y t (-1) 0).2.1.getD n.toNat default++b' n)
   (h:Den y acc N (stake y t (-1) 0).1 a b'):Den y acc (N+1) t a b
  |srcE {N:Nat} {t:Ss} {a b b':Int→List Int} (hk:y.kind=1) (hc:t.count=acc) (he:(sfin y t (-1)).2.2.2=0) (hb: ∀ n,0≤n→n<hout y.kind→b n=(sfin y t (-1)).2.1.getD n.toNat default++b' n)
   (h:Den y acc N (sfin y t (-1)).1 a b'):Den y acc (N+1) t a b
theorem need_bd {y:Sg} {t:Ss} (h:(sneed y t).2=0) (he:t.ended=false) (hk:y.kind≠1):0≤need y t∧need y t<hin y.kind:=(need_in h he hk).2
theorem Den.congr {y:Sg} {acc:Int} {N:Nat} {t:Ss} {a b:Int→List Int} (h:Den y acc N t a b): ∀ {a2 b2:Int→List Int},(∀ n,0≤n→n<hin y.kind→a2 n=a n)→(∀ n,0≤n→n<hout y.kind→b2 n=b n)→Den y acc N t a2 b2:=by
  induction h with
  |done he ha hb=>exact fun ea eb=> .done he (fun n h0 h1=>by rw [ea n h0 h1];exact ha n h0 h1) (fun n h0 h1=>by rw [eb n h0 h1];exact hb n h0 h1)
  |take hk ha he hb h ih=>
   intro a2 b2 ea eb;obtain⟨s1,s2,-⟩:=stake_ok he;have hn:=need_bd s1 s2 hk;refine .take hk (by rw [ea _ hn.1 hn.2];exact ha) he (fun n h0 h1=>by rw [eb n h0 h1];exact hb n h0 h1) (ih (fun n h0 h1=> ?_) (fun n _ _=>rfl));show (if n=_ then _ else _)=(if n=_ then _ else _)
   split
   ·rfl
   ·exact ea n h0 h1
  |fin hk ha he hb h ih=>
   intro a2 b2 ea eb;obtain⟨s1,s2,-⟩:=sfin_ok he;have hn:=need_bd s1 s2 hk;exact .fin hk (by rw [ea _ hn.1 hn.2];exact ha) he (fun n h0 h1=>by rw [eb n h0 h1];exact hb n h0 h1) (ih ea (fun n _ _=>rfl))
  |srcT hk hc he hb h ih=>exact fun ea eb=> .srcT hk hc he (fun n h0 h1=>by rw [eb n h0 h1];exact hb n h0 h1) (ih ea (fun n _ _=>rfl))
  |srcE hk hc he hb h ih=>exact fun ea eb=> .srcE hk hc he (fun n h0 h1=>by rw [eb n h0 h1];exact hb n h0 h1) (ih ea (fun n _ _=>rfl))
structure Move (x:Pl) (s:Fs) (i:Int) (acc:Int) (N:Nat) (a b:Int→List Int) (m:Mv) (b':Int→List Int):Prop where
  sent: ∀ n,0≤n→n<hout (stg x i).kind→b n=m.sent.getD n.toNat default++b' n
  den:Den (stg x i) acc N m.state (fun k=>if m.takes=true∧k=m.inn then (a k).drop 1 else a k) b'
  takes:m.takes=true→ ∃ r,a m.inn=m.item::r
theorem Den.move {x:Pl} {s:Fs} {i:Int} (hx:Pok x) (hi:0≤i∧i<x.stages.length) {acc:Int} {N:Nat} {F:Nat→List Int} {b:Int→List Int}
  (h:Den (stg x i) acc N (sst s i) (fun m=>(crd s (inP x i m)).items++F (inP x i m).toNat) b) (hcl: ∀ m,0≤m→m<hin (stg x i).kind→(crd s (inP x i m)).closed=true→F (inP x i m).toNat=[])
  (hn:(pnext x s i).2=true) (hcok: ∀ m,0≤m→m<hin (stg x i).kind→Cok (crd s (inP x i m)))
  (hsrc:(stg x i).kind=1→((pnext x s i).1=mend (stg x i) (sst s i) (-1)→(sst s i).count=acc)∧((pnext x s i).1=mtake (stg x i) (sst s i) (-1) false 0→(sst s i).count<acc)):
  ∃ N',N=N'+1∧(pnext x s i).1.e=0∧ ∃ b',Move x s i acc N' (fun m=>(crd s (inP x i m)).items++F (inP x i m).toNat) b (pnext x s i).1 b':=by
  have hen:(sst s i).ended=false:=by
   unfold pnext at hn;split at hn
   ·cases hn
   ·rename_i h1;simpa using h1
  have hpin:pin x s i=need (stg x i) (sst s i):=rfl;cases h with
  |done he ha hb=>rw [hen] at he;cases he
  | @srcT N' _ _ _ b' hk hc he hb hd=>
   have hcase:(pnext x s i).1=mtake (stg x i) (sst s i) (-1) false 0:=by
    have h1:=(hsrc hk).1;unfold pnext at h1 ⊢;rw [if_neg (by rw [hen];decide),if_pos hk] at h1 ⊢;split
    ·rename_i h2;rw [if_pos h2] at h1;have:=h1 rfl;omega
    ·rfl
   rw [hcase];exact⟨N',rfl,he,b',hb,hd.congr (fun n _ _=>by rw [if_neg (fun h=>by cases h.1)]) (fun n _ _=>rfl),fun h=>by cases h⟩
  | @srcE N' _ _ _ b' hk hc he hb hd=>
   have hcase:(pnext x s i).1=mend (stg x i) (sst s i) (-1):=by
    have h1:=(hsrc hk).2;unfold pnext at h1 ⊢;rw [if_neg (by rw [hen];decide),if_pos hk] at h1 ⊢;split
    ·rfl
    ·rename_i h2;rw [if_neg h2] at h1;have:=h1 rfl;omega
   rw [hcase];exact⟨N',rfl,he,b',hb,hd.congr (fun n _ _=>by rw [if_neg (fun h=>by cases h.1)]) (fun n _ _=>rfl),fun h=>by cases h⟩
  | @take N' _ _ _ b' v r hk ha he hb hd=>
   obtain⟨s1,s2,-⟩:=stake_ok he;have hnb:=need_bd s1 s2 hk;have hit:0<(pcr x s i).items.length:=by
    rcases Nat.eq_zero_or_pos (pcr x s i).items.length with h0|h0
    ·exfalso;have h1:=List.eq_nil_of_length_eq_zero h0;unfold pnext at hn;rw [if_neg (by rw [hen];decide),if_neg hk,if_neg (by omega)] at hn;split at hn
     ·rename_i h2;have h3:=((cended_of (hcok _ hnb.1 hnb.2)).1 h2).1;have h4:=hcl _ hnb.1 hnb.2 h3;dsimp only at ha;rw [h4,show (crd s (inP x i (need (stg x i) (sst s i)))).items=[] from h1] at ha;cases ha
     ·cases hn
    ·exact h0
   have hv:(pcr x s i).items.getD 0 default=v:=by
    dsimp only at ha;show (crd s (inP x i (need (stg x i) (sst s i)))).items.getD 0 default=v;have hit':0<(crd s (inP x i (need (stg x i) (sst s i)))).items.length:=hit;cases hc:(crd s (inP x i (need (stg x i) (sst s i)))).items with
    |nil=>rw [hc] at hit';cases hit'
    |cons c cs=>rw [hc] at ha;exact (List.cons.inj ha).1
   have hcase:(pnext x s i).1=mtake (stg x i) (sst s i) (pin x s i) true ((pcr x s i).items.getD 0 default):=by
    unfold pnext;rw [if_neg (by rw [hen];decide),if_neg hk,if_pos hit]
   rw [hcase,hv,hpin];refine⟨N',rfl,he,b',hb,hd.congr (fun n _ _=> ?_) (fun n _ _=>rfl),fun _=>⟨r,ha⟩⟩;show (if true=true∧n=need (stg x i) (sst s i) then _ else _)=if n=need (stg x i) (sst s i) then r else _
   by_cases e:n=need (stg x i) (sst s i)
   ·rw [if_pos ⟨rfl,e⟩,if_pos e,e];dsimp only at ha;rw [ha];rfl
   ·rw [if_neg (fun h=>e h.2),if_neg e]
  | @fin N' _ _ _ b' hk ha he hb hd=>
   obtain⟨s1,s2,-⟩:=sfin_ok he;have hnb:=need_bd s1 s2 hk;dsimp only at ha;have h0:(pcr x s i).items=[]:=(List.append_eq_nil_iff.1 ha).1;have hcase:(pnext x s i).1=mend (stg x i) (sst s i) (pin x s i):=by
    unfold pnext at hn ⊢;rw [if_neg (by rw [hen];decide),if_neg hk,if_neg (by rw [h0];decide)] at hn ⊢;split
    ·rfl
    ·rename_i h2;rw [if_neg h2] at hn;cases hn
   rw [hcase,hpin];exact⟨N',rfl,he,b',hb,hd.congr (fun n _ _=>by rw [if_neg (fun h=>by cases h.1)]) (fun n _ _=>rfl),fun h=>by cases h⟩
end Pn
namespace Pn
def gets (x:Pl) (s:Fs) (F:Nat→List Int) (i:Int):Int→List Int:=fun m=>(crd s (inP x i m)).items++F (inP x i m).toNat
def gives (x:Pl) (F:Nat→List Int) (i:Int):Int→List Int:=fun n=>F (outP x i n).toNat
structure Inv (x:Pl) (acc:Int→Int) (want:Int→List Int) (F:Nat→List Int) (N:Int→Nat) (s:Fs):Prop where
  den: ∀ i:Int,0≤i∧i<x.stages.length→Den (stg x i) (acc i) (N i) (sst s i) (gets x s F i) (gives x F i)
  sink: ∀ i:Int,0≤i∧i<x.stages.length→(stg x i).kind=10→s.outputs.getD (pout x s i) default++gets x s F i 0=want i
  sent: ∀ k:Nat,k<x.pipes.length→(crd s k).sent+(F k).length≤200
  want: ∀ i:Int,(want i).length≤200
theorem Inv.ended {x:Pl} {acc:Int→Int} {want:Int→List Int} {F:Nat→List Int} {N:Int→Nat} {s:Fs} (h:Inv x acc want F N s) {i:Int} (hi:0≤i∧i<x.stages.length) (he:(sst s i).ended=true):
  N i=0∧(∀ n,0≤n→n<hin (stg x i).kind→gets x s F i n=[])∧ ∀ n,0≤n→n<hout (stg x i).kind→gives x F i n=[]:=by
  have hd:=h.den i hi;generalize N i=M at hd;cases hd with
  |done he' ha hb=>exact⟨rfl,ha,hb⟩
  |take hk ha he' hb hd=>have:=(stake_ok he').2.1;rw [he] at this;cases this
  |fin hk ha he' hb hd=>have:=(sfin_ok he').2.1;rw [he] at this;cases this
  |srcT hk ha he' hb hd=>have:=(stake_ok he').2.1;rw [he] at this;cases this
  |srcE hk ha he' hb hd=>have:=(sfin_ok he').2.1;rw [he] at this;cases this
theorem Inv.running {x:Pl} {acc:Int→Int} {want:Int→List Int} {F:Nat→List Int} {N:Int→Nat} {s:Fs} (h:Inv x acc want F N s) {i:Int} (hi:0≤i∧i<x.stages.length) (he:N i=0):(sst s i).ended=true:=by
  have hd:=h.den i hi;rw [he] at hd;cases hd with
  |done he' ha hb=>exact he'
theorem Inv.closed {x:Pl} {acc:Int→Int} {want:Int→List Int} {F:Nat→List Int} {N:Int→Nat} {s:Fs} (hx:Pok x) (hv:Pv x s) (h:Inv x acc want F N s) {k:Nat} (hk:k<x.pipes.length) (hc:(crd s k).closed=true):F k=[]:=by
  have hp:=hx.pip hk;rw [hv.closed k hk] at hc;have:=(h.ended hp.fr hc).2.2 _ hp.out.1 hp.out.2;unfold gives at this;rw [hp.outP] at this;simpa using this
theorem inP_cast {x:Pl} (hx:Pok x) {i m:Int} (hi:0≤i∧i<x.stages.length) (hm:0≤m∧m<hin (stg x i).kind): ∃ k:Nat,k<x.pipes.length∧inP x i m=k∧(pip x k).to_=i∧(pip x k).input=m:=by
  obtain⟨k,h1,h2,h3,h4⟩:=hx.inp hi hm;exact⟨k,h1,h2,h3,h4⟩
theorem Inv.move {x:Pl} {acc:Int→Int} {want:Int→List Int} {F:Nat→List Int} {N:Int→Nat} {s:Fs} (hx:Pok x) (hv:Pv x s) (h:Inv x acc want F N s) {i:Int} (hi:0≤i∧i<x.stages.length) (hn:(pnext x s i).2=true)
  (hsrc:(stg x i).kind=1→((pnext x s i).1=mend (stg x i) (sst s i) (-1)→(sst s i).count=acc i)∧((pnext x s i).1=mtake (stg x i) (sst s i) (-1) false 0→(sst s i).count<acc i)):
  ∃ N',N i=N'+1∧(pnext x s i).1.e=0∧ ∃ b',Move x s i (acc i) N' (gets x s F i) (gives x F i) (pnext x s i).1 b':=by
  refine Den.move hx hi (h.den i hi) (fun m h0 h1 hc=> ?_) hn (fun m h0 h1=> ?_) hsrc
  ·obtain⟨k,hk,e,-⟩:=inP_cast hx hi ⟨h0,h1⟩;rw [e] at hc ⊢;exact h.closed hx hv hk hc
  ·obtain⟨k,hk,e,-⟩:=inP_cast hx hi ⟨h0,h1⟩;rw [e];exact hv.ok k hk
theorem snk_mono (l:List Sg) {a b:Nat} (h:a≤b):snk (l.take a)≤snk (l.take b):=by
  unfold snk;have:(l.take a).Sublist (l.take b):=by
   have e:l.take a=(l.take b).take a:=by rw [List.take_take,Nat.min_eq_left h]
   rw [e];exact List.take_sublist _ _
  exact Int.ofNat_le.2 (this.filter _).length_le
theorem pout_inj {x:Pl} {s:Fs} {i j:Int} (hi:0≤i∧i<x.stages.length) (hj:0≤j∧j<x.stages.length) (ki:(stg x i).kind=10) (kj:(stg x j).kind=10) (h:pout x s i=pout x s j):i=j:=by
  have key: ∀ a b:Int,0≤a∧a<x.stages.length→(stg x a).kind=10→0≤b→a<b→pout x s a<pout x s b:=by
   intro a b ha ka hb hab;have h1:x.stages[a.toNat]'(by omega)=stg x a:=by unfold stg;rw [List.getD,List.getElem?_eq_getElem (by omega),Option.getD_some]
   have h2:=snk_t (l:=x.stages) (k:=a.toNat) (by omega) (by rw [h1];exact ka);have h3:=snk_mono x.stages (a:=a.toNat+1) (b:=b.toNat) (by omega);have h4:=(snk_bd (x.stages.take a.toNat)).1;unfold pout;omega
  rcases Int.lt_trichotomy i j with h1|h1|h1
  ·have:=key i j hi ki hj.1 h1;omega
  ·exact h1
  ·have:=key j i hj kj hi.1 h1;omega
theorem pout_lt {x:Pl} {s:Fs} (hv:Pv x s) {i:Int} (hi:0≤i∧i<x.stages.length) (ki:(stg x i).kind=10):pout x s i<s.outputs.length:=by
  have h1:x.stages[i.toNat]'(by omega)=stg x i:=by unfold stg;rw [List.getD,List.getElem?_eq_getElem (by omega),Option.getD_some]
  have h2:=snk_t (l:=x.stages) (k:=i.toNat) (by omega) (by rw [h1];exact ki);have h3:=snk_mono x.stages (a:=i.toNat+1) (b:=x.stages.length) (by omega);rw [List.take_length] at h3;have h4:=(snk_bd (x.stages.take i.toNat)).1;have h5:=hv.lo;unfold pout;omega
theorem Inv.step {x:Pl} {acc:Int→Int} {want:Int→List Int} {F:Nat→List Int} {N:Int→Nat} {s t:Fs} {i:Int} {m:Mv} (hx:Pok x) (hv:Pv x s) (h:Inv x acc want F N s) (hs:Stp x s i m t)
  (hsrc:(stg x i).kind=1→((pnext x s i).1=mend (stg x i) (sst s i) (-1)→(sst s i).count=acc i)∧((pnext x s i).1=mtake (stg x i) (sst s i) (-1) false 0→(sst s i).count<acc i)):
  ∃ F' N',Inv x acc want F' N' t∧N i=N' i+1∧ ∀ j,j≠i→N' j=N j:=by
  have hi:=hs.hi;obtain⟨q1,q2,q3⟩:=hs.next;obtain⟨M,hM,-,b',hmv⟩:=h.move hx hv hi q2 hsrc;rw [←q1] at hmv;have hm:=hs.mv;obtain⟨F',hF⟩: ∃ F':Nat→List Int,∀ k,F' k=if (pip x k).from_=i then b' (pip x k).output else F k:=⟨_,fun k=>rfl⟩
  obtain⟨N',hN⟩: ∃ N':Int→Nat,∀ j,N' j=if j=i then M else N j:=⟨_,fun j=>rfl⟩
  refine⟨F',N',⟨fun j hj=> ?_,fun j hj kj=> ?_,fun k hk=> ?_,h.want⟩,by rw [hN,if_pos rfl];exact hM,fun j hj=>by rw [hN,if_neg hj]⟩
  ·have hins: ∀ n,0≤n→n<hin (stg x j).kind→gets x t F' j n=if j=i∧m.takes=true∧n=m.inn then (gets x s F j n).drop 1 else gets x s F j n:=by
    intro n h0 h1;obtain⟨k,hk,e,e2,e3⟩:=inP_cast hx hj ⟨h0,h1⟩;unfold gets;rw [e,Int.toNat_natCast,hs.cr k hk,hF k];by_cases hf:(pip x k).from_=i
    ·rw [if_pos hf,if_pos hf,if_neg (fun h9=>hx.loop hk (by rw [hf,e2,h9.1]))];have hp:=hx.pip hk;have h5:=hp.out;rw [hf] at h5;have h6:=hmv.sent _ h5.1 h5.2;unfold gives at h6;have h7:=hp.outP;rw [hf] at h7;rw [h7,Int.toNat_natCast] at h6;show ((crd s k).items++m.sent.getD _ default)++b' _=_;rw [List.append_assoc,←h6]
    ·rw [if_neg hf,if_neg hf];by_cases hc:m.takes=true∧(pip x k).to_=i∧(pip x k).input=m.inn
     ·rw [if_pos hc,if_pos ⟨by rw [←e2];exact hc.2.1,hc.1,by rw [←e3];exact hc.2.2⟩];have h8:=(hs.took k hk hc).1;show (crd s k).items.drop 1++F k=((crd s k).items++F k).drop 1;rw [List.drop_append,show 1 - (crd s k).items.length=0 by omega,List.drop_zero]
     ·rw [if_neg hc,if_neg (fun h9=>hc ⟨h9.2.1,by rw [e2];exact h9.1,by rw [e3];exact h9.2.2⟩)]
   have houts: ∀ n,0≤n→n<hout (stg x j).kind→gives x F' j n=if j=i then b' n else gives x F j n:=by
    intro n h0 h1;obtain⟨k,hk,e,e2,e3⟩:=hx.outp hj ⟨h0,h1⟩;unfold gives;rw [e,Int.toNat_natCast,hF k,e2,e3]
   rw [hs.sst hv j hj,hN j];by_cases e:j=i
   ·subst e;rw [if_pos rfl,if_pos rfl];refine hmv.den.congr (fun n h0 h1=> ?_) (fun n h0 h1=>by rw [houts n h0 h1,if_pos rfl]);rw [hins n h0 h1];by_cases hc:m.takes=true∧n=m.inn
    ·rw [if_pos ⟨rfl,hc⟩,if_pos hc]
    ·rw [if_neg (fun h9=>hc h9.2),if_neg hc]
   ·rw [if_neg e,if_neg e];exact (h.den j hj).congr (fun n h0 h1=>by rw [hins n h0 h1,if_neg (fun h9=>e h9.1)]) (fun n h0 h1=>by rw [houts n h0 h1,if_neg e])
  ·have h10:hin (stg x j).kind=1:=by rw [kj];rfl
   obtain⟨k,hk,e1,e2,e3⟩:=inP_cast hx hj (m:=0) ⟨Int.le_refl _,by omega⟩;have hw:=h.sink j hj kj;unfold gets at hw ⊢;rw [e1,Int.toNat_natCast] at hw ⊢;rw [hs.cr k hk,hF k];have hpo: ∀ u,pout x t u=pout x s u:=fun u=>rfl;rw [hpo,hs.out];by_cases hf:(pip x k).from_=i
   ·have hp:=hx.pip hk;have hne:j≠i:=fun e=>hx.loop hk (by rw [hf,e2,e]);have h5:=hp.out;rw [hf] at h5;have h6:=hmv.sent _ h5.1 h5.2;unfold gives at h6;have h7:=hp.outP;rw [hf] at h7;rw [h7,Int.toNat_natCast] at h6;rw [if_pos hf,if_pos hf];have ho:(if (stg x i).kind=10∧m.takes=true then s.outputs.set (pout x s i) (s.outputs.getD (pout x s i) default++[m.item]) else s.outputs).getD (pout x s j) default=s.outputs.getD (pout x s j) default:=by
     split
     ·rename_i hc;rw [List.getD,List.getElem?_set_ne (fun e9=>hne (pout_inj hj hi kj hc.1 e9.symm))];rfl
     ·rfl
    rw [ho];show _++(((crd s k).items++m.sent.getD _ default)++b' _)=_;rw [List.append_assoc,←h6];exact hw
   ·rw [if_neg hf,if_neg hf];by_cases hc:m.takes=true∧(pip x k).to_=i∧(pip x k).input=m.inn
    ·have e:j=i:=by rw [←e2];exact hc.2.1
     subst e;rw [if_pos hc,if_pos ⟨kj,hc.1⟩,getD_set' (pout_lt hv hj kj)];obtain⟨r,hr⟩:=hmv.takes hc.1;unfold gets at hr;have e9:m.inn=0:=by rw [←hc.2.2];exact e3
     rw [e9,e1,Int.toNat_natCast] at hr;have h8:=(hs.took k hk hc).1;show (_++[m.item])++((crd s k).items.drop 1++F k)=_;rw [hr] at hw;rw [←hw,List.append_assoc];congr 1
     have:(crd s k).items.drop 1++F k=((crd s k).items++F k).drop 1:=by
      rw [List.drop_append,show 1 - (crd s k).items.length=0 by omega,List.drop_zero]
     rw [this,hr];rfl
    ·rw [if_neg hc];have ho:(if (stg x i).kind=10∧m.takes=true then s.outputs.set (pout x s i) (s.outputs.getD (pout x s i) default++[m.item]) else s.outputs).getD (pout x s j) default=s.outputs.getD (pout x s j) default:=by
      split
      ·rename_i hc2;have hne:j≠i:=by
        intro e;subst e;obtain⟨a1,a2,-⟩:=hm.takes hc2.2;have hnb:=(need_in (hv.need' hj) hm.en a1).2;rw [h10] at hnb;have:m.inn=0:=by rw [a2];show (sneed _ _).1.getD 0 default=0;omega
        exact hc ⟨hc2.2,e2,by rw [this];exact e3⟩
       rw [List.getD,List.getElem?_set_ne (fun e9=>hne (pout_inj hj hi kj hc2.1 e9.symm))];rfl
      ·rfl
     rw [ho];exact hw
  ·have hb:=h.sent k hk;rw [hs.cr k hk,hF k];by_cases hf:(pip x k).from_=i
   ·have hp:=hx.pip hk;have h5:=hp.out;rw [hf] at h5;have h6:=hmv.sent _ h5.1 h5.2;unfold gives at h6;have h7:=hp.outP;rw [hf] at h7;rw [h7,Int.toNat_natCast] at h6;rw [if_pos hf,if_pos hf];rw [h6,List.length_append] at hb;show (crd s k).sent+_+_≤_;push_cast at hb;omega
   ·rw [if_neg hf,if_neg hf];split
    ·exact hb
    ·exact hb
end Pn
namespace Pn
structure Waits (x:Pl) (s:Fs) (i:Int) (k:Nat):Prop where
  lt:k<x.pipes.length
  end_:((pip x k).to_=i∧(crd s k).items=[])∨((pip x k).from_=i∧(crd s k).items≠[])
  fr:(sst s (pip x k).from_).ended=false
  to:(sst s (pip x k).to_).ended=false
theorem most1_cap {x:Pl} (hx:Pok x) {k:Nat} (hk:k<x.pipes.length):(most1 (stg x (pip x k).from_):Int)≤(pip x k).capacity:=by
  have hp:=hx.pip hk;unfold most1;split
  ·rename_i h5;have:=hp.rep h5;have:=hp.cap;omega
  ·have:=hp.cap;omega
theorem Inv.waits {x:Pl} {acc:Int→Int} {want:Int→List Int} {F:Nat→List Int} {N:Int→Nat} {s:Fs} (hx:Pok x) (hv:Pv x s) (h:Inv x acc want F N s) (hd:s.draining=true) (hc: ∀ i:Int,0≤i∧i<x.stages.length→(stg x i).kind=1→(sst s i).count=acc i)
  {i:Int} (hi:0≤i∧i<x.stages.length) (he:(sst s i).ended=false) (hno:(penab x s i).2=false): ∃ k,Waits x s i k:=by
  have hsrc:(stg x i).kind=1→(pnext x s i).1=mend (stg x i) (sst s i) (-1)∧(pnext x s i).2=true:=by
   intro hk;unfold pnext;rw [if_neg (by rw [he];decide),if_pos hk,if_pos (.inl hd)];exact⟨rfl,rfl⟩
  by_cases hn:(pnext x s i).2=true
  ·obtain⟨M,hM,he0,b',hmv⟩:=h.move hx hv hi hn (fun hk=>⟨fun _=>hc i hi hk,fun e=>by
    rw [(hsrc hk).1] at e;have:=congrArg Mv.inn e;have e2:=congrArg Mv.ended e;exfalso;have h3:=(hsrc hk).1;have h4:=(h.den i hi)
    have h5:(mend (stg x i) (sst s i) (-1)).state.ended=true:=by
     have h6:(sfin (stg x i) (sst s i) (-1)).2.2.2=0:=by
      generalize N i=Q at h4;cases h4 with
      |done he' ha hb=>rw [he] at he';cases he'
      |take hk' _ _ _ _=>exact absurd hk hk'
      |fin hk' _ _ _ _=>exact absurd hk hk'
      |srcT _ hc' _ _ _=>have:=hc i hi hk;omega
      |srcE _ _ he' _ _=>exact he'
     obtain⟨_,_,_,_,_,h7⟩:=sfin_ok h6;show (sfin (stg x i) (sst s i) (-1)).1.ended=true;rw [h7];show (rfin _ _ _).s.ended=true;unfold rfin;rw [if_neg (by omega),if_neg (by omega),if_neg (by omega)];rfl
    have h8:(mend (stg x i) (sst s i) (-1)).ended=true:=by
     have h6:(sfin (stg x i) (sst s i) (-1)).2.2.2=0:=by
      generalize N i=Q at h4;cases h4 with
      |done he' ha hb=>rw [he] at he';cases he'
      |take hk' _ _ _ _=>exact absurd hk hk'
      |fin hk' _ _ _ _=>exact absurd hk hk'
      |srcT _ hc' _ _ _=>have:=hc i hi hk;omega
      |srcE _ _ he' _ _=>exact he'
     obtain⟨_,_,_,_,_,h7⟩:=sfin_ok h6;have h9:(mend (stg x i) (sst s i) (-1)).ended=(mend (stg x i) (sst s i) (-1)).state.ended:=by
      show (sfin _ _ _).2.2.1=(sfin _ _ _).1.ended;rw [h7]
     rw [h9];exact h5
    rw [h8] at e2;cases e2⟩)
   have hm:=pnext_ok hx hi hn he0;have hfit:pfits x s i (pnext x s i).1=false:=by
    unfold penab at hno;dsimp only at hno;rw [hn,Bool.true_and,Bool.or_eq_false_iff] at hno;exact hno.2
   unfold pfits at hfit;rw [List.all_eq_false] at hfit;obtain⟨n,hn1,hn2⟩:=hfit;rw [List.mem_range,hm.len] at hn1;have hio:=hio (hx.stg hi).2.kind;obtain⟨k,hk,e1,e2,e3⟩:=hx.outp hi (n:=(n:Int)) ⟨by omega,by omega⟩;unfold fitB at hn2;rw [e1] at hn2;have hcl:(crd s k).closed=false:=by rw [hv.closed k hk,e2];exact he
   have hok:=hv.ok k hk;rw [croom_of hok hcl,hv.granted k hk hcl,hv.cap k hk] at hn2;have hn3: ¬ (((pnext x s i).1.sent.getD n default).length:Int)≤(crd s k).taken+(pip x k).capacity - (crd s k).sent:=fun h9=>hn2 (decide_eq_true h9);have hlen:=hm.lens ((pnext x s i).1.sent.getD n default) (by
    rw [List.getD,List.getElem?_eq_getElem (by rw [hm.len];exact hn1),Option.getD_some];exact List.getElem_mem _)
   have hcap:=most1_cap hx hk;rw [e2] at hcap;have hil:=hok.len;have hne:(crd s k).items≠[]:=by
    intro e;rw [e] at hil;have hil2:(0:Int)=(crd s k).sent - (crd s k).taken:=hil;omega
   refine⟨k,hk,.inr ⟨e2,hne⟩,by rw [e2];exact he,?_⟩;cases hto:(sst s (pip x k).to_).ended with
   |false=>rfl
   |true=>
    exfalso;have hp:=hx.pip hk;have:=(h.ended hp.to hto).2.1 _ hp.inn.1 hp.inn.2;unfold gets at this;rw [hp.inP] at this;exact hne (List.append_eq_nil_iff.1 this).1
  ·have hk1:(stg x i).kind≠1:=fun hk=>hn (hsrc hk).2;have hnb:=(need_in (hv.need' hi) he hk1).2;obtain⟨k,hk,e1,e2,e3⟩:=inP_cast hx hi hnb;have hpc:pcr x s i=crd s k:=by unfold pcr;rw [show inP x i (pin x s i)=(k:Int) from e1]
   have hn':(pnext x s i).2=false:=by simpa using hn
   unfold pnext at hn';rw [if_neg (by rw [he];decide),if_neg hk1,hpc] at hn';split at hn'
   ·cases hn'
   ·rename_i h3;split at hn'
    ·cases hn'
    ·rename_i h4;have h5:(crd s k).items=[]:=List.eq_nil_of_length_eq_zero (by omega);refine⟨k,hk,.inl ⟨e2,h5⟩,?_,by rw [e2];exact he⟩;rw [←hv.closed k hk];cases hcl:(crd s k).closed with
     |false=>rfl
     |true=>exact absurd ((cended_of (hv.ok k hk)).2 ⟨hcl,h5⟩) h4
theorem Inv.live {x:Pl} {acc:Int→Int} {want:Int→List Int} {F:Nat→List Int} {N:Int→Nat} {s:Fs} (hx:Pok x) (hv:Pv x s) (h:Inv x acc want F N s) (hd:s.draining=true) (hc: ∀ i:Int,0≤i∧i<x.stages.length→(stg x i).kind=1→(sst s i).count=acc i)
  (hno: ∀ i:Int,0≤i∧i<x.stages.length→(penab x s i).2=false): ∀ i:Int,0≤i∧i<x.stages.length→(sst s i).ended=true:=by
  intro i hi;cases he:(sst s i).ended with
  |true=>rfl
  |false=>
   exfalso;have hw: ∀ i:Int,∃ k:Nat,(0≤i∧i<x.stages.length)∧(sst s i).ended=false→Waits x s i k:=by
    intro i;rcases Classical.em ((0≤i∧i<x.stages.length)∧(sst s i).ended=false) with h1|h1
    ·obtain⟨k,hk⟩:=h.waits hx hv hd hc h1.1 h1.2 (hno i h1.1);exact⟨k,fun _=>hk⟩
    ·exact⟨0,fun h2=>absurd h2 h1⟩
   obtain⟨p,hp⟩:=Classical.axiomOfChoice hw;refine hx.pick (U:=fun i=>(0≤i∧i<x.stages.length)∧(sst s i).ended=false) (fun i hi=>hi.1) p (fun i hu=> ?_) (fun a b ha hb hab=> ?_) i ⟨hi,he⟩
   ·have hq:=hp i hu;have hpp:=hx.pip hq.lt;refine⟨hq.lt,?_,⟨hpp.fr,hq.fr⟩,hpp.to,hq.to⟩;rcases hq.end_ with h1|h1
    ·exact .inr h1.1
    ·exact .inl h1.1
   ·have qa:=(hp a ha).end_;have qb:=(hp b hb).end_;rw [←hab] at qb;rcases qa with h1|h1<;>rcases qb with h2|h2
    ·rw [←h1.1,h2.1]
    ·exact absurd h1.2 h2.2
    ·exact absurd h2.2 h1.2
    ·rw [←h1.1,h2.1]
end Pn
namespace Pn
def tot (N:Int→Nat):Nat→Nat
  |0=>0
  |n+1=>tot N n+N (n:Int)
theorem tot_same {N N':Int→Nat}: ∀ n:Nat,(∀ j:Int,0≤j∧j<n→N j=N' j)→tot N n=tot N' n
  |0,_=>rfl
  |n+1,h=>by
   rw [tot,tot,tot_same n (fun j hj=>h j (by omega)),h n (by omega)]
theorem tot_step {N N':Int→Nat} {i:Int} (h1:N i=N' i+1) (h2: ∀ j,j≠i→N' j=N j): ∀ n:Nat,0≤i∧i<n→tot N n=tot N' n+1
  |0,h=>by omega
  |n+1,h=>by
   rw [tot,tot];by_cases e:i=(n:Int)
   ·subst e;rw [h1,tot_same n (fun j hj=>(h2 j (by omega)).symm)];omega
   ·rw [tot_step h1 h2 n (by omega),h2 n (by omega)];omega
theorem tot_zero {N:Int→Nat}: ∀ n:Nat,tot N n=0→ ∀ j:Int,0≤j∧j<n→N j=0
  |0,_,j,hj=>by omega
  |n+1,h,j,hj=>by
   rw [tot] at h;by_cases e:j=(n:Int)
   ·rw [e];omega
   ·exact tot_zero n (by omega) j (by omega)
def Full (x:Pl) (acc:Int→Int) (s:Fs):Prop:= ∀ i:Int,0≤i∧i<x.stages.length→(stg x i).kind=1→(sst s i).count=acc i
theorem mend_ended {y:Sg} {t:Ss} (hk:y.kind=1) (h:(mend y t (-1)).e=0):(mend y t (-1)).ended=true∧(mend y t (-1)).state.count=t.count:=by
  obtain⟨_,_,_,_,_,h7⟩:=sfin_ok (show (sfin y t (-1)).2.2.2=0 from h);unfold mend;rw [h7];unfold rfin;rw [if_neg (by omega),if_neg (by omega),if_neg (by omega)];exact⟨rfl,rfl⟩
theorem mtake_ended (y:Sg) (t:Ss) (n v:Int) (b:Bool):(mtake y t n b v).ended=false:=rfl
theorem Inv.src {x:Pl} {acc:Int→Int} {want:Int→List Int} {F:Nat→List Int} {N:Int→Nat} {s:Fs} (h:Inv x acc want F N s) (hd:s.draining=true) (hc:Full x acc s) {i:Int} (hi:0≤i∧i<x.stages.length) (he:(sst s i).ended=false) (hk:(stg x i).kind=1):
  (pnext x s i).1=mend (stg x i) (sst s i) (-1)∧(pnext x s i).2=true∧(mend (stg x i) (sst s i) (-1)).e=0:=by
  have h4:=h.den i hi;have h6:(sfin (stg x i) (sst s i) (-1)).2.2.2=0:=by
   generalize N i=Q at h4;cases h4 with
   |done he' ha hb=>rw [he] at he';cases he'
   |take hk' _ _ _ _=>exact absurd hk hk'
   |fin hk' _ _ _ _=>exact absurd hk hk'
   |srcT _ hc' _ _ _=>have:=hc i hi hk;omega
   |srcE _ _ he' _ _=>exact he'
  unfold pnext;rw [if_neg (by rw [he];decide),if_pos hk,if_pos (.inl hd)];exact⟨rfl,rfl,h6⟩
theorem Inv.hsrc {x:Pl} {acc:Int→Int} {want:Int→List Int} {F:Nat→List Int} {N:Int→Nat} {s:Fs} (h:Inv x acc want F N s) (hd:s.draining=true) (hc:Full x acc s) {i:Int} (hi:0≤i∧i<x.stages.length) (hn:(pnext x s i).2=true):
  (stg x i).kind=1→((pnext x s i).1=mend (stg x i) (sst s i) (-1)→(sst s i).count=acc i)∧((pnext x s i).1=mtake (stg x i) (sst s i) (-1) false 0→(sst s i).count<acc i):=by
  intro hk;have he:(sst s i).ended=false:=by
   unfold pnext at hn;split at hn
   ·cases hn
   ·rename_i h1;simpa using h1
  obtain⟨a,b,c⟩:=h.src hd hc hi he hk;refine⟨fun _=>hc i hi hk,fun e=> ?_⟩;rw [a] at e;have:=congrArg Mv.ended e;rw [(mend_ended hk c).1,mtake_ended] at this;cases this
theorem Inv.go {x:Pl} {acc:Int→Int} {want:Int→List Int} {F:Nat→List Int} {N:Int→Nat} {s:Fs} (hx:Pok x) (hv:Pv x s) (h:Inv x acc want F N s) {i:Int} (hi:0≤i∧i<x.stages.length) (hen:(penab x s i).2=true)
  (hsrc:(pnext x s i).2=true→(stg x i).kind=1→((pnext x s i).1=mend (stg x i) (sst s i) (-1)→(sst s i).count=acc i)∧((pnext x s i).1=mtake (stg x i) (sst s i) (-1) false 0→(sst s i).count<acc i)):
  (pstep x s i).2=0∧Stp x s i (penab x s i).1 (pstep x s i).1:=by
  have hn:(pnext x s i).2=true:=by
   unfold penab at hen;dsimp only at hen;rw [Bool.and_eq_true] at hen;exact hen.1
  obtain⟨M,hM,he0,b',hmv⟩:=h.move hx hv hi hn (hsrc hn);have hm:=pnext_ok hx hi hn he0;refine step_stp hx hv hi hen he0 (fun hc=> ?_) ((ptook_ok hx hv hi hm).2.2 fun k hk hcl=> ?_)
  ·obtain⟨⟨k10,ht⟩,hl⟩:=hc;have hw:=h.sink i hi k10;obtain⟨r,hr⟩:=hmv.takes ht;obtain⟨a1,a2,-⟩:=hm.takes ht;have hnb:=(need_in (hv.need' hi) hm.en a1).2;have h10:hin (stg x i).kind=1:=by rw [k10];rfl
   rw [h10] at hnb;have e0:(pnext x s i).1.inn=0:=by rw [a2];show (sneed _ _).1.getD 0 default=0;omega
   rw [e0] at hr;have hwl:=h.want i;rw [←hw,List.length_append,hr,List.length_cons] at hwl;omega
  ·have:=hv.granted k hk hcl;have h2:=h.sent k hk;have h3:=(hv.ok k hk).sent;have h4:=(hv.ok k hk).cap;omega
theorem Inv.run {x:Pl} {acc:Int→Int} {want:Int→List Int} (hx:Pok x) (l:List Int): ∀ (f k:Nat) (s:Fs) (F:Nat→List Int) (N:Int→Nat),Pv x s→Inv x acc want F N s→s.draining=true→Full x acc s→tot N x.stages.length≤f→
  (runS x l f k s).2.2=0∧Pv x (runS x l f k s).2.1∧(∃ F' N',Inv x acc want F' N' (runS x l f k s).2.1)∧ ∀ i:Int,0≤i∧i<x.stages.length→(sst (runS x l f k s).2.1 i).ended=true
  |0,k,s,F,N,hv,h,hd,hc,ht=>⟨rfl,hv,⟨F,N,h⟩,fun i hi=>h.running hi (tot_zero x.stages.length (by omega) i hi)⟩
  |f+1,k,s,F,N,hv,h,hd,hc,ht=>by
   have hpe:=penabled_of hx hv;by_cases h0:(penabled x s).2≠0∨(penabled x s).1.length=0
   ·rw [runS_stop h0];refine⟨rfl,hv,⟨F,N,h⟩,h.live hx hv hd hc fun i hi=> ?_⟩;have hl:(enabL x s x.stages.length).length=0:=by
     rw [hpe] at h0;rcases h0 with h0|h0
     ·exact absurd rfl h0
     ·exact h0
    cases hq:(penab x s i).2 with
    |false=>rfl
    |true=>
     have:=enabL_mem (x:=x) (s:=s) (n:=x.stages.length).2 ⟨hi,hq⟩;rw [List.eq_nil_of_length_eq_zero hl] at this;cases this
   ·have hmem:=runI_mem (x:=x) (s:=s) (l:=l) (k:=k) (fun e=>h0 (.inr e));rw [hpe] at hmem;obtain⟨hi,hen⟩:=enabL_mem.1 hmem;generalize hI:runI x l k s=i at hi hen;have hgo:=h.go hx hv hi hen (fun hn=>h.hsrc hd hc hi hn);obtain⟨g1,g2⟩:=hgo;have hn:(pnext x s i).2=true:=by
     unfold penab at hen;dsimp only at hen;rw [Bool.and_eq_true] at hen;exact hen.1
    obtain⟨F',N',h',e1,e2⟩:=h.step hx hv g2 (h.hsrc hd hc hi hn);have hv':=g2.valid hx hv;rw [runS_go h0 (by rw [hI];exact fun e=>e g1),hI];refine Inv.run hx l f (k+1) _ F' N' hv' h' (by rw [g2.dr];exact hd) (fun j hj kj=> ?_) ?_
    ·rw [g2.sst hv j hj];by_cases e:j=i
     ·subst e;rw [if_pos rfl];have he:(sst s j).ended=false:=g2.mv.en;obtain⟨a,b,c⟩:=h.src hd hc hj he kj;have e3:(penab x s j).1=mend (stg x j) (sst s j) (-1):=a;rw [e3,(mend_ended kj c).2];exact hc j hj kj
     ·rw [if_neg e];exact hc j hj kj
    ·have:=tot_step e1 e2 x.stages.length hi;omega
end Pn
namespace Pn
theorem mtake_count {y:Sg} {t:Ss} (hk:y.kind=1) (h:(mtake y t (-1) false 0).e=0):(mtake y t (-1) false 0).state.count=t.count+1:=by
  obtain⟨_,_,_,_,h5⟩:=stake_ok (show (stake y t (-1) 0).2.2=0 from h);unfold mtake;rw [h5,rtake1 hk];rfl
theorem mend_state {y:Sg} {t:Ss} (hk:y.kind=1) (h:(mend y t (-1)).e=0):(mend y t (-1)).state.ended=true:=by
  obtain⟨_,_,_,_,_,h7⟩:=sfin_ok (show (sfin y t (-1)).2.2.2=0 from h);unfold mend;rw [h7];unfold rfin;rw [if_neg (by omega),if_neg (by omega),if_neg (by omega)];rfl
theorem pnext_src {x:Pl} {s:Fs} {i:Int} (hk:(stg x i).kind=1) (hn:(pnext x s i).2=true):(pnext x s i).1=mend (stg x i) (sst s i) (-1)∨(pnext x s i).1=mtake (stg x i) (sst s i) (-1) false 0:=by
  unfold pnext at hn ⊢;split
  ·rename_i h1;rw [if_pos h1] at hn;cases hn
  ·split
   ·exact .inl rfl
   ·exact .inr rfl
theorem Stp.src {x:Pl} {s t:Fs} {i:Int} {m:Mv} (hv:Pv x s) (h:Stp x s i m t) {j:Int} (hj:0≤j∧j<x.stages.length) (hk:(stg x j).kind=1):(Pn.sst s j).count≤(Pn.sst t j).count∧((Pn.sst s j).ended=true→(Pn.sst t j)=Pn.sst s j):=by
  rw [h.sst hv j hj];by_cases e:j=i
  ·subst e;rw [if_pos rfl];obtain⟨a,b,c⟩:=h.next;refine⟨?_,fun he=>by rw [h.mv.en] at he;cases he⟩;rcases pnext_src hk b with h1|h1
   ·rw [a,h1] at c;rw [a,h1,(mend_ended hk c).2];exact Int.le_refl _
   ·rw [a,h1] at c;rw [a,h1,mtake_count hk c];omega
  ·rw [if_neg e];exact⟨Int.le_refl _,fun _=>rfl⟩
theorem runS_src {x:Pl} (hx:Pok x) (l:List Int): ∀ (f k:Nat) (s:Fs),Pv x s→ ∀ j:Int,0≤j∧j<x.stages.length→(stg x j).kind=1→(sst s j).count≤(sst (runS x l f k s).2.1 j).count∧((sst s j).ended=true→(sst (runS x l f k s).2.1 j)=sst s j)
  |0,_,s,h,j,hj,hk=>⟨Int.le_refl _,fun _=>rfl⟩
  |f+1,k,s,hv,j,hj,hk=>by
   by_cases h:(penabled x s).2≠0∨(penabled x s).1.length=0
   ·rw [runS_stop h];exact⟨Int.le_refl _,fun _=>rfl⟩
   ·by_cases h2:(pstep x s (runI x l k s)).2≠0
    ·rw [runS_err h h2];exact⟨Int.le_refl _,fun _=>rfl⟩
    ·rw [runS_go h h2];have hs:=pstep_stp hx hv (Classical.not_not.1 h2);have h3:=hs.src hv hj hk;have h4:=runS_src hx l f (k+1) _ (hs.valid hx hv) j hj hk;refine⟨Int.le_trans h3.1 h4.1,fun he=> ?_⟩;have h5:=h3.2 he;rw [h4.2 (by rw [h5];exact he),h5]
theorem Inv.run1 {x:Pl} {acc:Int→Int} {want:Int→List Int} (hx:Pok x) (l:List Int): ∀ (f k:Nat) (s:Fs) (F:Nat→List Int) (N:Int→Nat),Pv x s→Inv x acc want F N s→(∀ j:Int,0≤j∧j<x.stages.length→(stg x j).kind=1→(sst (runS x l f k s).2.1 j).count=acc j)→
  ∃ F' N',Inv x acc want F' N' (runS x l f k s).2.1∧tot N' x.stages.length≤tot N x.stages.length
  |0,k,s,F,N,hv,h,hacc=>⟨F,N,h,Nat.le_refl _⟩
  |f+1,k,s,F,N,hv,h,hacc=>by
   by_cases h0:(penabled x s).2≠0∨(penabled x s).1.length=0
   ·rw [runS_stop h0];exact⟨F,N,h,Nat.le_refl _⟩
   ·by_cases h2:(pstep x s (runI x l k s)).2≠0
    ·rw [runS_err h0 h2];exact⟨F,N,h,Nat.le_refl _⟩
    ·rw [runS_go h0 h2] at hacc ⊢;have hs:=pstep_stp hx hv (Classical.not_not.1 h2);have hi:=hs.hi;have hv':=hs.valid hx hv;obtain⟨F',N',h',e1,e2⟩:=h.step hx hv hs (fun hk=>by
      obtain⟨a,b,c⟩:=hs.next;have h5:=runS_src hx l f (k+1) _ hv' _ hi hk;have h6:=hacc _ hi hk;dsimp only at h6;have h7:=hs.sst hv _ hi;rw [if_pos rfl] at h7;refine⟨fun e=> ?_,fun e=> ?_⟩
      ·rw [a,e] at c;rw [h7,a,e] at h5;have h8:=h5.2 (mend_state hk c);rw [h8,(mend_ended hk c).2] at h6;exact h6
      ·rw [a,e] at c;rw [h7,a,e,mtake_count hk c,h6] at h5;have:=h5.1;omega)
     obtain⟨F2,N2,g1,g2⟩:=Inv.run1 hx l f (k+1) _ F' N' hv' h' hacc;have:=tot_step e1 e2 x.stages.length hi;exact⟨F2,N2,g1,by omega⟩
end Pn
namespace Pn
structure Rel (o:List (List Int)) (q r:Rn):Prop where
  err:q.err=r.err
  s:q.s=r.s
  len:q.out.length=r.out.length
  out: ∀ n,n<r.out.length→q.out.getD n default=o.getD n default++r.out.getD n default
theorem getD_set_ne' {α:Type} [Inhabited α] {L:List α} {k n:Nat} (h:n≠k) (a:α):(L.set k a).getD n default=L.getD n default:=by
  rw [List.getD,List.getElem?_set_ne (fun e=>h e.symm)];rfl
theorem Rel.send {o:List (List Int)} {q r:Rn} (h:Rel o q r) (n:Nat) (v:Int):Rel o (rsend q n v) (rsend r n v):=by
  have he:=h.err;refine⟨by rw [rsend_e1,rsend_e1];exact he,by rw [rsend_s1,rsend_s1];exact h.s,by rw [(rsend_s q n v).2.2,(rsend_s r n v).2.2];exact h.len,fun m hm=> ?_⟩;rw [(rsend_s r n v).2.2] at hm;by_cases e0:r.err=0
  ·rw [rsend_t (by omega),rsend_t e0];show (q.out.set n _).getD m default=_++(r.out.set n _).getD m default;by_cases e:m=n
   ·subst e;rw [getD_set' (by rw [h.len];exact hm),getD_set' hm];have:=h.out m hm;show q.out.getD m default++[v]=o.getD m default++(r.out.getD m default++[v]);rw [this,List.append_assoc]
   ·rw [getD_set_ne' e,getD_set_ne' e];exact h.out m hm
  ·rw [rsend_f (by omega),rsend_f e0];exact h.out m hm
theorem Rel.eval {o:List (List Int)} {q r:Rn} (h:Rel o q r) (y:Sg) (a b:Int):Rel o (reval y q a b).1 (reval y r a b).1:=by
  refine⟨?_,h.s,h.len,h.out⟩;unfold reval;dsimp only;rw [h.err]
theorem Rel.upd {o:List (List Int)} {q r:Rn} (h:Rel o q r) (t:Ss):Rel o {q with s:=t} {r with s:=t}:=⟨h.err,rfl,h.len,h.out⟩
theorem Rel.sum {o:List (List Int)} {q r:Rn} (h:Rel o q r):Rel o (rsum q) (rsum r):=by
  unfold rsum;dsimp only;have h1:Rel o {q with err:=(sumK q.s.held q.err q.s.held.length).2} {r with err:=(sumK r.s.held r.err r.s.held.length).2}:=⟨by dsimp only;rw [h.s,h.err],h.s,h.len,h.out⟩
  have h2:=h1.send 0 (sumK r.s.held r.err r.s.held.length).1;have e:(sumK q.s.held q.err q.s.held.length).1=(sumK r.s.held r.err r.s.held.length).1:=by rw [h.s,h.err]
  rw [e];refine⟨h2.err,?_,h2.len,h2.out⟩;dsimp only;rw [h2.s]
theorem Rel.rep {o:List (List Int)} {q r:Rn} (h:Rel o q r) (v:Int): ∀ k,Rel o (rrep q v k) (rrep r v k)
  |0=>h
  |k+1=>(Rel.rep h v k).send 0 v
theorem Rel.take {o:List (List Int)} {q r:Rn} (h:Rel o q r) {y:Sg} (hy:1≤y.kind∧y.kind≤10) (h9:y.kind≠9) (i v:Int):Rel o (rtake y q i v) (rtake y r i v):=by
  have hv: ∀ a b,(reval y q a b).2=(reval y r a b).2:=fun _ _=>rfl;rcases kinds hy with hk|hk|hk|hk|hk|hk|hk|hk|hk|hk
  ·rw [rtake1 hk,rtake1 hk,h.s];have:=h.send 0 (y.items.getD r.s.count.toNat default);refine⟨this.err,?_,this.len,this.out⟩;unfold rcount;dsimp only;rw [this.s]
  ·rw [rtake2 hk,rtake2 hk,hv];exact (h.eval y v 0).send 0 _
  ·rw [rtake3 hk,rtake3 hk,hv];split
   ·exact (h.eval y v 0).send 0 _
   ·exact h.eval y v 0
  ·rw [rtake4 hk,rtake4 hk];unfold rbatch;dsimp only;rw [h.s];split
   ·exact (h.upd _).sum
   ·exact h.upd _
  ·rw [rtake5 hk,rtake5 hk];exact h.rep v _
  ·rw [rtake6 hk,rtake6 hk,h.s];split
   ·have:Rel o (rcount q (r.s.count+1)) (rcount r (r.s.count+1)):=⟨h.err,by unfold rcount;dsimp only;rw [h.s],h.len,h.out⟩
    exact this.send 0 v
   ·exact h
  ·rw [rtake7 hk,rtake7 hk,hv];exact (h.eval y v 0).send _ _
  ·rw [rtake8 hk,rtake8 hk];have:=h.send 0 v;refine⟨this.err,?_,this.len,this.out⟩;unfold rcount;dsimp only;rw [this.s]
  ·exact absurd hk h9
  ·rw [rtake10 hk,rtake10 hk];exact h
theorem Rel.fin {o:List (List Int)} {q r:Rn} (h:Rel o q r) (y:Sg) (i:Int):Rel o (rfin y q i) (rfin y r i):=by
  unfold rfin;rw [h.s];have hend: ∀ {q r:Rn},Rel o q r→Rel o (rend q) (rend r):=fun h=>⟨h.err,by unfold rend;dsimp only;rw [h.s],h.len,h.out⟩
  split
  ·split
   ·exact hend h.sum
   ·exact hend h
  ·split
   ·exact h.upd _
   ·split
    ·exact h.upd _
    ·exact hend h
theorem Rel.new {y:Sg} {r:Rn} (h:r.err=0) (hl:r.out.length=(hout y.kind).toNat):Rel r.out r (rnew y r.s):=by
  refine⟨h,rfl,by rw [hl,(rnew_out y r.s).1],fun n hn=> ?_⟩;have:(rnew y r.s).out.getD n default=[]:=by
   unfold rnew;show (List.replicate _ []).getD n default=[]
   rw [List.getD,List.getElem?_replicate];split<;>rfl
  rw [this,List.append_nil]
theorem sumK_err (l:List Int) {e:Int} (he:e≠0): ∀ k,(sumK l e k).2=e
  |0=>rfl
  |k+1=>by
   rw [sumK];dsimp only;rw [sumK_err l he k,if_neg (fun h=>he h.2)]
theorem rsum_err {r:Rn} (h:r.err≠0):(rsum r).err≠0:=by
  unfold rsum;dsimp only;rw [rsend_e1];dsimp only;rw [sumK_err _ h];exact h
theorem reval_err {y:Sg} {r:Rn} (h:r.err≠0) (a b:Int):(reval y r a b).1.err≠0:=by
  unfold reval;dsimp only;rw [if_neg h];exact h
theorem rtake_err {y:Sg} (hy:1≤y.kind∧y.kind≤10) (h9:y.kind≠9) {r:Rn} (h:r.err≠0) (i v:Int):(rtake y r i v).err≠0:=by
  rcases kinds hy with hk|hk|hk|hk|hk|hk|hk|hk|hk|hk
  ·rw [rtake1 hk];show (rsend _ _ _).err≠0;rw [rsend_e1];exact h
  ·rw [rtake2 hk,rsend_e1];exact reval_err h _ _
  ·rw [rtake3 hk];split
   ·rw [rsend_e1];exact reval_err h _ _
   ·exact reval_err h _ _
  ·rw [rtake4 hk];unfold rbatch;dsimp only;split
   ·exact rsum_err h
   ·exact h
  ·rw [rtake5 hk,(rrep_s r v _).2.1];exact h
  ·rw [rtake6 hk];split
   ·rw [rsend_e1];exact h
   ·exact h
  ·rw [rtake7 hk,rsend_e1];exact reval_err h _ _
  ·rw [rtake8 hk];show (rsend _ _ _).err≠0;rw [rsend_e1];exact h
  ·exact absurd hk h9
  ·rw [rtake10 hk];exact h
theorem rfin_err {y:Sg} {r:Rn} (h:r.err≠0) (i:Int):(rfin y r i).err≠0:=by
  unfold rfin;split
  ·show (if _ then rsum r else r).err≠0;split
   ·exact rsum_err h
   ·exact h
  ·split
   ·exact h
   ·split
    ·exact h
    ·exact h
theorem rall_err {y:Sg} (hy:1≤y.kind∧y.kind≤10) (h9:y.kind≠9): ∀ (l:List Int) {r:Rn},r.err≠0→(rall y r l).err≠0
  | [],_,h=>h
  |v::l,r,h=>rall_err hy h9 l (rtake_err hy h9 h 0 v)
theorem stake_run {y:Sg} {t:Ss} {i v:Int} (hn:(sneed y t).2=0) (he:t.ended=false) (hs:y.kind=1→i= -1∧t.count≠y.items.length∧v=0) (hi:y.kind≠1→i=need y t) (hv:num v=true) (herr:(rtake y (rnew y t) i v).err=0):
  stake y t i v=((rtake y (rnew y t) i v).s,(rtake y (rnew y t) i v).out,0):=by
  unfold stake;rw [if_neg (fun h=>h hn),if_neg,if_neg,if_neg (fun h=>h herr)]
  ·rintro (h|h)
   ·rw [hv] at h;cases h
   ·exact h.2 (hs h.1).2.2
  ·rintro (h|h|h)
   ·rw [he] at h;cases h
   ·have:=hs h.1;rcases h.2 with h2|h2
    ·exact h2 this.1
    ·exact this.2.1 h2
   ·have hnb:=need_in hn he h.1;refine h.2 ?_;rw [hi h.1];unfold need;have hm:(sneed y t).1.getD 0 default∈(sneed y t).1:=by
     rw [List.getD,List.getElem?_eq_getElem hnb.1,Option.getD_some];exact List.getElem_mem _
    exact (Wl.idxI_mem _ _).2 hm
theorem sfin_run {y:Sg} {t:Ss} {i:Int} (hn:(sneed y t).2=0) (he:t.ended=false) (hs:y.kind=1→i= -1) (hi:y.kind≠1→(0≤i∧i<hin y.kind)∧sended y t i=false) (herr:(rfin y (rnew y t) i).err=0):
  sfin y t i=((rfin y (rnew y t) i).s,(rfin y (rnew y t) i).out,(rfin y (rnew y t) i).s.ended,0):=by
  unfold sfin;rw [if_neg (fun h=>h hn),if_neg,if_neg,if_neg (fun h=>h herr)]
  ·rintro (h|h)
   ·rw [he] at h;cases h
   ·rw [(hi h.1).2] at h;cases h.2
  ·rintro (h|h)
   ·exact h.2 (hs h.1)
   ·have:=(hi h.1).1;omega
end Pn
namespace Pn
theorem den_src {y:Sg} (hg:sgchk y=0) (hk:y.kind=1) {acc:Int} (ha:acc≤y.items.length) (a:Int→List Int): ∀ (d:Nat) (t:Ss) (b:Int→List Int),sval y t=true→t.ended=false→t.count+d=acc→b 0=(y.items.drop t.count.toNat).take d→Den y acc (d+1) t a b
  |0,t,b,hv,he,hc,hb=>by
   have hn:=sneed_of hg hv;have hf:rfin y (rnew y t) (-1)=rend (rnew y t):=rfin_def (by omega) (by omega) (by omega);have hs:=sfin_run hn he (fun _=>rfl) (fun h=>absurd hk h) (i:= -1) (by rw [hf];rfl);have h1:hout y.kind=1:=by rw [hk];rfl
   have ho:(rnew y t).out.getD 0 default=[]:=by unfold rnew;rw [h1];rfl
   rw [hf] at hs;refine .srcE hk (by omega) (by rw [hs]) (b':=fun _=>[]) (fun n h0 h2=> ?_) (.done (by rw [hs];rfl) (fun n h0 h2=>by rw [hk] at h2;have:hin 1=0:=rfl;omega) (fun n _ _=>rfl));obtain rfl:n=0:=by omega
   rw [hb,hs,List.take_zero];show []=(rend (rnew y t)).out.getD 0 default++[];rw [show (rend (rnew y t)).out=(rnew y t).out from rfl,ho];rfl
  |d+1,t,b,hv,he,hc,hb=>by
   have hn:=sneed_of hg hv;have hy:=sgchk_ok hg;have hk1:=sval_k hy hv;have hc0:=hk1.1;have hlt:t.count.toNat<y.items.length:=by omega
   have ht:TakeOk y t (-1) 0:=⟨hy,hv,fun _=>by omega,fun h=>by omega,by decide⟩
   have herr:(rtake y (rnew y t) (-1) 0).err=0:=by rw [rtake1 hk];show (rsend _ _ _).err=0;rw [rsend_e1];rfl
   have hs:=stake_run hn he (i:= -1) (v:=0) (fun _=>⟨rfl,by omega,rfl⟩) (fun h=>absurd hk h) (by decide) herr;have h1:hout y.kind=1:=by rw [hk];rfl
   have ho:(rtake y (rnew y t) (-1) 0).out.getD 0 default=[y.items.getD t.count.toNat default]:=by
    rw [rtake1 hk];show (rsend _ _ _).out.getD 0 default=_;rw [rsend_t rfl];unfold rnew;rw [h1];rfl
   have hts:=take_state ht he;have hcnt:=hts.2.2.2 hk;refine .srcT hk (by omega) (by rw [hs]) (b':=fun _=>(y.items.drop (t.count.toNat+1)).take d) (fun n h0 h2=> ?_) ?_
   ·obtain rfl:n=0:=by omega
    rw [hb,hs];show _=(rtake y (rnew y t) (-1) 0).out.getD 0 default++_;rw [ho,List.drop_eq_getElem_cons hlt,List.take_succ_cons,List.getD,List.getElem?_eq_getElem hlt];rfl
   ·rw [hs];refine den_src hg hk ha a d _ _ hts.1 hts.2.1 (by rw [hcnt];omega) ?_;rw [hcnt,show (t.count+1).toNat=t.count.toNat+1 by omega]
theorem need_one {y:Sg} {t:Ss} (hn:(sneed y t).2=0) (he:t.ended=false) (hk:y.kind≠1∧y.kind≠8∧y.kind≠9):need y t=0:=by
  obtain⟨hg,hv⟩:=sneed_ok hn;have hy:=sneed_chk hn;unfold need sneed;rw [if_neg (fun h=>h hy),if_neg (by rw [hv];decide),if_neg (by rw [he];rintro (e|e);cases e;exact hk.1 e),if_neg (fun h=>hk.2.1 h.1),if_neg hk.2.1,if_neg (fun h=>hk.2.2 h.1)];rfl
theorem den_one {y:Sg} (hg:sgchk y=0) (hk:y.kind≠1∧y.kind≠8∧y.kind≠9) (acc:Int): ∀ (l:List Int) (r:Rn) (a:Int→List Int),r.err=0→r.out.length=(hout y.kind).toNat→sval y r.s=true→r.s.ended=false→(∀ v∈l,num v=true)→a 0=l→(rfin y (rall y r l) 0).err=0→
  ∃ b,Den y acc (l.length+1) r.s a b∧ ∀ n,n<(hout y.kind).toNat→(rfin y (rall y r l) 0).out.getD n default=r.out.getD n default++b (n:Int)
  | [],r,a,he,hl,hv,hen,hnum,ha,herr=>by
   have hy:=sgchk_ok hg;have hn:=sneed_of hg hv;have h1:=(hin1 hy.kind).2.2.2.1 hk;have hrel:=(Rel.new he hl).fin y 0;have herr2:(rfin y (rnew y r.s) 0).err=0:=by rw [←hrel.err];exact herr
   have hse:sended y r.s 0=false:=by unfold sended;rw [if_neg hk.2.1,if_neg hk.2.2];exact hen
   have hs:=sfin_run hn hen (fun h=>absurd h hk.1) (fun _=>⟨⟨Int.le_refl _,by omega⟩,hse⟩) herr2;have hnd:=need_one hn hen hk;have hfs:=fin_state hg hv hen (i:=0) (fun _=>⟨Int.le_refl _,by omega⟩) (fun _=>hse);refine⟨fun n=>(rfin y (rnew y r.s) 0).out.getD n.toNat default,.fin hk.1 (by rw [hnd];exact ha) (by rw [hnd,hs]) (b':=fun _=>[]) (fun n _ _=> ?_) (.done (by rw [hnd,hs];exact hfs.2.2.2 hk.2.1 hk.2.2) (fun n h0 h2=> ?_) (fun n _ _=>rfl)),fun n hn2=> ?_⟩
   ·rw [hnd,hs];show _=_++[];rw [List.append_nil]
   ·obtain rfl:n=0:=by omega
    exact ha
   ·have h3:=hrel.out n (by rw [rfin_len,(rnew_out y r.s).1];exact hn2);exact h3
  |v::l,r,a,he,hl,hv,hen,hnum,ha,herr=>by
   have hy:=sgchk_ok hg;have hn:=sneed_of hg hv;have hnd:=need_one hn hen hk;have herr0:(rtake y r 0 v).err=0:=by
    rcases Classical.em ((rtake y r 0 v).err=0) with h|h
    ·exact h
    ·exact absurd herr (rfin_err (rall_err hy.kind hk.2.2 l h) 0)
   have hrel:=(Rel.new he hl).take hy.kind hk.2.2 0 v;have herr2:(rtake y (rnew y r.s) 0 v).err=0:=by rw [←hrel.err];exact herr0
   have hvn:=hnum v (List.mem_cons_self ..);have hs:=stake_run hn hen (i:=0) (v:=v) (fun h=>absurd h hk.1) (fun _=>hnd.symm) hvn herr2;have ht:TakeOk y r.s 0 v:=⟨hy,hv,fun h=>absurd h hk.1,fun h1 h2=>by omega,hvn⟩
   have hts:=take_state ht hen;have e:(rtake y r 0 v).s=(rtake y (rnew y r.s) 0 v).s:=hrel.s;obtain⟨b',hd,hb⟩:=den_one hg hk acc l (rtake y r 0 v) (fun m=>if m=0 then l else a m) herr0 (by rw [rtake_len];exact hl) (by rw [e];exact hts.1) (by rw [e];exact hts.2.1) (fun u hu=>hnum u (List.mem_cons_of_mem _ hu)) (by rw [if_pos rfl]) herr;refine⟨fun n=>(rtake y (rnew y r.s) 0 v).out.getD n.toNat default++b' n,.take hk.1 (v:=v) (r:=l) (by rw [hnd];exact ha) (by rw [hnd,hs]) (b':=b') (fun n _ _=>by rw [hnd,hs]) (by rw [hnd,hs,←e];exact hd),fun n hn2=> ?_⟩;have h3:=hrel.out n (by rw [rtake_len,(rnew_out y r.s).1];exact hn2);have h4:=hb n hn2;show (rfin y (rall y (rtake y r 0 v) l) 0).out.getD n default=_;rw [h4,h3,List.append_assoc];rfl
end Pn
namespace Pn
theorem idxI_0 {l:List Int} {t:Int}:decide (0≤Wl.idxI l t)=true↔t∈l:=by rw [decide_eq_true_iff];exact Wl.idxI_mem _ _
theorem need_mg {y:Sg} {t:Ss} (hn:(sneed y t).2=0) (he:t.ended=false) (hk:y.kind=8):need y t=if t.count∈t.held then 1 - t.count else t.count:=by
  obtain⟨hg,hv⟩:=sneed_ok hn;have hy:=sneed_chk hn;unfold need sneed;rw [if_neg (fun h=>h hy),if_neg (by rw [hv];decide),if_neg (by rw [he];rintro (e|e);cases e;omega)];have hs:sended y t t.count=true↔t.count∈t.held:=by unfold sended;rw [if_pos hk];exact idxI_0
  by_cases h:t.count∈t.held
  ·rw [if_pos ⟨hk,hs.2 h⟩,if_pos h];rfl
  ·rw [if_neg (fun h2=>h (hs.1 h2.2)),if_pos hk,if_neg h];rfl
theorem sended_mg {y:Sg} {t:Ss} (hk:y.kind=8) {i:Int} (h:i ∉ t.held):sended y t i=false:=by
  unfold sended;rw [if_pos hk];cases hq:decide (0≤Wl.idxI t.held i) with
  |false=>rfl
  |true=>exact absurd (idxI_0.1 hq) h
theorem out_mg {y:Sg} (hk:y.kind=8∨y.kind=9) (t:Ss):(rnew y t).out=[[]]:=by
  unfold rnew;rcases hk with h|h<;>rw [h]<;>rfl
theorem den_mg2 {y:Sg} (hg:sgchk y=0) (hk:y.kind=8) (acc:Int): ∀ (l:List Int) (e:Int) (t:Ss) (a b:Int→List Int),sval y t=true→t.ended=false→t.held=[e]→(e=0∨e=1)→(∀ v∈l,num v=true)→a e=[]→a (1 - e)=l→b 0=l→Den y acc (l.length+1) t a b
  | [],e,t,a,b,hv,hen,hh,h01,hnum,ha,hb,hb0=>by
   have hn:=sneed_of hg hv;have hc:=(sval8 hv hk).1;have hnd:need y t=1 - e:=by
    rw [need_mg hn hen hk,hh];split
    ·rename_i h;rw [List.mem_singleton.1 h]
    ·rename_i h;have:t.count≠e:=fun h2=>h (List.mem_singleton.2 h2);omega
   have h2:hin y.kind=2:=by rw [hk];rfl
   have hs:=sfin_run hn hen (i:=1 - e) (fun h=>by omega) (fun _=>⟨by omega,sended_mg hk (by rw [hh];intro h;have:=List.mem_singleton.1 h;omega)⟩) (by rw [rfin8 hk];rfl);have ho:(rfin y (rnew y t) (1 - e)).out=[[]]:=by rw [rfin8 hk];exact out_mg (.inl hk) t
   refine .fin (by omega) (by rw [hnd];exact hb) (by rw [hnd,hs]) (b':=fun _=>[]) (fun n h0 h3=> ?_) (.done ?_ (fun n h0 h3=> ?_) (fun n _ _=>rfl))
   ·have:hout y.kind=1:=by rw [hk];rfl
    obtain rfl:n=0:=by omega
    rw [hnd,hs,hb0];show []=(rfin y (rnew y t) (1 - e)).out.getD 0 default++[];rw [ho];rfl
   ·rw [hnd,hs,rfin8 hk];show decide (((t.held++[1 - e]).length:Int)=2)=true;rw [hh];rfl
   ·have:n=e∨n=1 - e:=by omega
    rcases this with h|h
    ·rw [h];exact ha
    ·rw [h];exact hb
  |v::l,e,t,a,b,hv,hen,hh,h01,hnum,ha,hb,hb0=>by
   have hy:=sgchk_ok hg;have hn:=sneed_of hg hv;have hc:=(sval8 hv hk).1;have hnd:need y t=1 - e:=by
    rw [need_mg hn hen hk,hh];split
    ·rename_i h;rw [List.mem_singleton.1 h]
    ·rename_i h;have:t.count≠e:=fun h2=>h (List.mem_singleton.2 h2);omega
   have hvn:=hnum v (List.mem_cons_self ..);have e8:rtake y (rnew y t) (1 - e) v=⟨⟨t.held,1 - (1 - e),t.ended⟩,0,[[v]]⟩:=by
    rw [rtake8 hk,rsend_t rfl];unfold rcount;dsimp only;rw [out_mg (.inl hk) t];rfl
   have hs:=stake_run hn hen (i:=1 - e) (v:=v) (fun h=>by omega) (fun _=>hnd.symm) hvn (by rw [e8]);have ht:TakeOk y t (1 - e) v:=⟨hy,hv,fun h=>by omega,fun _ _=>by omega,hvn⟩
   have hts:=take_state ht hen;rw [e8] at hs hts;refine .take (by omega) (v:=v) (r:=l) (by rw [hnd];exact hb) (by rw [hnd,hs]) (b':=fun _=>l) (fun n h0 h3=> ?_) ?_
   ·have:hout y.kind=1:=by rw [hk];rfl
    obtain rfl:n=0:=by omega
    rw [hnd,hs,hb0];rfl
   ·rw [hnd,hs];refine den_mg2 hg hk acc l e _ _ _ hts.1 hts.2.1 hh h01 (fun u hu=>hnum u (List.mem_cons_of_mem _ hu)) ?_ ?_ rfl
    ·show (if e=1 - e then _ else _)=_;rw [if_neg (by omega)];exact ha
    ·show (if 1 - e=1 - e then _ else _)=_;rw [if_pos rfl]
theorem den_mg1 {y:Sg} (hg:sgchk y=0) (hk:y.kind=8) (acc:Int): ∀ (M:Nat) (p q:List Int) (t:Ss) (a b:Int→List Int),p.length+q.length=M→sval y t=true→t.ended=false→t.held=[]→(∀ v∈p,num v=true)→(∀ v∈q,num v=true)→a t.count=p→a (1 - t.count)=q→b 0=mrg p q→Den y acc (M+2) t a b:=by
  intro M;induction M with
  |zero=>
   intro p q t a b hM hv hen hh hp hq ha hb hb0;obtain rfl:p=[]:=List.eq_nil_of_length_eq_zero (by omega);obtain rfl:q=[]:=List.eq_nil_of_length_eq_zero (by omega);have hn:=sneed_of hg hv;have hc:=(sval8 hv hk).1;have hnd:need y t=t.count:=by rw [need_mg hn hen hk,hh,if_neg (by intro h;cases h)]
   have h2:hin y.kind=2:=by rw [hk];rfl
   have hse:=sended_mg (y:=y) (t:=t) hk (i:=t.count) (by rw [hh];intro h;cases h);have hs:=sfin_run hn hen (i:=t.count) (fun h=>by omega) (fun _=>⟨by omega,hse⟩) (by rw [rfin8 hk];rfl);have hfs:=fin_state hg hv hen (i:=t.count) (fun _=>by omega) (fun _=>hse);have e8:rfin y (rnew y t) t.count=⟨⟨[t.count],t.count,false⟩,0,[[]]⟩:=by
    rw [rfin8 hk];have ho:=out_mg (.inl hk) t;unfold rnew at ho ⊢;dsimp only at ho ⊢;rw [hh,ho,List.nil_append,List.mergeSort_singleton];rfl
   rw [e8] at hs hfs;refine .fin (by omega) (by rw [hnd];exact ha) (by rw [hnd,hs]) (b':=b) (fun n h0 h3=> ?_) ?_
   ·have:hout y.kind=1:=by rw [hk];rfl
    obtain rfl:n=0:=by omega
    rw [hnd,hs];rfl
   ·rw [hnd,hs];exact den_mg2 hg hk acc [] t.count _ _ _ hfs.1 rfl rfl (by omega) (fun v hv=>by cases hv) ha hb (by rw [hb0,mrg_nil])
  |succ M ih=>
   intro p q t a b hM hv hen hh hp hq ha hb hb0;have hy:=sgchk_ok hg;have hn:=sneed_of hg hv;have hc:=(sval8 hv hk).1;have hnd:need y t=t.count:=by rw [need_mg hn hen hk,hh,if_neg (by intro h;cases h)]
   have h2:hin y.kind=2:=by rw [hk];rfl
   cases p with
   |nil=>
    have hse:=sended_mg (y:=y) (t:=t) hk (i:=t.count) (by rw [hh];intro h;cases h);have hs:=sfin_run hn hen (i:=t.count) (fun h=>by omega) (fun _=>⟨by omega,hse⟩) (by rw [rfin8 hk];rfl);have hfs:=fin_state hg hv hen (i:=t.count) (fun _=>by omega) (fun _=>hse);have e8:rfin y (rnew y t) t.count=⟨⟨[t.count],t.count,false⟩,0,[[]]⟩:=by
     rw [rfin8 hk];have ho:=out_mg (.inl hk) t;unfold rnew at ho ⊢;dsimp only at ho ⊢;rw [hh,ho,List.nil_append,List.mergeSort_singleton];rfl
    rw [e8] at hs hfs;refine .fin (by omega) (by rw [hnd];exact ha) (by rw [hnd,hs]) (b':=b) (fun n h0 h3=> ?_) ?_
    ·have:hout y.kind=1:=by rw [hk];rfl
     obtain rfl:n=0:=by omega
     rw [hnd,hs];rfl
    ·rw [hnd,hs];have:=den_mg2 hg hk acc q t.count _ a b hfs.1 rfl rfl (by omega) hq ha hb (by rw [hb0,mrg_nil]);have e:q.length=M+1:=by simpa using hM
     rw [e] at this;exact this
   |cons v p=>
    have hvn:=hp v (List.mem_cons_self ..);have e8:rtake y (rnew y t) t.count v=⟨⟨t.held,1 - t.count,t.ended⟩,0,[[v]]⟩:=by
     rw [rtake8 hk,rsend_t rfl];unfold rcount;dsimp only;rw [out_mg (.inl hk) t];rfl
    have hs:=stake_run hn hen (i:=t.count) (v:=v) (fun h=>by omega) (fun _=>hnd.symm) hvn (by rw [e8]);have ht:TakeOk y t t.count v:=⟨hy,hv,fun h=>by omega,fun _ _=>by omega,hvn⟩
    have hts:=take_state ht hen;rw [e8] at hs hts;refine .take (by omega) (v:=v) (r:=p) (by rw [hnd];exact ha) (by rw [hnd,hs]) (b':=fun _=>mrg q p) (fun n h0 h3=> ?_) ?_
    ·have:hout y.kind=1:=by rw [hk];rfl
     obtain rfl:n=0:=by omega
     rw [hnd,hs,hb0,mrg_cons];rfl
    ·rw [hnd,hs];refine ih q p _ _ _ (by simp at hM;omega) hts.1 hts.2.1 hh hq (fun u hu=>hp u (List.mem_cons_of_mem _ hu)) ?_ ?_ rfl
     ·show (if 1 - t.count=t.count then _ else _)=_;rw [if_neg (by omega)];exact hb
     ·show (if 1 - (1 - t.count)=t.count then _ else _)=_;rw [if_pos (by omega)]
end Pn
namespace Pn
def zev (y:Sg) (a b:Int):Int×Int:=evalE y.expr (bindM (hnames y.kind) [a,b])
def zipL (y:Sg) (p q:List Int):List Int:=List.zipWith (fun a b=>(zev y a b).1) p q
theorem need_zip {y:Sg} {t:Ss} (hn:(sneed y t).2=0) (he:t.ended=false) (hk:y.kind=9):need y t=if t.count % 2=1∨0<t.held.length then 1 else 0:=by
  obtain⟨hg,hv⟩:=sneed_ok hn;have hy:=sneed_chk hn;have h8: ¬ y.kind=8:=by omega
  have hs:sended y t 0=true↔t.count % 2=1:=by
   unfold sended;rw [if_neg h8,if_pos hk,decide_eq_true_iff];show t.count / 1 % 2=1↔_;rw [Int.ediv_one]
  unfold need sneed;rw [if_neg (fun h=>h hy),if_neg (by rw [hv];decide),if_neg (by rw [he];rintro (e|e);cases e;omega),if_neg (fun h=>h8 h.1),if_neg h8];by_cases h:t.count % 2=1∨0<t.held.length
  ·rw [if_pos ⟨hk,h.elim (fun h=> .inl (hs.2 h)) .inr⟩,if_pos h];rfl
  ·rw [if_neg (fun h2=>h (h2.2.elim (fun h=> .inl (hs.1 h)) .inr)),if_neg h];rfl
theorem sended_zip {y:Sg} {t:Ss} (hk:y.kind=9) (i:Int):sended y t i=decide (t.count / 2 ^ i.toNat % 2=1):=by
  unfold sended;rw [if_neg (by omega),if_pos hk]
theorem rfin_zip {y:Sg} (hk:y.kind=9) (h:List Int) (c i:Int):rfin y (rnew y ⟨h,c,false⟩) i=⟨⟨if i=1 then [] else h,Go.Aw.orI c (i+1),decide (Go.Aw.orI c (i+1)=3)⟩,0,[[]]⟩:=by
  rw [rfin9 hk];have ho:=out_mg (.inr hk) ⟨h,c,false⟩;unfold rnew at ho ⊢;dsimp only at ho ⊢;rw [ho]
theorem den_z1 {y:Sg} (hg:sgchk y=0) (hk:y.kind=9) (acc:Int): ∀ (q:List Int) (a b:Int→List Int),sval y ⟨[],1,false⟩=true→(∀ v∈q,num v=true)→a 0=[]→a 1=q→b 0=[]→Den y acc (q.length+1) ⟨[],1,false⟩ a b
  | [],a,b,hv,hq,ha,hb,hb0=>by
   have hn:=sneed_of hg hv;have h2:hin y.kind=2:=by rw [hk];rfl
   have hnd:need y ⟨[],1,false⟩=1:=by rw [need_zip hn rfl hk];rfl
   have hs:=sfin_run hn rfl (i:=1) (fun h=>by omega) (fun _=>⟨by omega,by rw [sended_zip hk];rfl⟩) (by rw [rfin_zip hk]);rw [rfin_zip hk] at hs;refine .fin (by omega) (by rw [hnd];exact hb) (by rw [hnd,hs]) (b':=fun _=>[]) (fun n h0 h3=> ?_) (.done (by rw [hnd,hs];rfl) (fun n h0 h3=> ?_) (fun n _ _=>rfl))
   ·have:hout y.kind=1:=by rw [hk];rfl
    obtain rfl:n=0:=by omega
    rw [hnd,hs,hb0];rfl
   ·have:n=0∨n=1:=by omega
    rcases this with h|h
    ·rw [h];exact ha
    ·rw [h];exact hb
  |v::q,a,b,hv,hq,ha,hb,hb0=>by
   have hn:=sneed_of hg hv;have hnd:need y ⟨[],1,false⟩=1:=by rw [need_zip hn rfl hk];rfl
   have e9:rtake y (rnew y ⟨[],1,false⟩) 1 v=⟨⟨[],1,false⟩,0,[[]]⟩:=by
    rw [rtake9 hk];unfold rzip;rw [if_neg (by decide),if_neg (by show ¬ ((0:Nat):Int)=1;decide)];have ho:=out_mg (.inr hk) ⟨[],1,false⟩;unfold rnew at ho ⊢;dsimp only at ho ⊢;rw [ho]
   have hs:=stake_run hn rfl (i:=1) (v:=v) (fun h=>by omega) (fun _=>hnd.symm) (hq v (List.mem_cons_self ..)) (by rw [e9]);rw [e9] at hs;refine .take (by omega) (v:=v) (r:=q) (by rw [hnd];exact hb) (by rw [hnd,hs]) (b':=fun _=>[]) (fun n h0 h3=> ?_) ?_
   ·have:hout y.kind=1:=by rw [hk];rfl
    obtain rfl:n=0:=by omega
    rw [hnd,hs,hb0];rfl
   ·rw [hnd,hs];refine den_z1 hg hk acc q _ _ hv (fun u hu=>hq u (List.mem_cons_of_mem _ hu)) ?_ ?_ rfl
    ·show (if (0:Int)=1 then _ else _)=_;rw [if_neg (by decide)];exact ha
    ·show (if (1:Int)=1 then _ else _)=_;rw [if_pos rfl]
theorem den_z2 {y:Sg} (hg:sgchk y=0) (hk:y.kind=9) (acc:Int): ∀ (p:List Int) (a b:Int→List Int),sval y ⟨[],2,false⟩=true→(∀ v∈p,num v=true)→a 0=p→a 1=[]→b 0=[]→Den y acc (p.length+1) ⟨[],2,false⟩ a b
  | [],a,b,hv,hq,ha,hb,hb0=>by
   have hn:=sneed_of hg hv;have h2:hin y.kind=2:=by rw [hk];rfl
   have hnd:need y ⟨[],2,false⟩=0:=by rw [need_zip hn rfl hk];rfl
   have hs:=sfin_run hn rfl (i:=0) (fun h=>by omega) (fun _=>⟨by omega,by rw [sended_zip hk];rfl⟩) (by rw [rfin_zip hk]);rw [rfin_zip hk] at hs;refine .fin (by omega) (by rw [hnd];exact ha) (by rw [hnd,hs]) (b':=fun _=>[]) (fun n h0 h3=> ?_) (.done (by rw [hnd,hs];rfl) (fun n h0 h3=> ?_) (fun n _ _=>rfl))
   ·have:hout y.kind=1:=by rw [hk];rfl
    obtain rfl:n=0:=by omega
    rw [hnd,hs,hb0];rfl
   ·have:n=0∨n=1:=by omega
    rcases this with h|h
    ·rw [h];exact ha
    ·rw [h];exact hb
  |v::q,a,b,hv,hq,ha,hb,hb0=>by
   have hn:=sneed_of hg hv;have hnd:need y ⟨[],2,false⟩=0:=by rw [need_zip hn rfl hk];rfl
   have e9:rtake y (rnew y ⟨[],2,false⟩) 0 v=⟨⟨[],2,false⟩,0,[[]]⟩:=by
    rw [rtake9 hk];unfold rzip;rw [if_pos rfl,if_neg (show ¬ (rnew y ⟨[],2,false⟩).s.count / 2*2=0 from (by decide: ¬ (2:Int) / 2*2=0))];have ho:=out_mg (.inr hk) ⟨[],2,false⟩;unfold rnew at ho ⊢;dsimp only at ho ⊢;rw [ho]
   have hs:=stake_run hn rfl (i:=0) (v:=v) (fun h=>by omega) (fun _=>hnd.symm) (hq v (List.mem_cons_self ..)) (by rw [e9]);rw [e9] at hs;refine .take (by omega) (v:=v) (r:=q) (by rw [hnd];exact ha) (by rw [hnd,hs]) (b':=fun _=>[]) (fun n h0 h3=> ?_) ?_
   ·have:hout y.kind=1:=by rw [hk];rfl
    obtain rfl:n=0:=by omega
    rw [hnd,hs,hb0];rfl
   ·rw [hnd,hs];refine den_z2 hg hk acc q _ _ hv (fun u hu=>hq u (List.mem_cons_of_mem _ hu)) ?_ ?_ rfl
    ·show (if (0:Int)=0 then _ else _)=_;rw [if_pos rfl]
    ·show (if (1:Int)=0 then _ else _)=_;rw [if_neg (by decide)];exact hb
theorem sval_zip {y:Sg} (hk:y.kind=9) {h:List Int} {c:Int} (hc:0≤c∧c<3) (hh:h.length≤1) (hn: ∀ v∈h,num v=true) (h2:c<2∨h=[]):sval y ⟨h,c,false⟩=true:=by
  have hb:=(sbnd_k y).1 hk;refine sval_mk ⟨hc.1,by rw [hb];show c≤3;omega⟩ (by rw [hb];show (h.length:Int)≤1;omega) hn (fun h=>by omega) (fun h=>by omega) (fun _=>⟨?_,h2⟩);show false=decide (c=3);rw [decide_eq_false (by omega)]
theorem den_zip {y:Sg} (hg:sgchk y=0) (hk:y.kind=9) (acc:Int): ∀ (p q:List Int) (a b:Int→List Int),(∀ v∈p,num v=true)→(∀ v∈q,num v=true)→(∀ j,j<min p.length q.length→(zev y (p.getD j default) (q.getD j default)).2=0)→a 0=p→a 1=q→b 0=zipL y p q→Den y acc (p.length+q.length+2) S0 a b
  | [],q,a,b,hp,hq,hev,ha,hb,hb0=>by
   have hv:sval y ⟨[],0,false⟩=true:=sval_zip hk (by omega) (Nat.zero_le _) (fun v h=>by cases h) (.inl (by decide));have hn:=sneed_of hg hv;have h2:hin y.kind=2:=by rw [hk];rfl
   have hnd:need y S0=0:=by rw [show S0=⟨[],0,false⟩ from rfl,need_zip hn rfl hk];rfl
   have hs:=sfin_run hn rfl (i:=0) (fun h=>by omega) (fun _=>⟨by omega,by rw [sended_zip hk];rfl⟩) (by rw [rfin_zip hk]);rw [rfin_zip hk] at hs;have hs':sfin y S0 0=(⟨[],1,false⟩,[[]],false,0):=hs;rw [show ([]:List Int).length+q.length+2=(q.length+1)+1 by simp];refine .fin (by omega) (by rw [hnd];exact ha) (by rw [hnd,hs']) (b':=b) (fun n h0 h3=> ?_) ?_
   ·have:hout y.kind=1:=by rw [hk];rfl
    obtain rfl:n=0:=by omega
    rw [hnd,hs'];rfl
   ·rw [hnd,hs'];exact den_z1 hg hk acc q a b (sval_zip hk (by omega) (Nat.zero_le _) (fun v h=>by cases h) (.inl (by decide))) hq ha hb (by rw [hb0];rfl)
  |x::p,q,a,b,hp,hq,hev,ha,hb,hb0=>by
   have hv:sval y ⟨[],0,false⟩=true:=sval_zip hk (by omega) (Nat.zero_le _) (fun v h=>by cases h) (.inl (by decide));have hn:=sneed_of hg hv;have h2:hin y.kind=2:=by rw [hk];rfl
   have h1:hout y.kind=1:=by rw [hk];rfl
   have hnd:need y S0=0:=by rw [show S0=⟨[],0,false⟩ from rfl,need_zip hn rfl hk];rfl
   have hxn:=hp x (List.mem_cons_self ..);have e9:rtake y (rnew y ⟨[],0,false⟩) 0 x=⟨⟨[x],0,false⟩,0,[[]]⟩:=by
    rw [rtake9 hk];unfold rzip;rw [if_pos rfl,if_pos (show (rnew y ⟨[],0,false⟩).s.count / 2*2=0 from (by decide:(0:Int) / 2*2=0))];have ho:=out_mg (.inr hk) ⟨[],0,false⟩;unfold rnew at ho ⊢;dsimp only at ho ⊢;rw [ho]
   have hs:=stake_run hn rfl (i:=0) (v:=x) (fun h=>by omega) (fun _=>hnd.symm) hxn (by rw [e9]);rw [e9] at hs;have hs':stake y S0 0 x=(⟨[x],0,false⟩,[[]],0):=hs;have hv2:sval y ⟨[x],0,false⟩=true:=sval_zip hk (by omega) (Nat.le_refl _) (fun v h=>by rw [List.mem_singleton.1 h];exact hxn) (.inl (by decide));have hn2:=sneed_of hg hv2;have hnd2:need y ⟨[x],0,false⟩=1:=by rw [need_zip hn2 rfl hk];rfl
   cases q with
   |nil=>
    rw [show (x::p).length+([]:List Int).length+2=((p.length+1)+1)+1 by simp];refine .take (by omega) (v:=x) (r:=p) (by rw [hnd];exact ha) (by rw [hnd,hs']) (b':=b) (fun n h0 h3=> ?_) ?_
    ·obtain rfl:n=0:=by omega
     rw [hnd,hs'];rfl
    ·rw [hnd,hs'];have hs2:=sfin_run hn2 rfl (i:=1) (fun h=>by omega) (fun _=>⟨by omega,by rw [sended_zip hk];rfl⟩) (by rw [rfin_zip hk]);rw [rfin_zip hk] at hs2;have hs2':sfin y ⟨[x],0,false⟩ 1=(⟨[],2,false⟩,[[]],false,0):=hs2;refine .fin (by omega) ?_ (by rw [hnd2,hs2']) (b':=b) (fun n h0 h3=> ?_) ?_
     ·rw [hnd2];show (if (1:Int)=0 then _ else _)=_;rw [if_neg (by decide)];exact hb
     ·obtain rfl:n=0:=by omega
      rw [hnd2,hs2'];rfl
     ·rw [hnd2,hs2'];refine den_z2 hg hk acc p _ _ (sval_zip hk (by omega) (Nat.zero_le _) (fun v h=>by cases h) (.inr rfl)) (fun u hu=>hp u (List.mem_cons_of_mem _ hu)) ?_ ?_ (by rw [hb0];rfl)
      ·show (if (0:Int)=0 then _ else _)=_;rw [if_pos rfl]
      ·show (if (1:Int)=0 then _ else _)=_;rw [if_neg (by decide)];exact hb
   |cons w q=>
    rw [show (x::p).length+(w::q).length+2=((p.length+q.length+2)+1)+1 by simp;omega];have hwn:=hq w (List.mem_cons_self ..);have hev0:(zev y x w).2=0:=hev 0 (by simp);refine .take (by omega) (v:=x) (r:=p) (by rw [hnd];exact ha) (by rw [hnd,hs']) (b':=b) (fun n h0 h3=> ?_) ?_
    ·obtain rfl:n=0:=by omega
     rw [hnd,hs'];rfl
    ·rw [hnd,hs'];have e9b:rtake y (rnew y ⟨[x],0,false⟩) 1 w=⟨⟨[],0,false⟩,0,[[(zev y x w).1]]⟩:=by
      rw [rtake9 hk];unfold rzip;rw [if_neg (by decide),if_pos (by show ((1:Nat):Int)=1;decide)];have ho:=out_mg (.inr hk) ⟨[x],0,false⟩;unfold rnew at ho ⊢;dsimp only at ho ⊢;rw [ho];have he:(reval y ⟨⟨[],0,false⟩,0,[[]]⟩ x w).1=⟨⟨[],0,false⟩,0,[[]]⟩:=by
       unfold reval;dsimp only;rw [if_pos rfl];have:(evalE y.expr (bindM (hnames y.kind) [x,w])).2=0:=hev0;rw [this]
      show rsend (reval y ⟨⟨[],0,false⟩,0,[[]]⟩ x w).1 0 _=_;rw [he,rsend_t rfl];rfl
     have hs2:=stake_run hn2 rfl (i:=1) (v:=w) (fun h=>by omega) (fun _=>hnd2.symm) hwn (by rw [e9b]);rw [e9b] at hs2;refine .take (by omega) (v:=w) (r:=q) ?_ (by rw [hnd2,hs2]) (b':=fun _=>zipL y p q) (fun n h0 h3=> ?_) ?_
     ·rw [hnd2];show (if (1:Int)=0 then _ else _)=_;rw [if_neg (by decide)];exact hb
     ·obtain rfl:n=0:=by omega
      rw [hnd2,hs2,hb0];rfl
     ·rw [hnd2,hs2];refine den_zip hg hk acc p q _ _ (fun u hu=>hp u (List.mem_cons_of_mem _ hu)) (fun u hu=>hq u (List.mem_cons_of_mem _ hu)) (fun j hj=> ?_) ?_ ?_ rfl
      ·have:=hev (j+1) (by simp at hj ⊢;omega);exact this
      ·show (if (0:Int)=1 then _ else if (0:Int)=0 then _ else _)=_;rw [if_neg (by decide),if_pos rfl]
      ·show (if (1:Int)=1 then _ else _)=_;rw [if_pos rfl]
theorem rzipK_ok {y:Sg} (hk:y.kind=9) (p q:List Int): ∀ k:Nat,(rzipK y p q (rnew y S0) k).err=0→(∀ j,j<k→(zev y (p.getD j default) (q.getD j default)).2=0)∧(rzipK y p q (rnew y S0) k).out=[(List.range k).map fun j=>(zev y (p.getD j default) (q.getD j default)).1]
  |0,_=>⟨fun j hj=>by omega,out_mg (.inr hk) S0⟩
  |k+1,h=>by
   rw [rzipK,rsend_e1] at h;have h0:(rzipK y p q (rnew y S0) k).err=0:=by
    rcases Classical.em ((rzipK y p q (rnew y S0) k).err=0) with h1|h1
    ·exact h1
    ·exact absurd h (reval_err h1 _ _)
   obtain⟨a,b⟩:=rzipK_ok hk p q k h0;have h2:(zev y (p.getD k default) (q.getD k default)).2=0:=by
    unfold reval at h;dsimp only at h;rw [if_pos h0] at h;exact h
   refine⟨fun j hj=> ?_,?_⟩
   ·rcases Nat.lt_succ_iff_lt_or_eq.1 hj with h3|h3
    ·exact a j h3
    ·rw [h3];exact h2
   ·rw [rzipK,rsend_t h];show (rzipK y p q (rnew y S0) k).out.set 0 ((rzipK y p q (rnew y S0) k).out.getD 0 []++[_])=_;rw [b,List.range_succ,List.map_append];rfl
theorem zipL_eq (y:Sg) (p q:List Int):(List.range (min p.length q.length)).map (fun j=>(zev y (p.getD j default) (q.getD j default)).1)=zipL y p q:=by
  refine List.ext_getElem? fun k=> ?_;unfold zipL;rw [List.getElem?_map,List.getElem?_zipWith];rcases Nat.lt_or_ge k (min p.length q.length) with h|h
  ·rw [List.getElem?_range h];have h1:k<p.length:=by omega
   have h2:k<q.length:=by omega
   rw [List.getElem?_eq_getElem h1,List.getElem?_eq_getElem h2];simp [List.getD,h1,h2]
  ·rw [List.getElem?_eq_none (by rw [List.length_range];exact h)];rcases Nat.lt_or_ge k p.length with h1|h1
   ·rw [List.getElem?_eq_none (l:=q) (by omega)];cases p[k]?<;>rfl
   ·rw [List.getElem?_eq_none (l:=p) h1];rfl
theorem smean_ok {y:Sg} {L:List (List Int)} (h:(smean y L).2=0):sgchk y=0∧(L.length:Int)=hin y.kind∧(∀ l∈L,l.length≤200∧ ∀ n∈l,num n=true)∧(swhole y L (rnew y S0)).err=0∧(∀ l∈(swhole y L (rnew y S0)).out,l.length≤200)∧(smean y L).1=(swhole y L (rnew y S0)).out:=by
  unfold smean at h ⊢;split at h
  ·rename_i h1;exact absurd h h1
  split at h
  ·cases h
  split at h
  ·rename_i h1;exact absurd h h1
  split at h
  ·rename_i h1;exact absurd h h1
  split at h
  ·cases h
  rename_i a1 a2 a3 a4 a5;rw [if_neg a1,if_neg a2,if_neg a3,if_neg a4,if_neg a5];refine⟨Classical.not_not.1 a1,Classical.not_not.1 a2,fun l hl=>lchk_ok (lchks_mem (Classical.not_not.1 a3) l hl),Classical.not_not.1 a4,fun l hl=> ?_,rfl⟩;rcases Nat.lt_or_ge 200 l.length with h5|h5
  ·exact absurd (List.any_eq_true.2 ⟨l,hl,decide_eq_true h5⟩) a5
  ·exact h5
theorem den_mean {y:Sg} {L:List (List Int)} (h:(smean y L).2=0) (hk1:y.kind≠1) (acc:Int) (a:Int→List Int) (ha: ∀ n:Nat,n<L.length→a n=L.getD n default):
  ∃ N b,Den y acc N S0 a b∧N≤402∧ ∀ n:Nat,n<(hout y.kind).toNat→b n=(smean y L).1.getD n default:=by
  obtain⟨hg,hL,hl,herr,hlen,e⟩:=smean_ok h;have hy:=sgchk_ok hg;have hi:=hin1 hy.kind;rw [e];by_cases h8:y.kind=8
  ·obtain⟨p,q,rfl⟩:=len2 (show L.length=2 by have:=hi.2.1 h8;omega);have hp:=hl p (by simp);have hq:=hl q (by simp);rw [swhole_8 h8];have ho:=out_mg (.inl h8) S0;refine⟨p.length+q.length+2,fun _=>mrg p q,den_mg1 hg h8 acc _ p q S0 a _ rfl (S0_sval hg) rfl rfl hp.2 hq.2 (ha 0 (by simp)) (ha 1 (by simp)) rfl,by omega,fun n hn=> ?_⟩;have h1:hout y.kind=1:=by rw [h8];rfl
   obtain rfl:n=0:=by omega
   show mrg p q=((rnew y S0).out.set 0 (mrg p q)).getD 0 default;rw [ho];rfl
  ·by_cases h9:y.kind=9
   ·obtain⟨p,q,rfl⟩:=len2 (show L.length=2 by have:=hi.2.2.1 h9;omega);have hp:=hl p (by simp);have hq:=hl q (by simp);rw [swhole_9 h9] at herr ⊢;obtain⟨h2,h3⟩:=rzipK_ok h9 p q _ herr;refine⟨p.length+q.length+2,fun _=>zipL y p q,den_zip hg h9 acc p q a _ hp.2 hq.2 h2 (ha 0 (by simp)) (ha 1 (by simp)) rfl,by omega,fun n hn=> ?_⟩;have h1:hout y.kind=1:=by rw [h9];rfl
    obtain rfl:n=0:=by omega
    rw [h3,zipL_eq];rfl
   ·obtain⟨p,rfl⟩:=len1 (show L.length=1 by have:=hi.2.2.2.1 ⟨hk1,h8,h9⟩;omega);have hp:=hl p (by simp);rw [swhole_x ⟨hk1,h8,h9⟩] at herr ⊢;obtain⟨b,hd,hb⟩:=den_one hg ⟨hk1,h8,h9⟩ acc p (rnew y S0) a rfl (rnew_out y S0).1 (S0_sval hg) rfl hp.2 (ha 0 (by simp)) herr;refine⟨p.length+1,b,hd,by omega,fun n hn=> ?_⟩;rw [hb n hn];have:(rnew y S0).out.getD n default=[]:=by
     unfold rnew;show (List.replicate _ []).getD n default=[]
     rw [List.getD,List.getElem?_replicate];split<;>rfl
    rw [this,List.nil_append]
end Pn
namespace Dg
def elt (a b:Ed):Prop:=a.u<b.u∨(a.u=b.u∧a.v<b.v)
theorem elt_lessI {a b:Ed} (h:elt a b):lessI a b<0:=by
  unfold elt at h;unfold lessI;split<;>omega
theorem srt_sorted (l:List Ed):(srt l).Pairwise fun a b=> ¬ elt b a:=by
  have:=List.pairwise_mergeSort (le:=fun x y:Ed=> !decide (y.u<x.u∨(y.u=x.u∧y.v<x.v)))
   (fun a b c h1 h2=>by simp at h1 h2 ⊢;omega) (fun a b=>by simp;omega) l
  refine this.imp fun {a b} h=> ?_;unfold elt;simp at h;omega
theorem srt_mem {l:List Ed} {e:Ed}:e∈srt l↔e∈l:=List.mem_mergeSort
theorem elt_trans {a b c:Ed} (h1: ¬ elt b a) (h2: ¬ elt c b) (h3:b≠c):elt a c:=by
  have: ¬ (b.u=c.u∧b.v=c.v):=fun h=>h3 (ed_eq h);unfold elt at*;omega
theorem cmpU_mem {l:List Ed}: ∀ k,k≤l.length→ ∀ e,e∈cmpU l k↔e∈l.take k
  |0,_,e=>by rw [cmpU,List.take_zero]
  |k+1,hk,e=>by
   have ih:=cmpU_mem (l:=l) k (by omega) e;rw [take_getD hk,cmpU];split
   ·rename_i h;rw [ih,List.mem_append,List.mem_singleton];refine⟨.inl,fun h2=>h2.elim id fun h3=> ?_⟩;rw [h3,h.2,List.getD,List.getElem?_eq_getElem (by omega),Option.getD_some];exact List.mem_take_iff_getElem.2 ⟨k - 1,by omega,rfl⟩
   ·rw [List.mem_append,List.mem_append,ih]
theorem cmpU_strict {l:List Ed} (hs:l.Pairwise fun a b=> ¬ elt b a): ∀ k,k≤l.length→(cmpU l k).Pairwise elt
  |0,_=> .nil
  |k+1,hk=>by
   have ih:=cmpU_strict hs k (by omega);rw [cmpU];split
   ·exact ih
   ·rename_i h;rw [List.pairwise_append];refine⟨ih,List.pairwise_singleton _ _,fun a ha b hb=> ?_⟩;rw [List.mem_singleton.1 hb];rw [cmpU_mem k (by omega)] at ha;obtain⟨i,hi,rfl⟩:=List.mem_take_iff_getElem.1 ha;have hpw:=List.pairwise_iff_getElem.1 hs;have hk0:l.getD k default=l[k]:=by rw [List.getD,List.getElem?_eq_getElem (by omega),Option.getD_some]
    have hk1:l.getD (k - 1) default=l[k - 1]:=by rw [List.getD,List.getElem?_eq_getElem (by omega),Option.getD_some]
    have hne:l[k - 1]≠l[k]:=fun e=>h ⟨by omega,by rw [hk0,hk1,e]⟩;rw [hk0];refine elt_trans (b:=l[k - 1]) ?_ (hpw (k - 1) k (by omega) (by omega) (by omega)) hne;rcases Nat.lt_or_ge i (k - 1) with h2|h2
    ·exact hpw i (k - 1) (by omega) (by omega) h2
    ·obtain rfl:i=k - 1:=by omega
     unfold elt;omega
theorem chkL_strict {n:Int}: ∀ {l:List Ed} {p:Option Ed},(∀ e∈l,bad n e=false)→l.Pairwise elt→(∀ q∈p,∀ e∈l,elt q e)→chkL n p l=0
  | [],_,_,_,_=>rfl
  |e::r,p,hb,hs,hp=>by
   obtain⟨h1,h2⟩:=List.pairwise_cons.1 hs;rw [chkL,if_neg (by rw [hb e (List.mem_cons_self ..)];decide),if_neg]
   ·exact chkL_strict (fun x hx=>hb x (List.mem_cons_of_mem _ hx)) h2 (fun q hq x hx=>by cases hq;exact h1 x hx)
   ·rintro⟨q,hq,h3⟩;have:=elt_lessI (hp q hq e (List.mem_cons_self ..));omega
theorem ord_none {n:Int} {l:List Ed} (hok:OkE n l): ∀ (f:Nat) (op:Int→Int) (out:List Int),OI l op out→out.length+f=n.toNat→ord (gr n l) f op out=none→
  ∃ o:List Int,(∃ y:Int,(0≤y∧y<n)∧y ∉ o)∧ ∀ y:Int,0≤y∧y<n→y ∉ o→ ∃ z∈l,z.v=y∧z.u ∉ o
  |0,op,out,hi,hl,h=>by cases h
  |f+1,op,out,hi,hl,h=>by
   rw [ord] at h;split at h
   ·rename_i hp;have hp':pick n.toNat op<0:=hp;have hn:=pick_neg hp';refine⟨out,?_,fun y hy hyo=> ?_⟩
    ·rcases Classical.em (∃ y:Int,(0≤y∧y<n)∧y ∉ out) with h1|h1
     ·exact h1
     ·exfalso;have h2: ∀ x∈(List.range n.toNat).map (fun (j:Nat)=>(j:Int)),x∈out:=by
       intro x hx;obtain⟨j,hj,rfl⟩:=List.mem_map.1 hx;rw [List.mem_range] at hj;rcases Classical.em ((j:Int)∈out) with h3|h3
       ·exact h3
       ·exact absurd ⟨(j:Int),by omega,h3⟩ h1
      have hnd:((List.range n.toNat).map (fun (j:Nat)=>(j:Int))).Nodup:=List.Pairwise.map _ (fun a b (h:a≠b) (e:(a:Int)=(b:Int))=>h (Int.ofNat.inj e)) List.nodup_range;have h3:=Pn.sub_len _ out hnd h2;rw [List.length_map,List.length_range] at h3;omega
    ·have h1:=hn y hy.1 (by omega);rw [hi.free y hyo] at h1;rcases Classical.em (∃ z∈l,z.v=y∧z.u ∉ out) with h2|h2
     ·exact h2
     ·refine absurd (degO_zero.2 fun z hz hv=> ?_) h1;rcases Classical.em (z.u∈out) with h3|h3
      ·exact h3
      ·exact absurd ⟨z,hz,hv,h3⟩ h2
   ·rename_i hp;have hp': ¬ pick n.toNat op<0:=hp;obtain⟨p1,p2⟩:=pick_spec (Int.not_lt.1 hp');have hlt:=pick_lt (Int.not_lt.1 hp');have hsuc:suc (gr n l) (pick n.toNat op)=sc l (pick n.toNat op):=suc_gr ⟨Int.not_lt.1 hp',by have:=hok.nb;omega⟩;have hi2:=hi.next p1;rw [←hsuc] at hi2;exact ord_none hok f _ _ hi2 (by rw [List.length_append,List.length_singleton];omega) h
end Dg
namespace Pn
theorem edS_mem {z:Pl} {e:Dg.Ed}:e∈edS z↔ ∃ k,k<z.pipes.length∧edP (pip z k)=e:=by
  unfold edS;rw [Dg.cmpU_mem _ (Nat.le_refl _),List.take_length,Dg.srt_mem];unfold edg;rw [List.mem_map];constructor
  ·rintro⟨y,hy,rfl⟩;obtain⟨k,hk,rfl⟩:=List.getElem_of_mem hy;exact⟨k,hk,by rw [pip_get hk]⟩
  ·rintro⟨k,hk,rfl⟩;exact⟨pip z k,by rw [pip_get hk];exact List.getElem_mem hk,rfl⟩
theorem edS_chk {z:Pl} (hx:Pok z):Dg.chk z.stages.length (edS z)=0:=by
  have hn:=hx.n;have hl:(edS z).length≤z.pipes.length:=by
   have:=Dg.cmpU_le (Dg.srt (edg z)) (Dg.srt (edg z)).length;rw [Dg.srt_len,edg_len] at this;show (Dg.cmpU _ _).length≤_;rw [Dg.srt_len,edg_len];exact this
  have hp:=hx.np;unfold Dg.chk;rw [if_neg (by omega),if_neg (by omega)];refine Dg.chkL_strict (fun e he=> ?_) (Dg.cmpU_strict (Dg.srt_sorted _) _ (Nat.le_refl _)) (fun q hq=>by cases hq);obtain⟨k,hk,rfl⟩:=edS_mem.1 he;have:=hx.pip hk;exact Dg.bad_iff.2 ⟨this.fr,this.to⟩
theorem edS_acyclic {z:Pl} (hx:Pok z):Dg.orderE z.stages.length (edS z)=0:=by
  have hc:=edS_chk hx;rcases Classical.em (Dg.orderE z.stages.length (edS z)=0) with h|h
  ·exact h
  ·exfalso;have h0:Dg.OI (edS z) (Dg.deg (edS z)) []:=⟨fun j _=>(Dg.degO_nil _ j).symm,by simp⟩
   have hnone:Dg.ordO z.stages.length (edS z)=none:=by
    unfold Dg.orderE at h;rw [if_neg (by omega)] at h;cases e:Dg.ordO z.stages.length (edS z) with
    |none=>rfl
    |some o=>rw [e] at h;exact absurd rfl h
   obtain⟨o,⟨y,hy,hyo⟩,hall⟩:=Dg.ord_none (Dg.okE hc) _ _ [] h0 (by simp) hnone;have hw: ∀ i:Int,∃ k:Nat,(0≤i∧i<z.stages.length)∧i ∉ o→k<z.pipes.length∧(pip z k).to_=i∧(pip z k).from_ ∉ o:=by
    intro i;rcases Classical.em ((0≤i∧i<z.stages.length)∧i ∉ o) with h1|h1
    ·obtain⟨e,he,h2,h3⟩:=hall i h1.1 h1.2;obtain⟨k,hk,rfl⟩:=edS_mem.1 he;exact⟨k,fun _=>⟨hk,h2,h3⟩⟩
    ·exact⟨0,fun h2=>absurd h2 h1⟩
   obtain⟨p,hp⟩:=Classical.axiomOfChoice hw;refine hx.pick (U:=fun i=>(0≤i∧i<z.stages.length)∧i ∉ o) (fun i hi=>hi.1) p (fun i hu=> ?_) (fun a b ha hb hab=> ?_) y ⟨hy,hyo⟩
   ·obtain⟨a,b,c⟩:=hp i hu;exact⟨a,.inr b,⟨(hx.pip a).fr,c⟩,by rw [b];exact hu⟩
   ·have h1:=(hp a ha).2.1;have h2:=(hp b hb).2.1;rw [←h1,hab];exact h2
structure Topo (z:Pl):Prop where
  bd: ∀ u∈pord z,0≤u∧u<z.stages.length
  all: ∀ i:Int,0≤i∧i<z.stages.length→i∈pord z
  nd:(pord z).Nodup
  pre: ∀ j (h:j<(pord z).length),∀ k,k<z.pipes.length→(pip z k).to_=(pord z)[j]→(pip z k).from_∈(pord z).take j
theorem topo {z:Pl} (hx:Pok z):Topo z:=by
  have h:=edS_acyclic hx;obtain⟨b1,b2⟩:=Dg.order_bd h;have hl:=Dg.order_law h;have hnd:(pord z).Nodup:=by
   rw [List.Nodup,List.pairwise_iff_getElem];intro i j hi hj hij e;have:=(Dg.frB_iff.1 (hl j hj).1).1;refine this ?_;show (pord z)[j]∈(pord z).take j;rw [←e];exact List.mem_take_iff_getElem.2 ⟨i,by omega,rfl⟩
  refine⟨b1,fun i hi=> ?_,hnd,fun j hj k hk hto=> ?_⟩
  ·refine sub_surj (m:=(List.range z.stages.length).map (fun (j:Nat)=>(j:Int))) hnd (fun x hxm=> ?_) ?_ ?_
   ·have:=b1 x hxm;exact List.mem_map.2 ⟨x.toNat,List.mem_range.2 (by omega),by omega⟩
   ·rw [List.length_map,List.length_range];show _≤(Dg.orderL _ _).length;omega
   ·exact List.mem_map.2 ⟨i.toNat,List.mem_range.2 (by omega),by omega⟩
  ·exact (Dg.frB_iff.1 (hl j hj).1).2 _ (edS_mem.2 ⟨k,hk,rfl⟩) hto
end Pn
namespace Pn
theorem putK_get {z:Pl} (hx:Pok z) {i:Int} (hi:0≤i∧i<z.stages.length) (T:Int→List Int) (out:List (List Int)): ∀ n:Nat,(n:Int)≤hout (stg z i).kind→ ∀ q:Nat,q<z.pipes.length→
  putK z T i out n (q:Int)=if (pip z q).from_=i∧(pip z q).output<n then out.getD (pip z q).output.toNat default else T (q:Int)
  |0,_,q,hq=>by
   have:=(hx.pip hq).out;rw [putK,if_neg (by omega)]
  |n+1,hn,q,hq=>by
   have ih:=putK_get hx hi T out n (by omega) q hq;have hp:=hx.pip hq;rw [putK];unfold Dg.upd;by_cases e:(q:Int)=outP z i (n:Int)
   ·rw [if_pos e];obtain⟨a,b⟩:=outP_pip hx hq e.symm hi (by omega);rw [if_pos ⟨a,by omega⟩,b];rfl
   ·rw [if_neg e,ih];have hne: ¬ ((pip z q).from_=i∧(pip z q).output=n):=by
     rintro⟨a,b⟩;have:=hp.outP;rw [a,b] at this;exact e this.symm
    by_cases hc:(pip z q).from_=i∧(pip z q).output<n
    ·rw [if_pos hc,if_pos ⟨hc.1,by omega⟩]
    ·rw [if_neg hc,if_neg (fun h=>hc ⟨h.1,by have:=h.2;have h3:(pip z q).output≠n:=fun h4=>hne ⟨h.1,h4⟩;omega⟩)]
structure Strm (z:Pl) (T:Int→List Int):Prop where
  ok: ∀ i:Int,0≤i∧i<z.stages.length→(smean (stg z i) (ins z T i)).2=0
  eq: ∀ i:Int,0≤i∧i<z.stages.length→ ∀ n:Nat,n<(hout (stg z i).kind).toNat→T (outP z i (n:Int))=(smean (stg z i) (ins z T i)).1.getD n default
theorem insK_congr {z:Pl} {T T':Int→List Int} {i:Int}: ∀ n:Nat,(∀ m:Nat,m<n→T (inP z i (m:Int))=T' (inP z i (m:Int)))→insK z T i n=insK z T' i n
  |0,_=>rfl
  |n+1,h=>by rw [insK_succ,insK_succ,insK_congr n (fun m hm=>h m (by omega)),h n (by omega)]
theorem pmean_strm {z:Pl} (hx:Pok z) (hr: ∀ i:Int,0≤i∧i<z.stages.length→(stg z i).kind=5→(stg z i).size≤4) (h:(pmean z).2=0):
  Strm z (pmK z (pord z).length).1∧(∀ i:Int,0≤i∧i<z.stages.length→(stg z i).kind=10→(pmK z (pord z).length).2 i=(ins z (pmK z (pord z).length).1 i).getD 0 default)∧(pmean z).1=snkL z (pmK z (pord z).length).2 z.stages.length:=by
  have ht:=topo hx;unfold pmean at h ⊢;split at h
  ·rename_i h1;exact absurd h h1
  rename_i h1;rw [if_neg h1];split at h
  ·rename_i h2;exact absurd h h2
  rename_i h2;rw [if_neg h2];have herr: ∀ j,j<(pord z).length→pmE z j=0:=fun j hj=>fst0_zero (Classical.not_not.1 h2) _ (List.mem_map.2 ⟨j,List.mem_range.2 hj,rfl⟩);have hib: ∀ j (hj:j<(pord z).length),0≤(pord z)[j]∧(pord z)[j]<z.stages.length:=fun j hj=>ht.bd _ (List.getElem_mem hj);have hgd: ∀ j (hj:j<(pord z).length),(pord z).getD j default=(pord z)[j]:=fun j hj=>by rw [List.getD,List.getElem?_eq_getElem hj,Option.getD_some]
  have hE: ∀ j (hj:j<(pord z).length),(smean (stg z (pord z)[j]) (ins z (pmK z j).1 (pord z)[j])).2=0:=fun j hj=>by
   have:=herr j hj;unfold pmE at this;rw [hgd j hj] at this;exact this
  have hS: ∀ j (hj:j<(pord z).length),∀ q:Nat,q<z.pipes.length→(pmK z (j+1)).1 (q:Int)=if (pip z q).from_=(pord z)[j] then (sent z (pmK z j).1 (pord z)[j]).getD (pip z q).output.toNat default else (pmK z j).1 (q:Int):=by
   intro j hj q hq;have hl:(sent z (pmK z j).1 (pord z)[j]).length=(hout (stg z (pord z)[j]).kind).toNat:=smean_len (hE j hj) (hr _ (hib j hj));have ho:=(hio (hx.stg (hib j hj)).2.kind).2.1;rw [pmK_succ hj];show putK z _ _ _ _ (q:Int)=_;rw [putK_get hx (hib j hj) _ _ _ (by rw [hl];omega) q hq];have hp:=(hx.pip hq).out;by_cases e:(pip z q).from_=(pord z)[j]
   ·rw [if_pos e,if_pos ⟨e,by rw [hl];rw [e] at hp;omega⟩]
   ·rw [if_neg e,if_neg (fun h=>e h.1)]
  have hnd:=List.pairwise_iff_getElem.1 ht.nd;have stab: ∀ (d k:Nat),k+d≤(pord z).length→ ∀ q:Nat,q<z.pipes.length→(∀ j (hj:j<(pord z).length),k≤j→j<k+d→(pip z q).from_≠(pord z)[j])→(pmK z (k+d)).1 (q:Int)=(pmK z k).1 (q:Int):=by
   intro d;induction d with
   |zero=>intro k _ q _ _;rfl
   |succ d ih=>
    intro k hk q hq hne;show (pmK z ((k+d)+1)).1 (q:Int)=_;rw [hS (k+d) (by omega) q hq,if_neg (hne (k+d) (by omega) (by omega) (by omega))];exact ih k (by omega) q hq (fun j hj h3 h4=>hne j hj h3 (by omega))
  have stabE: ∀ k,k≤(pord z).length→ ∀ q:Nat,q<z.pipes.length→(∀ j (hj:j<(pord z).length),k≤j→(pip z q).from_≠(pord z)[j])→(pmK z (pord z).length).1 (q:Int)=(pmK z k).1 (q:Int):=by
   intro k hk q hq hne;have:=stab ((pord z).length - k) k (by omega) q hq (fun j hj h3 _=>hne j hj h3);rwa [show k+((pord z).length - k)=(pord z).length by omega] at this
  have hins: ∀ j (hj:j<(pord z).length),ins z (pmK z (pord z).length).1 (pord z)[j]=ins z (pmK z j).1 (pord z)[j]:=by
   intro j hj;unfold ins;have hg:=hx.stg (hib j hj);refine insK_congr _ fun m hm=> ?_;rw [sinp_of hg.1] at hm;obtain⟨q,hq,e1,e2,e3⟩:=hx.inp (hib j hj) (n:=(m:Int)) ⟨by omega,by omega⟩;rw [e1];refine stabE j (by omega) q hq fun j' hj' h3 e=> ?_;have hpre:=ht.pre j hj q hq e2;rw [e] at hpre;obtain⟨i',hi',e4⟩:=List.mem_take_iff_getElem.1 hpre;exact hnd i' j' (by omega) hj' (by omega) e4
  have hidx: ∀ i:Int,0≤i∧i<z.stages.length→ ∃ j,∃ hj:j<(pord z).length,(pord z)[j]=i:=fun i hi=>List.getElem_of_mem (ht.all i hi);refine⟨⟨fun i hi=> ?_,fun i hi n hn=> ?_⟩,fun i hi h10=> ?_,rfl⟩
  ·obtain⟨j,hj,rfl⟩:=hidx i hi;rw [hins j hj];exact hE j hj
  ·obtain⟨j,hj,rfl⟩:=hidx i hi;rw [hins j hj];obtain⟨q,hq,e1,e2,e3⟩:=hx.outp hi (n:=(n:Int)) ⟨by omega,by omega⟩;rw [e1,stabE (j+1) (by omega) q hq (fun j' hj' h3 e=>by rw [e2] at e;exact hnd j j' hj hj' (by omega) e),hS j hj q hq,if_pos e2,e3];rfl
  ·obtain⟨j,hj,rfl⟩:=hidx i hi;have hk: ∀ d,j+1+d≤(pord z).length→(pmK z (j+1+d)).2 (pord z)[j]=(ins z (pmK z j).1 (pord z)[j]).getD 0 default:=by
    intro d;induction d with
    |zero=>
     intro _;show (pmK z (j+1)).2 _=_;rw [pmK_succ hj];unfold pmS;dsimp only;rw [if_pos h10];unfold Dg.upd;rw [if_pos rfl]
    |succ d ih=>
     intro hd;show (pmK z ((j+1+d)+1)).2 _=_;rw [pmK_succ (by omega)];unfold pmS;dsimp only;have hne:(pord z)[j]≠(pord z)[j+1+d]:=hnd j (j+1+d) hj (by omega) (by omega);split
     ·unfold Dg.upd;rw [if_neg hne];exact ih (by omega)
     ·exact ih (by omega)
   have:=hk ((pord z).length - (j+1)) (by omega);rw [show j+1+((pord z).length - (j+1))=(pord z).length by omega] at this;rw [this,hins j hj]
end Pn
namespace Pn
def shG (s:Fs) (i:Nat) (y:Sg):Sg:=if y.kind=1 then {y with items:=y.items.take (sst s (i:Int)).count.toNat} else y
def shK (x:Pl) (s:Fs):Nat→List Sg
  |0=>x.stages
  |k+1=>(shK x s k).set k (shG s k ((shK x s k).getD k default))
def pshort (x:Pl) (s:Fs):Pl:={x with stages:=shK x s x.stages.length}
theorem shK_len (x:Pl) (s:Fs): ∀ k,(shK x s k).length=x.stages.length
  |0=>rfl
  |k+1=>by rw [shK,List.length_set,shK_len x s k]
theorem shK_get (x:Pl) (s:Fs): ∀ k j,k≤j→(shK x s k).getD j default=x.stages.getD j default
  |0,j,_=>rfl
  |k+1,j,h=>by
   rw [shK,getD_set_ne' (by omega)];exact shK_get x s k j (by omega)
theorem shK_done (x:Pl) (s:Fs): ∀ k j,j<k→k≤x.stages.length→(shK x s k).getD j default=shG s j (x.stages.getD j default)
  |k+1,j,h,hk=>by
   rw [shK];rcases Nat.lt_succ_iff_lt_or_eq.1 h with h1|h1
   ·rw [getD_set_ne' (by omega)];exact shK_done x s k j h1 (by omega)
   ·subst h1;rw [getD_set' (by rw [shK_len];omega),shK_get x s j j (Nat.le_refl _)]
theorem pshort_stg {x:Pl} {s:Fs} {i:Int} (hi:0≤i∧i<x.stages.length):stg (pshort x s) i=shG s i.toNat (stg x i):=by
  unfold stg pshort;exact shK_done x s x.stages.length i.toNat (by omega) (Nat.le_refl _)
theorem shG_kind (s:Fs) (i:Nat) (y:Sg):(shG s i y).kind=y.kind∧(shG s i y).size=y.size∧(y.kind≠1→shG s i y=y):=by
  unfold shG;split
  ·rename_i h;exact⟨rfl,rfl,fun h2=>absurd h h2⟩
  ·exact⟨rfl,rfl,fun _=>rfl⟩
theorem runS_dr {x:Pl} (hx:Pok x) (l:List Int): ∀ (f k:Nat) (s:Fs),Pv x s→(runS x l f k s).2.1.draining=s.draining
  |0,_,s,h=>rfl
  |f+1,k,s,hv=>by
   by_cases h:(penabled x s).2≠0∨(penabled x s).1.length=0
   ·rw [runS_stop h]
   ·by_cases h2:(pstep x s (runI x l k s)).2≠0
    ·rw [runS_err h h2]
    ·rw [runS_go h h2];have hs:=pstep_stp hx hv (Classical.not_not.1 h2);show (runS x l f (k+1) _).2.1.draining=_;rw [runS_dr hx l f (k+1) _ (hs.valid hx hv),hs.dr]
theorem outs_eq {x z:Pl} {s:Fs} {K:Int→List Int} (hv:Pv x s) (hn:z.stages.length=x.stages.length) (hk: ∀ i:Int,0≤i∧i<x.stages.length→(stg z i).kind=(stg x i).kind) (h: ∀ i:Int,0≤i∧i<x.stages.length→(stg x i).kind=10→s.outputs.getD (pout x s i) default=K i):
  ∀ n:Nat,n≤x.stages.length→s.outputs.take (snk (x.stages.take n)).toNat=snkL z K n
  |0,_=>by rw [List.take_zero];rfl
  |n+1,hle=>by
   have ih:=outs_eq hv hn hk h n (by omega);have hi:0≤(n:Int)∧(n:Int)<x.stages.length:=by omega
   have h1:x.stages[n]'(by omega)=stg x (n:Int):=by unfold stg;rw [List.getD,Int.toNat_natCast,List.getElem?_eq_getElem (by omega),Option.getD_some]
   have hb:=(snk_bd (x.stages.take n)).1;by_cases h10:(stg x (n:Int)).kind=10
   ·rw [←snkL_t (by rw [hk _ hi];exact h10),←ih,←snk_t (by omega) (by rw [h1];exact h10)];have h2:=h _ hi h10;have h3:=pout_lt hv hi h10;have e:pout x s (n:Int)=(snk (x.stages.take n)).toNat:=rfl;rw [e] at h2 h3;rw [show (snk (x.stages.take n)+1).toNat=(snk (x.stages.take n)).toNat+1 by omega,List.take_succ_eq_append_getElem h3];rw [List.getD,List.getElem?_eq_getElem h3,Option.getD_some] at h2;rw [h2]
   ·rw [←snkL_f (by rw [hk _ hi];exact h10),←ih,←snk_f (by omega) (by rw [h1];exact h10)]
theorem tot_le {N:Int→Nat} {B:Nat}: ∀ n:Nat,(∀ j:Int,0≤j∧j<n→N j≤B)→tot N n≤n*B
  |0,_=>Nat.zero_le _
  |n+1,h=>by
   have h1:=tot_le n (fun j hj=>h j (by omega));have h2:=h n (by omega);rw [tot,Nat.succ_mul];omega
theorem smean_src {y:Sg} {L:List (List Int)} (hk:y.kind=1) (h:(smean y L).2=0):(smean y L).1.getD 0 default=y.items:=by
  obtain⟨_,_,_,_,_,e⟩:=smean_ok h;rw [e,swhole_1 hk];show ((rnew y S0).out.set 0 y.items).getD 0 default=_;have:(rnew y S0).out=[[]]:=by unfold rnew;rw [hk];rfl
  rw [this];rfl
theorem inv_start {x:Pl} (hx:Pok x) (hr: ∀ i:Int,0≤i∧i<x.stages.length→(stg x i).kind=5→(stg x i).size≤4) {s:Fs} (hv:Pv x s) (h:(pmean (pshort x s)).2=0):
  ∃ F N,Inv x (fun i=>(sst s i).count) (fun i=>if 0≤i∧i<x.stages.length∧(stg x i).kind=10 then (pmK (pshort x s) (pord (pshort x s)).length).2 i else []) F N (pnew x).1∧tot N x.stages.length≤x.stages.length*402:=by
  have hd:Pok (pshort x s):=by
   have h0:=h;unfold pmean at h0;split at h0
   ·rename_i h1;exact absurd h0 h1
   ·rename_i h1;exact pchk_ok.1 (Classical.not_not.1 h1)
  have hlen:(pshort x s).stages.length=x.stages.length:=shK_len x s _;have hst: ∀ i:Int,0≤i∧i<x.stages.length→stg (pshort x s) i=shG s i.toNat (stg x i):=fun i hi=>pshort_stg hi;have hkd: ∀ i:Int,0≤i∧i<x.stages.length→(stg (pshort x s) i).kind=(stg x i).kind:=fun i hi=>by rw [hst i hi];exact (shG_kind _ _ _).1
  obtain⟨hS,hK,-⟩:=pmean_strm hd (fun i hi h5=>by
   have hi':0≤i∧i<x.stages.length:=by omega
   rw [hkd i hi'] at h5;rw [hst i hi',(shG_kind _ _ _).2.1];exact hr i hi' h5) h
  generalize hT:(pmK (pshort x s) (pord (pshort x s)).length).1=T at hS hK;generalize hKK:(pmK (pshort x s) (pord (pshort x s)).length).2=K at hK;have hit: ∀ k:Nat,k<x.pipes.length→(crd (pnew x).1 k).items=[]:=fun k hk=>by rw [pnew_crd hx hk,cr0_of (hx.pip hk).cap]
  have hins: ∀ i:Int,0≤i∧i<x.stages.length→ ∀ m:Int,0≤m∧m<hin (stg x i).kind→gets x (pnew x).1 (fun k=>T k) i m=T (inP x i m):=by
   intro i hi m hm;obtain⟨k,hk,e,-⟩:=inP_cast hx hi hm;unfold gets;rw [e,Int.toNat_natCast,hit k hk];rfl
  have houts: ∀ i:Int,0≤i∧i<x.stages.length→ ∀ m:Int,0≤m∧m<hout (stg x i).kind→gives x (fun k=>T k) i m=T (outP x i m):=by
   intro i hi m hm;obtain⟨k,hk,e,-⟩:=hx.outp hi hm;unfold gives;rw [e];rfl
  have hden: ∀ i:Int,∃ N:Nat,0≤i∧i<x.stages.length→Den (stg x i) (sst s i).count N (sst (pnew x).1 i) (gets x (pnew x).1 (fun k=>T k) i) (gives x (fun k=>T k) i)∧N≤402:=by
   intro i;rcases Classical.em (0≤i∧i<x.stages.length) with hi|hi
   ·have hi':0≤i∧i<(pshort x s).stages.length:=by omega
    have hg:=hx.stg hi;have hok:=hS.ok i hi';rw [pnew_sst hx hi];by_cases hk1:(stg x i).kind=1
    ·have hkk:=sval_k hg.2 (sneed_ok (hv.need' hi)).2;have hc:=hkk.2.2.2.2.1 hk1;have h200:=hg.2.len;refine⟨(sst s i).count.toNat+1,fun _=>⟨den_src hg.1 hk1 hc _ _ S0 _ (S0_sval hg.1) rfl (by show (0:Int)+_=_;omega) ?_,by omega⟩⟩;have h1:hout (stg x i).kind=1:=by rw [hk1];rfl
     rw [houts i hi 0 (by omega)];have h2:=hS.eq i hi' 0 (by rw [hkd i hi,h1];decide);rw [smean_src (by rw [hkd i hi];exact hk1) hok] at h2;have e:outP (pshort x s) i ((0:Nat):Int)=outP x i 0:=rfl;rw [e] at h2;rw [h2,hst i hi];unfold shG;rw [if_pos hk1];show (stg x i).items.take (sst s (i.toNat:Int)).count.toNat=_;rw [Int.toNat_of_nonneg hi.1];rfl
    ·have hst':stg (pshort x s) i=stg x i:=by rw [hst i hi];exact (shG_kind _ _ _).2.2 hk1
     rw [hst'] at hok;obtain⟨_,hL,_,_,_,_⟩:=smean_ok hok;obtain⟨N,b,hd,hN,hb⟩:=den_mean hok hk1 (sst s i).count (gets x (pnew x).1 (fun k=>T k) i) (fun n hn=>by
      rw [hins i hi (n:Int) (by omega)];have hl:(ins (pshort x s) T i).length=(sinp (stg (pshort x s) i)).toNat:=insK_len _ _ _ _;unfold ins insK;rw [List.getD,List.getElem?_map,List.getElem?_range (by omega)];rfl)
     refine⟨N,fun _=>⟨hd.congr (fun _ _ _=>rfl) (fun n h0 h2=> ?_),hN⟩⟩;have h3:=hb n.toNat (by omega);rw [Int.toNat_of_nonneg h0] at h3;rw [houts i hi n ⟨h0,h2⟩,h3];have h4:=hS.eq i hi' n.toNat (by rw [hkd i hi];omega);rw [Int.toNat_of_nonneg h0,hst'] at h4;exact h4
   ·exact⟨0,fun h2=>absurd h2 hi⟩
  obtain⟨N,hN⟩:=Classical.axiomOfChoice hden;have hTl: ∀ k:Nat,k<x.pipes.length→(T k).length≤200:=by
   intro k hk;have hp:=hx.pip hk;have hi':0≤(pip x k).to_∧(pip x k).to_<(pshort x s).stages.length:=by have:=hp.to;omega
   obtain⟨hgg,hL,hll,_⟩:=smean_ok (hS.ok _ hi');have hmem:T k∈ins (pshort x s) T (pip x k).to_:=by
    unfold ins insK;rw [List.mem_map];refine⟨(pip x k).input.toNat,List.mem_range.2 ?_,?_⟩
    ·rw [sinp_of hgg,hkd _ hp.to];have:=hp.inn;omega
    ·rw [Int.toNat_of_nonneg hp.inn.1];show T (inP x _ _)=_;rw [hp.inP]
   exact (hll _ hmem).1
  have hsink: ∀ i:Int,0≤i∧i<x.stages.length→(stg x i).kind=10→K i=T (inP x i 0):=by
   intro i hi h10;have h1:hin (stg x i).kind=1:=by rw [h10];rfl
   rw [hK i (by omega) (by rw [hkd i hi];exact h10)];have hg:=(hd.stg (i:=i) (by omega)).1;unfold ins;rw [sinp_of hg,hkd i hi,h1];rfl
  refine⟨fun k=>T k,N,⟨fun i hi=>(hN i hi).1,fun i hi h10=> ?_,fun k hk=> ?_,fun i=> ?_⟩,tot_le _ fun j hj=>(hN j hj).2⟩
  ·have h1:hin (stg x i).kind=1:=by rw [h10];rfl
   rw [if_pos ⟨hi.1,hi.2,h10⟩,hsink i hi h10,hins i hi 0 (by omega)];have:(pnew x).1.outputs.getD (pout x (pnew x).1 i) default=[]:=by
    rw [pnew_of hx];show (List.replicate _ []).getD _ default=[]
    rw [List.getD,List.getElem?_replicate];split<;>rfl
   rw [this,List.nil_append]
  ·rw [pnew_crd hx hk,cr0_of (hx.pip hk).cap];have:=hTl k hk;show (0:Int)+_≤200;omega
  ·split
   ·rename_i hc;rw [hsink i ⟨hc.1,hc.2.1⟩ hc.2.2];have h1:hin (stg x i).kind=1:=by rw [hc.2.2];rfl
    obtain⟨k,hk,e,-⟩:=inP_cast hx ⟨hc.1,hc.2.1⟩ (m:=0) (by omega);rw [e];exact hTl k hk
   ·exact Nat.zero_le _
end Pn
namespace Pn
structure Ran (x:Pl) (s:Fs):Prop where
  val:Pv x s
  dr:s.draining=false
  inv:(pmean (pshort x s)).2=0→ ∃ F N,Inv x (fun i=>(sst s i).count) (fun i=>if 0≤i∧i<x.stages.length∧(stg x i).kind=10 then (pmK (pshort x s) (pord (pshort x s)).length).2 i else []) F N s∧tot N x.stages.length≤x.stages.length*402
theorem ran {x:Pl} (hx:Pok x) (hr: ∀ i:Int,0≤i∧i<x.stages.length→(stg x i).kind=5→(stg x i).size≤4) {l:List Int} {n:Int} (h:(prun x (pnew x).1 l n).2.2=0):Ran x (prun x (pnew x).1 l n).1:=by
  have hv0:=pnew_valid hx;unfold prun at h ⊢;rw [if_neg (fun h2=>h2 (pvalid_of hx hv0))] at h ⊢;split at h
  ·cases h
  rename_i h1;rw [if_neg h1];split at h
  ·rename_i h2;exact absurd h h2
  rename_i h2;rw [if_neg h2];have hv:=runS_valid hx l n.toNat 0 _ hv0;refine⟨hv,by show (runS x l n.toNat 0 _).2.1.draining=false;rw [runS_dr hx l _ _ _ hv0,pnew_of hx],fun hm=> ?_⟩;obtain⟨F,N,hi,ht⟩:=inv_start hx hr hv hm;obtain⟨F',N',h3,h4⟩:=hi.run1 hx l n.toNat 0 (pnew x).1 F N hv0 (fun j hj hk=>rfl);exact⟨F',N',h3,Nat.le_trans h4 ht⟩
theorem drain_law {x:Pl} (hx:Pok x) (h12:x.stages.length≤12) (hr: ∀ i:Int,0≤i∧i<x.stages.length→(stg x i).kind=5→(stg x i).size≤4) {s:Fs} (hs:Ran x s) (hm:(pmean (pshort x s)).2=0) (m:List Int):
  pbegin x s=({s with draining:=true},0)∧(prun x {s with draining:=true} m 5000).2.2=0∧pfin x (prun x {s with draining:=true} m 5000).1=true∧(prun x {s with draining:=true} m 5000).1.outputs=(pmean (pshort x s)).1:=by
  obtain⟨F,N,hi,ht⟩:=hs.inv hm;have hv1:=hs.val.drain true;have hi1:Inv x (fun i=>(sst s i).count) (fun i=>if 0≤i∧i<x.stages.length∧(stg x i).kind=10 then (pmK (pshort x s) (pord (pshort x s)).length).2 i else []) F N {s with draining:=true}:=⟨hi.den,hi.sink,hi.sent,hi.want⟩
  obtain⟨r1,r2,⟨F',N',r3⟩,r4⟩:=Inv.run hx m 5000 0 {s with draining:=true} F N hv1 hi1 rfl (fun i _ _=>rfl) (by omega);refine⟨pbegin_of hx hs.val hs.dr,?_⟩;have e:prun x {s with draining:=true} m 5000=((runS x m 5000 0 {s with draining:=true}).2.1,(runS x m 5000 0 {s with draining:=true}).1,0):=by
   unfold prun;rw [if_neg (fun h2=>h2 (pvalid_of hx hv1)),if_neg (by decide)];show (if (runS x m 5000 0 {s with draining:=true}).2.2≠0 then _ else _)=_;rw [if_neg (fun h2=>h2 r1)];rfl
  rw [e];generalize hG:(runS x m 5000 0 {s with draining:=true}).2.1=t at r2 r3 r4;refine⟨rfl,?_,?_⟩
  ·show pfin x t=true;unfold pfin;rw [decide_eq_true (pvalid_of hx r2),Bool.true_and,Bool.not_eq_true',List.any_eq_false];intro u hu;obtain⟨i,hi',rfl⟩:=List.getElem_of_mem hu;have hls:=r2.ls;have:=r4 (i:Int) (by omega);unfold sst at this;rw [List.getD,Int.toNat_natCast,List.getElem?_eq_getElem hi',Option.getD_some] at this;rw [this];decide
  ·show t.outputs=_;have hlen:(pshort x s).stages.length=x.stages.length:=shK_len x s _;have hkd: ∀ i:Int,0≤i∧i<x.stages.length→(stg (pshort x s) i).kind=(stg x i).kind:=fun i hi=>by rw [pshort_stg hi];exact (shG_kind _ _ _).1
   have hd:Pok (pshort x s):=by
    have h0:=hm;unfold pmean at h0;split at h0
    ·rename_i h1;exact absurd h0 h1
    ·rename_i h1;exact pchk_ok.1 (Classical.not_not.1 h1)
   obtain⟨-,-,hout⟩:=pmean_strm hd (fun i hi h5=>by
    have hi':0≤i∧i<x.stages.length:=by omega
    rw [hkd i hi'] at h5;rw [pshort_stg hi',(shG_kind _ _ _).2.1];exact hr i hi' h5) hm
   have hfin:=outs_eq (z:=pshort x s) (K:=(pmK (pshort x s) (pord (pshort x s)).length).2) r2 hlen hkd (fun i hi h10=>by
    have h1:=r3.sink i hi h10;have h2:=(r3.ended hi (r4 i hi)).2.1 0 (Int.le_refl _) (by rw [h10];decide);rw [h2,List.append_nil,if_pos ⟨hi.1,hi.2,h10⟩] at h1;exact h1) x.stages.length (Nat.le_refl _)
   have hlo:=r2.lo;rw [List.take_length,List.take_of_length_le (by omega)] at hfin;rw [hfin,hout,hlen]
end Pn
namespace Pn
theorem fineM_rep {x:Pl} {L:List (List Int)} (h:fineM x L=true): ∀ i:Int,0≤i∧i<x.stages.length→(stg x i).kind=5→(stg x i).size≤4:=by
  intro i hi h5;unfold fineM at h;simp only [Bool.and_eq_true,decide_eq_true_eq,Bool.not_eq_true',List.any_eq_false] at h;obtain⟨⟨⟨⟨⟨a,b⟩,c⟩,d⟩,e⟩,f⟩:=h;have h1:stg x i∈x.stages:=by
   unfold stg;rw [List.getD,List.getElem?_eq_getElem (by omega),Option.getD_some];exact List.getElem_mem _
  have:=a _ h1;unfold badF at this;simp at this;rcases Int.lt_or_le 4 (stg x i).size with h2|h2
  ·exact absurd h5 (this h2)
  ·exact h2
theorem pacc_of {x:Pl} {s:Fs} (hx:Pok x) (hv:Pv x s):pacc x s=(accK x s x.stages.length,0):=by
  unfold pacc;rw [if_neg (fun h=>h (pvalid_of hx hv))]
theorem accK_at {x:Pl} {s:Fs}: ∀ (n i:Nat),i<n→(stg x (i:Int)).kind=1→ ∃ h:(accK x s i).length<(accK x s n).length,(accK x s n)[(accK x s i).length]=(sst s (i:Int)).count
  |n+1,i,hi,hk=>by
   rcases Nat.lt_succ_iff_lt_or_eq.1 hi with h1|h1
   ·obtain⟨h2,h3⟩:=accK_at (s:=s) n i h1 hk;by_cases hk2:(stg x (n:Int)).kind=1
    ·have e:=accK_t (s:=s) hk2;refine⟨by rw [←e,List.length_append];omega,?_⟩;have:(accK x s (n+1))[(accK x s i).length]?=some (sst s (i:Int)).count:=by
      rw [←e,List.getElem?_append_left h2,List.getElem?_eq_getElem h2,h3]
     exact (List.getElem?_eq_some_iff.1 this).2
    ·have e:=accK_f (s:=s) hk2;refine⟨by rw [←e];exact h2,?_⟩;have:(accK x s (n+1))[(accK x s i).length]?=some (sst s (i:Int)).count:=by
      rw [←e,List.getElem?_eq_getElem h2,h3]
     exact (List.getElem?_eq_some_iff.1 this).2
   ·subst h1;have e:=accK_t (s:=s) hk;refine⟨by rw [←e,List.length_append];simp,?_⟩;have:(accK x s (i+1))[(accK x s i).length]?=some (sst s (i:Int)).count:=by
     rw [←e,List.getElem?_append_right (Nat.le_refl _),Nat.sub_self];rfl
    exact (List.getElem?_eq_some_iff.1 this).2
theorem shK_t {x:Pl} {s:Fs} {k:Nat} (h:((shK x s k).getD k default).kind=1):shK x s (k+1)=(shK x s k).set k {(shK x s k).getD k default with items:=((shK x s k).getD k default).items.take (sst s (k:Int)).count.toNat}:=by
  rw [shK];unfold shG;rw [if_pos h]
theorem shK_f {x:Pl} {s:Fs} {k:Nat} (h: ¬ ((shK x s k).getD k default).kind=1):shK x s (k+1)=shK x s k:=by
  rw [shK];unfold shG;rw [if_neg h,set_same]
theorem Ran.count {x:Pl} {s:Fs} (hx:Pok x) (h:Ran x s) {i:Int} (hi:0≤i∧i<x.stages.length):0≤(sst s i).count∧((stg x i).kind=1→(sst s i).count≤(stg x i).items.length):=by
  have:=sval_k (hx.stg hi).2 (sneed_ok (h.val.need' hi)).2;exact⟨this.1,this.2.2.2.2.1⟩
end Pn
