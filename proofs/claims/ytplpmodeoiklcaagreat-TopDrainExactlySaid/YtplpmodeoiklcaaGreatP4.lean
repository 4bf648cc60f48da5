/- A part of the proof. No condition. -/
import Derived.Test.YtplpmodeoiklcaaGreatP3
set_option linter.unusedVariables false
set_option linter.unusedSimpArgs false
set_option maxRecDepth 10000
namespace Go.Proofs
open Go.Aw Wl Pn
theorem pnext_c (z:Pn.Pl) (s:Pn.Fs) (i:Int) (hx:Pn.Pok z) (hs:Pn.Fsz s) (hv:Pn.Pv z s) (hi:0≤i∧i<z.stages.length):ACalls Tryz.prog 104 [(AV.agg (encPl z)),(AV.agg (encFs s)),(AV.int i)] [] (fun v st=>v=(AV.tup [(AV.agg (encMv ((Pn.pnext z s i).1))),(AV.bool ((Pn.pnext z s i).2))])∧st=[]):=by
  refine acalls_body Tryz.func104 (by kernel_rfl) rfl Tryz.ntmps104 (le_ rfl) ?_;rw [Tryz.results104];have hxn:=hx.n;have hxp:=hx.np;have hs1:=hs.st;have hs2:=hs.cr;have hls:=hv.ls;have hlc:=hv.lc;refine asr ?_;refine sB fun n1=> ?_;refine sB fun n2=> ?_;refine sC fun n6=> ?_;refine sA ?_;refine aops_nil ?_;refine awp_seq ?_;refine awp_anyT (ks:=[.free,.free,.free,.free,.free,.free,.free,.free,.free,.free,.new,.new,.write,.write]) [] (.nil _) (by kernel_rfl) (fun K=> ?_) ?_
  ·refine rF ?_;refine rL k2 ?_;refine rM ?_;refine dr_p (fun _=>by exact y_indexT (l:=z.stages) (.plain rfl) (.plain rfl) (by omega) (by omega)) rfl ?_;refine rV ?_;refine rF ?_;refine rL k1 ?_;refine rM ?_;refine dr_p (fun _=>by exact y_indexT (l:=s.stages) (.plain rfl) (.plain rfl) (by omega) (by omega)) rfl ?_;refine rV ?_;refine dr_new (fun _ _=>by exact y_alloc) rfl fun nY=> ?_;refine dr_new (fun _ _=>by exact y_alloc) rfl fun nT=> ?_;refine dr_s (fun _=>by exact y_storeW (by rfl) rfl (.plain rfl) (.plain rfl) (by exact u1) (by rfl)) ?_;refine dr_s (fun _=>by exact y_storeW (by rfl) rfl (.plain rfl) (.plain rfl) (by exact .here) (by rfl)) ?_;refine dr_nil ?_;refine awp_seq ?_;refine asr ?_;refine sF ?_;refine sL .here ?_;refine aops_nil ?_;refine awp_cond rfl (fun h1=> ?_) (fun h1=> ?_)
   ·have he:(Pn.sst s i).ended=true:=h1;refine asr ?_;refine st_p (fun _=>by exact y_build (out:=[_,_,_,_,_,_,_,_,_]) .nil rfl rfl) rfl ?_;refine st_s (fun _=>by exact y_storeW (by rfl) rfl (.plain rfl) (.plain rfl) (by exact u2) (by rfl)) ?_;refine sA ?_;refine aops_nil ?_;refine awp_ret ?_;refine retG (.inr rfl) (.cons (res_cellW rfl (by exact k2) (by rfl)) (.cons (.tmp rfl) .nil)) (VShift.of2 (AV.Imp.tup (.cons (AV.Imp.agg (RowOf.imp (enc:=encMv))) (.cons (AV.Imp.refl _) .nil))) (.nil _)) ⟨congrArg (fun x:(Pn.Mv)×(Bool)=>(AV.tup [(AV.agg (encMv x.1)),(AV.bool x.2)])) (show (_,_)=(Pn.pnext z s i) from ?_),rfl⟩;rw [Pn.pnext,if_pos he];all_goals rfl
   ·have he:(Pn.sst s i).ended=false:=h1;have hen: ¬ (Pn.sst s i).ended=true:=by rw [he];decide
    refine awp_skip ?_;refine asr ?_;refine st_p (fun _=>by exact y_build (out:=[_,_,_,_,_,_,_,_,_]) (.cons (.plain rfl) inferInstance rfl .nil) rfl rfl) rfl ?_;refine sC fun nM=> ?_;refine st_s (fun _=>by exact y_storeW (by rfl) rfl (.plain rfl) (.plain rfl) (by exact .here) (by rfl)) ?_;refine aops_nil ?_;refine asr ?_;refine sA ?_;refine aops_nil ?_;refine awp_seq ?_;refine asr ?_;refine sF ?_;refine sL k2 ?_;refine sQ ?_;refine aops_nil ?_;refine awp_cond rfl (fun h2=> ?_) (fun h2=> ?_)
    ·simp only [nf] at h2;have hk1:(Pn.stg z i).kind=1:=h2;refine awp_region ?_;refine sF ?_;refine sL k4 ?_;refine sM ?_;refine gF ?_;refine gL0 k1 ?_;refine gF ?_;refine gL0 k2 ?_;refine gN0 ?_;refine gQ01 ?_;refine sK ?_;refine sA ?_;refine aops_nil ?_;refine awp_seq ?_;refine asr ?_;refine sM ?_;refine aops_nil ?_;refine awp_cond rfl (fun h3=> ?_) (fun h3=> ?_)
     ·simp only [nf] at h3;have hd:s.draining=true∨(Pn.sst s i).count=(Pn.stg z i).items.length:=h3;refine awp_region ?_;refine sW k2 ?_;refine sW k1 ?_;refine sF ?_;refine sL .here ?_;refine aops_call (blt_lt rfl) (.plain rfl) (.cons (.imp (.plain rfl) (AV.Imp.agg (RowOf.imp (enc:=encSg)))) (.cons (.imp (.plain rfl) (AV.Imp.agg (RowOf.imp (enc:=encSt)))) (.cons (.plain rfl) .nil))) (ACalls.here (sfin_c (Pn.stg z i) (Pn.sst s i) _) ?_);refine sM ?_;refine sE ?_;refine sE ?_;refine sE ?_;refine sE ?_;refine sF ?_;refine st_storeN (cs':=[_,_,_,_,_,_,_,_,_]) (by rfl) rfl (.plain rfl) (.plain rfl) (by exact .here) (le_ rfl) (by rfl) ?_;refine sF ?_;refine st_storeN (cs':=[_,_,_,_,_,_,_,_,_]) (by rfl) rfl (.plain rfl) (.plain rfl) (by exact .here) (le_ rfl) (by rfl) ?_;refine sF ?_;refine st_storeN (cs':=[_,_,_,_,_,_,_,_,_]) (by rfl) rfl (.plain rfl) (.plain rfl) (by exact .here) (le_ rfl) (by rfl) ?_;refine sF ?_;refine st_storeN (cs':=[_,_,_,_,_,_,_,_,_]) (by rfl) rfl (.plain rfl) (.plain rfl) (by exact .here) (le_ rfl) (by rfl) ?_;refine aops_nil ?_;refine asr ?_;refine sW .here ?_;refine st_s (fun _=>by exact y_storeW (by rfl) rfl (.plain rfl) (.plain rfl) (by exact u3) (by rfl)) ?_;refine sA ?_;refine aops_nil ?_;refine awp_ret ?_;refine retG (.inr rfl) (.cons (res_cellW rfl (by exact k3) (by rfl)) (.cons (.tmp rfl) .nil)) (VShift.of2 (AV.Imp.tup (.cons (AV.Imp.agg (RowOf.imp (enc:=encMv))) (.cons (AV.Imp.refl _) .nil))) (.nil _)) ⟨congrArg (fun x:(Pn.Mv)×(Bool)=>(AV.tup [(AV.agg (encMv x.1)),(AV.bool x.2)])) (show (_,_)=(Pn.pnext z s i) from ?_),rfl⟩;rw [Pn.pnext,if_neg hen,if_pos hk1,if_pos hd];all_goals rfl
     ·simp only [nf] at h3;have hd: ¬ (s.draining=true∨(Pn.sst s i).count=(Pn.stg z i).items.length):=by
       rintro (e9|e9)
       ·simp_all
       ·simp_all [Pn.sst,Pn.stg]
      refine awp_region ?_;refine sW k2 ?_;refine sW k1 ?_;refine sF ?_;refine sL .here ?_;refine sF ?_;refine sL .here ?_;refine aops_call (blt_lt rfl) (.plain rfl) (.cons (.imp (.plain rfl) (AV.Imp.agg (RowOf.imp (enc:=encSg)))) (.cons (.imp (.plain rfl) (AV.Imp.agg (RowOf.imp (enc:=encSt)))) (.cons (.plain rfl) (.cons (.plain rfl) .nil)))) (ACalls.here (stake_c (Pn.stg z i) (Pn.sst s i) _ _) ?_);refine sM ?_;refine sE ?_;refine sE ?_;refine sE ?_;refine sF ?_;refine st_storeN (cs':=[_,_,_,_,_,_,_,_,_]) (by rfl) rfl (.plain rfl) (.plain rfl) (by exact .here) (le_ rfl) (by rfl) ?_;refine sF ?_;refine st_storeN (cs':=[_,_,_,_,_,_,_,_,_]) (by rfl) rfl (.plain rfl) (.plain rfl) (by exact .here) (le_ rfl) (by rfl) ?_;refine sF ?_;refine st_storeN (cs':=[_,_,_,_,_,_,_,_,_]) (by rfl) rfl (.plain rfl) (.plain rfl) (by exact .here) (le_ rfl) (by rfl) ?_;refine aops_nil ?_;refine asr ?_;refine sW .here ?_;refine st_s (fun _=>by exact y_storeW (by rfl) rfl (.plain rfl) (.plain rfl) (by exact u3) (by rfl)) ?_;refine sA ?_;refine aops_nil ?_;refine awp_ret ?_;refine retG (.inr rfl) (.cons (res_cellW rfl (by exact k3) (by rfl)) (.cons (.tmp rfl) .nil)) (VShift.of2 (AV.Imp.tup (.cons (AV.Imp.agg (RowOf.imp (enc:=encMv))) (.cons (AV.Imp.refl _) .nil))) (.nil _)) ⟨congrArg (fun x:(Pn.Mv)×(Bool)=>(AV.tup [(AV.agg (encMv x.1)),(AV.bool x.2)])) (show (_,_)=(Pn.pnext z s i) from ?_),rfl⟩;rw [Pn.pnext,if_neg hen,if_pos hk1,if_neg hd];all_goals rfl
    ·simp only [nf] at h2;have hk1: ¬ (Pn.stg z i).kind=1:=h2;obtain⟨hnd1,hnd2⟩:=Pn.need_in (hv.need' hi) he hk1;obtain⟨kk,hkk,hki,-,-⟩:=hx.inp hi (n:=Pn.pin z s i) hnd2;refine asr ?_;refine sW k2 ?_;refine sW k1 ?_;refine aops_call (blt_lt rfl) (.plain rfl) (.cons (.imp (.plain rfl) (AV.Imp.agg (RowOf.imp (enc:=encSg)))) (.cons (.imp (.plain rfl) (AV.Imp.agg (RowOf.imp (enc:=encSt)))) .nil)) (ACalls.here (sneed_c (Pn.stg z i) (Pn.sst s i)) ?_);refine sM ?_;refine sE ?_;refine sE ?_;refine sA ?_;refine sA ?_;refine aops_nil ?_;refine asr ?_;refine sM ?_;refine st_p (fun _=>by exact y_indexT (l:=(Pn.sneed (Pn.stg z i) (Pn.sst s i)).1) (q:=0) (.plain rfl) (.plain rfl) (by decide) (by exact hnd1)) rfl ?_;refine sU ?_;refine sF ?_;refine st_storeN (cs':=[_,_,_,_,_,_,_,_,_]) (by rfl) rfl (.plain rfl) (.plain rfl) (by exact .here) (le_ rfl) (by rfl) ?_;refine aops_nil ?_;refine awp_seq ?_;refine awp_anyT (ks:=[.free,.free,.free,.free,.free,.free,.free,.free,.free,.new,.write]) [] (.nil _) (by kernel_rfl) (fun K=> ?_) ?_
     ·refine rF ?_;refine rL k4 ?_;refine rW k5 ?_;refine rM ?_;refine rF ?_;refine rL .here ?_;refine dr_p (fun _=>by exact y_call (.plain rfl) (.cons (.imp (.plain rfl) (AV.Imp.agg (RowOf.imp (enc:=encPl)))) (.cons (.plain rfl) (.cons (.plain rfl) .nil))) (ACalls.pure (inp_c z i (Pn.pin z s i) (by omega)))) rfl ?_;refine dr_p (fun _=>by exact y_indexT (l:=s.credits) (.plain rfl) (.plain rfl) (by omega) (by omega)) rfl ?_;refine rV ?_;refine dr_new (fun _ _=>by exact y_alloc) rfl fun nC=> ?_;refine dr_s (fun _=>by exact y_storeW (by rfl) rfl (.plain rfl) (.plain rfl) (by exact .here) (by rfl)) ?_;refine dr_nil ?_;refine awp_block ?_;refine asr ?_;refine sF ?_;refine sL .here ?_;refine sN ?_;refine sG ?_;refine sA ?_;refine aops_nil ?_;refine awp_cond rfl (fun h4=> ?_) (fun h4=> ?_)
      ·simp only [nf] at h4;have hpos:0<(Pn.pcr z s i).items.length:=by have h9:(0:Int)<((Pn.pcr z s i).items.length:Int):=h4;omega
       refine awp_anyT (ks:=[.free,.free,.free,.free,.free,.write,.free,.write]) [.cells nM _] (by apply Takes.cons (by exact k1);exact .nil _) (by kernel_rfl) (fun K=> ?_) ?_
       ·refine rF ?_;refine rL .here ?_;refine dr_p (fun _=>by exact y_indexT (l:=(Pn.pcr z s i).items) (q:=0) (.plain rfl) (.plain rfl) (by decide) (by exact hpos)) rfl ?_;refine rU ?_;refine rF ?_;refine dr_storeN (cs':=[_,_,_,_,_,_,_,_,_]) (by rfl) rfl (.plain rfl) (.plain rfl) (by exact .here) (le_ rfl) (by rfl) ?_;refine rF ?_;refine dr_storeN (cs':=[_,_,_,_,_,_,_,_,_]) (by rfl) rfl (.plain rfl) (.plain rfl) (by exact .here) (le_ rfl) (by rfl) ?_;refine dr_nil ?_;refine awp_seq ?_;refine asr ?_;refine sM ?_;refine aops_nil ?_;refine awp_cond rfl (fun h5=> ?_) (fun h5=> ?_)
        ·cases h5
        ·simp only [nf] at h5;refine awp_region ?_;refine sW k3 ?_;refine sW k2 ?_;refine sF ?_;refine sL .here ?_;refine sF ?_;refine sL .here ?_;refine aops_call (blt_lt rfl) (.plain rfl) (.cons (.imp (.plain rfl) (AV.Imp.agg (RowOf.imp (enc:=encSg)))) (.cons (.imp (.plain rfl) (AV.Imp.agg (RowOf.imp (enc:=encSt)))) (.cons (.plain rfl) (.cons (.plain rfl) .nil)))) (ACalls.here (stake_c (Pn.stg z i) (Pn.sst s i) _ _) ?_);refine sM ?_;refine sE ?_;refine sE ?_;refine sE ?_;refine sF ?_;refine st_storeN (cs':=[_,_,_,_,_,_,_,_,_]) (by rfl) rfl (.plain rfl) (.plain rfl) (by exact .here) (le_ rfl) (by rfl) ?_;refine sF ?_;refine st_storeN (cs':=[_,_,_,_,_,_,_,_,_]) (by rfl) rfl (.plain rfl) (.plain rfl) (by exact .here) (le_ rfl) (by rfl) ?_;refine sF ?_;refine st_storeN (cs':=[_,_,_,_,_,_,_,_,_]) (by rfl) rfl (.plain rfl) (.plain rfl) (by exact .here) (le_ rfl) (by rfl) ?_;refine aops_nil ?_;refine asr ?_;refine sW .here ?_;refine st_s (fun _=>by exact y_storeW (by rfl) rfl (.plain rfl) (.plain rfl) (by exact u4) (by rfl)) ?_;refine sA ?_;refine aops_nil ?_;refine awp_ret ?_;refine retG (.inr rfl) (.cons (res_cellW rfl (by exact k4) (by rfl)) (.cons (.tmp rfl) .nil)) (VShift.of2 (AV.Imp.tup (.cons (AV.Imp.agg (RowOf.imp (enc:=encMv))) (.cons (AV.Imp.refl _) .nil))) (.nil _)) ⟨congrArg (fun x:(Pn.Mv)×(Bool)=>(AV.tup [(AV.agg (encMv x.1)),(AV.bool x.2)])) (show (_,_)=(Pn.pnext z s i) from ?_),rfl⟩;rw [Pn.pnext,if_neg hen,if_neg hk1,if_pos hpos];all_goals rfl
       ·kernel_rfl
      ·simp only [nf] at h4;have hpos: ¬ 0<(Pn.pcr z s i).items.length:=by have h9: ¬ (0:Int)<((Pn.pcr z s i).items.length:Int):=h4;omega
       refine asr ?_;refine sW .here ?_;refine aops_call (blt_lt rfl) (.plain rfl) (.cons (.imp (.plain rfl) (AV.Imp.agg (RowOf.imp (enc:=encCr)))) .nil) (ACalls.here (cended_c (Pn.pcr z s i) (hs.crd _)) ?_);refine sA ?_;refine aops_nil ?_;refine awp_cond rfl (fun h6=> ?_) (fun h6=> ?_)
       ·have hce:Pn.cended (Pn.pcr z s i)=true:=h6;refine awp_region ?_;refine sA ?_;refine aops_nil ?_;refine awp_seq ?_;refine asr ?_;refine sM ?_;refine aops_nil ?_;refine awp_cond rfl (fun h7=> ?_) (fun h7=> ?_)
        ·simp only [nf] at h7;refine awp_region ?_;refine sW k3 ?_;refine sW k2 ?_;refine sF ?_;refine sL k1 ?_;refine aops_call (blt_lt rfl) (.plain rfl) (.cons (.imp (.plain rfl) (AV.Imp.agg (RowOf.imp (enc:=encSg)))) (.cons (.imp (.plain rfl) (AV.Imp.agg (RowOf.imp (enc:=encSt)))) (.cons (.plain rfl) .nil))) (ACalls.here (sfin_c (Pn.stg z i) (Pn.sst s i) _) ?_);refine sM ?_;refine sE ?_;refine sE ?_;refine sE ?_;refine sE ?_;refine sF ?_;refine st_storeN (cs':=[_,_,_,_,_,_,_,_,_]) (by rfl) rfl (.plain rfl) (.plain rfl) (by exact u1) (le_ rfl) (by rfl) ?_;refine sF ?_;refine st_storeN (cs':=[_,_,_,_,_,_,_,_,_]) (by rfl) rfl (.plain rfl) (.plain rfl) (by exact u1) (le_ rfl) (by rfl) ?_;refine sF ?_;refine st_storeN (cs':=[_,_,_,_,_,_,_,_,_]) (by rfl) rfl (.plain rfl) (.plain rfl) (by exact u1) (le_ rfl) (by rfl) ?_;refine sF ?_;refine st_storeN (cs':=[_,_,_,_,_,_,_,_,_]) (by rfl) rfl (.plain rfl) (.plain rfl) (by exact u1) (le_ rfl) (by rfl) ?_;refine aops_nil ?_;refine asr ?_;refine sW k1 ?_;refine st_s (fun _=>by exact y_storeW (by rfl) rfl (.plain rfl) (.plain rfl) (by exact u4) (by rfl)) ?_;refine sA ?_;refine aops_nil ?_;refine awp_ret ?_;refine retG (.inr rfl) (.cons (res_cellW rfl (by exact k4) (by rfl)) (.cons (.tmp rfl) .nil)) (VShift.of2 (AV.Imp.tup (.cons (AV.Imp.agg (RowOf.imp (enc:=encMv))) (.cons (AV.Imp.refl _) .nil))) (.nil _)) ⟨congrArg (fun x:(Pn.Mv)×(Bool)=>(AV.tup [(AV.agg (encMv x.1)),(AV.bool x.2)])) (show (_,_)=(Pn.pnext z s i) from ?_),rfl⟩;rw [Pn.pnext,if_neg hen,if_neg hk1,if_neg hpos,if_pos hce];all_goals rfl
        ·cases h7
       ·have hce: ¬ Pn.cended (Pn.pcr z s i)=true:=by rw [show Pn.cended (Pn.pcr z s i)=false from h6];decide
        refine asr ?_;refine st_p (fun _=>by exact y_build (out:=[_,_,_,_,_,_,_,_,_]) .nil rfl rfl) rfl ?_;refine st_s (fun _=>by exact y_storeW (by rfl) rfl (.plain rfl) (.plain rfl) (by exact u4) (by rfl)) ?_;refine sA ?_;refine aops_nil ?_;refine awp_ret ?_;refine retG (.inr rfl) (.cons (res_cellW rfl (by exact k4) (by rfl)) (.cons (.tmp rfl) .nil)) (VShift.of2 (AV.Imp.tup (.cons (AV.Imp.agg (RowOf.imp (enc:=encMv))) (.cons (AV.Imp.refl _) .nil))) (.nil _)) ⟨congrArg (fun x:(Pn.Mv)×(Bool)=>(AV.tup [(AV.agg (encMv x.1)),(AV.bool x.2)])) (show (_,_)=(Pn.pnext z s i) from ?_),rfl⟩;rw [Pn.pnext,if_neg hen,if_neg hk1,if_neg hpos,if_neg hce];all_goals rfl
     ·kernel_rfl
  ·kernel_rfl
theorem fits_c (z:Pn.Pl) (s:Pn.Fs) (i:Int) (m:Pn.Mv) (hx:Pn.Pok z) (hs:Pn.Fsz s) (hv:Pn.Pv z s) (hi:0≤i∧i<z.stages.length) (hm:m.sent.length≤(Pn.hout (Pn.stg z i).kind).toNat):ACalls Tryz.prog 105 [(AV.agg (encPl z)),(AV.agg (encFs s)),(AV.int i),(AV.agg (encMv m))] [] (fun v st=>v=(AV.bool (Pn.pfits z s i m))∧st=[]):=by
  refine acalls_body Tryz.func105 (by kernel_rfl) rfl Tryz.ntmps105 (le_ rfl) ?_;rw [Tryz.results105];have hxn:=hx.n;have hxp:=hx.np;have hs1:=hs.st;have hs2:=hs.cr;have hls:=hv.ls;have hlc:=hv.lc;have hho:=(Pn.hio (hx.stg hi).2.kind).2.1;refine asr ?_;refine sB fun n1=> ?_;refine sB fun n2=> ?_;refine sB fun n3=> ?_;refine sA ?_;refine aops_nil ?_;refine awp_seq ?_;refine asr ?_;refine sF ?_;refine sL .here ?_;refine sN ?_;refine sM ?_;refine aops_nil ?_;refine awp_block ?_;refine awp_loop2 (X:=Nat) [2,4,5,12,13] (.cons rfl (.cons rfl (.cons rfl (.cons rfl (.cons rfl .nil))))) (fun σ x=>((14,.int (x:Int)):Nat×AV)::σ) (fun R x=>R) (fun x=>x≤m.sent.length∧(∀ j,j<x→Pn.fitB z s i m j=true)) (fun x=>m.sent.length - x) 0 (by exact Weak.of2 (by (repeat (first|exact .nil _|refine .cons rfl (by exact AV.Imp.refl _) ?_));done) (by (repeat (exact .refl _));done)) ⟨Nat.zero_le _,by omega⟩ ?_;rintro k ⟨hk,hinv⟩;refine asr ?_;refine sS ?_;refine aops_nil ?_;refine awp_seq ?_;refine awp_cond rfl (fun h1=> ?_) (fun h1=> ?_)
  ·simp only [nf] at h1;have hkl:k<m.sent.length:=by omega
   refine awp_skip ?_;refine awp_seq ?_;refine awp_block ?_;refine asr ?_;refine sM ?_;refine st_p (fun _=>by exact y_indexMap (.plain rfl) (.plain rfl) rfl (by refine⟨?_,?_⟩;(omega);rfl)) rfl ?_;refine sU ?_;refine sA ?_;refine sA ?_;refine aops_nil ?_;refine awp_seq ?_;obtain⟨kk,hkk,hki,-,-⟩:=hx.outp hi (n:=(k:Int)) (by omega);refine awp_any0 (ks:=[.free,.free,.free,.free,.free,.free,.free,.free,.free,.free,.free,.free]) (by kernel_rfl) (fun K=> ?_) ?_
   ·refine rM ?_;refine rN ?_;refine rF ?_;refine rL k1 ?_;refine rW k2 ?_;refine rM ?_;refine rM ?_;refine dr_p (fun _=>by exact y_call (.plain rfl) (.cons (.imp (.plain rfl) (AV.Imp.agg (RowOf.imp (enc:=encPl)))) (.cons (.plain rfl) (.cons (.plain rfl) .nil))) (ACalls.pure (outp_c z i (k:Int) (by omega)))) rfl ?_;refine dr_p (fun _=>by exact y_indexT (l:=s.credits) (.plain rfl) (.plain rfl) (by omega) (by omega)) rfl ?_;refine rV ?_;refine dr_p (fun _=>by exact y_call (.plain rfl) (.cons (.imp (.plain rfl) (AV.Imp.agg (RowOf.imp (enc:=encCr)))) .nil) (ACalls.pure (croom_c (Pn.crd s (Pn.outP z i k)) (hs.crd _)))) rfl ?_;refine rG ?_;refine dr_nil ⟨rfl,?_⟩;refine awp_cond rfl (fun h2=> ?_) (fun h2=> ?_)
    ·simp only [nf] at h2;have hbk:Pn.fitB z s i m k=false:=by
      have h9:Pn.croom (Pn.crd s (Pn.outP z i k))<(m.sent[k].length:Int):=h2;rw [Pn.fitB,List.getD,List.getElem?_eq_getElem hkl,Option.getD_some];exact decide_eq_false (by omega)
     refine asr ?_;refine sA ?_;refine aops_nil ?_;refine awp_ret ?_;refine retG (.inr rfl) (.cons (.tmp rfl) .nil) (VShift.of1 (AV.Imp.refl _) (.nil _)) ⟨congrArg (fun x:(Bool)=>(AV.bool x)) (show _=(Pn.pfits z s i m) from ?_),rfl⟩;rw [Pn.pfits,List.all_eq_false.2 ⟨k,List.mem_range.2 hkl,by rw [hbk];decide⟩]
    ·simp only [nf] at h2;have hbk:Pn.fitB z s i m k=true:=by
      have h9: ¬ Pn.croom (Pn.crd s (Pn.outP z i k))<(m.sent[k].length:Int):=h2;rw [Pn.fitB,List.getD,List.getElem?_eq_getElem hkl,Option.getD_some];exact decide_eq_true (by omega)
     refine awp_skip ?_;refine awp_region ?_;refine sY ?_ (hb:=by omega);refine sM ?_;refine aops_nil ?_;refine⟨k+1,?_,?_,Weak.of2 (by (repeat (first|exact .nil _|refine .cons rfl (by exact AV.Imp.refl _) ?_));done) (by (repeat (exact .refl _));done)⟩
     ·refine⟨by omega,?_⟩;intro j hjk;by_cases e:j=k
      ·subst e;exact hbk
      ·exact hinv j (by omega)
     ·omega
   ·kernel_rfl
  ·simp only [nf] at h1;refine awp_exit ?_;refine asr ?_;refine sA ?_;refine aops_nil ?_;refine awp_ret ?_;refine retG (.inr rfl) (.cons (.tmp rfl) .nil) (VShift.of1 (AV.Imp.refl _) (.nil _)) ⟨congrArg (fun x:(Bool)=>(AV.bool x)) (show _=(Pn.pfits z s i m) from ?_),rfl⟩;rw [Pn.pfits,List.all_eq_true.2 (fun j hj=>hinv j (by have:=List.mem_range.1 hj;omega))]
theorem enab_c (z:Pn.Pl) (s:Pn.Fs) (i:Int) (hx:Pn.Pok z) (hs:Pn.Fsz s) (hv:Pn.Pv z s) (hi:0≤i∧i<z.stages.length):ACalls Tryz.prog 74 [(AV.agg (encPl z)),(AV.agg (encFs s)),(AV.int i)] [] (fun v st=>v=(AV.tup [(AV.agg (encMv ((Pn.penab z s i).1))),(AV.bool ((Pn.penab z s i).2))])∧st=[]):=by
  refine acalls_body Tryz.func74 (by kernel_rfl) rfl Tryz.ntmps74 (le_ rfl) ?_;rw [Tryz.results74];refine asr ?_;refine sB fun n1=> ?_;refine sB fun n2=> ?_;refine sC fun n6=> ?_;refine sA ?_;refine aops_nil ?_;refine asr ?_;refine sW k2 ?_;refine sW k1 ?_;refine sM ?_;refine aops_call (blt_lt rfl) (.plain rfl) (.cons (.imp (.plain rfl) (AV.Imp.agg (RowOf.imp (enc:=encPl)))) (.cons (.imp (.plain rfl) (AV.Imp.agg (RowOf.imp (enc:=encFs)))) (.cons (.plain rfl) .nil))) (ACalls.here (pnext_c z s i hx hs hv hi) ?_);refine sM ?_;refine sE ?_;refine sE ?_;refine sC fun n8=> ?_;refine st_s (fun _=>by exact y_storeW (by rfl) rfl (.plain rfl) (.plain rfl) (by exact .here) (by rfl)) ?_;refine sA ?_;refine aops_nil ?_;refine awp_seq ?_;refine awp_anyT (ks:=[.free,.free,.free,.free,.free,.free,.free,.free,.free,.free,.free,.free,.free,.free,.write,.free]) [.cells n6 _] (by apply Takes.cons (by exact k1);exact .nil _) (by kernel_rfl) (fun K=> ?_) ?_
  ·refine rW .here ?_;refine rM ?_;refine rM ?_;refine qF ?_;refine qL0 .here ?_;refine qR0 ?_;refine qM0 ?_;refine qW k2 ?_;refine qW k1 ?_;refine qM ?_;refine qW .here ?_;refine dr_g rfl rfl rfl SaysI.out (fun hc _=>by exact y_call (.plain rfl) (.cons (.imp (.opt rfl hc) (AV.Imp.agg (RowOf.imp (enc:=encPl)))) (.cons (.imp (.opt rfl hc) (AV.Imp.agg (RowOf.imp (enc:=encFs)))) (.cons (.opt rfl hc) (.cons (.imp (.opt rfl hc) (AV.Imp.agg (RowOf.imp (enc:=encMv)))) .nil)))) (ACalls.pure (fits_c z s i (Pn.pnext z s i).1 hx hs hv hi (Pn.pnext_sent z s i)))) rfl ?_;refine dr_g rfl rfl rfl SaysI.out (fun hc _=>by exact y_or' hc (.opt rfl hc) rfl rfl) rfl ?_;refine rJ ?_;refine dr_s (fun _=>by exact y_storeW (by rfl) rfl (.plain rfl) (.plain rfl) (by exact .here) (by rfl)) ?_;refine rA ?_;refine dr_nil ?_;refine awp_ret ?_;refine retG (.inr rfl) (.cons (res_cellW rfl (by exact .here) (by rfl)) (.cons (.tmp rfl) .nil)) (VShift.of2 (AV.Imp.tup (.cons (AV.Imp.agg (RowOf.imp (enc:=encMv))) (.cons (AV.Imp.refl _) .nil))) (.nil _)) ⟨congrArg (fun x:(Pn.Mv)×(Bool)=>(AV.tup [(AV.agg (encMv x.1)),(AV.bool x.2)])) (show (_,_)=(Pn.penab z s i) from ?_),rfl⟩;rfl
  ·kernel_rfl
theorem enabled_c (z:Pn.Pl) (s:Pn.Fs) (hz:z.stages.length≤1000000∧z.pipes.length≤1000000) (hs:Pn.Fsz s):ACalls Tryz.prog 48 [(AV.agg (encPl z)),(AV.agg (encFs s))] [] (fun v st=>v=(AV.tup [(AV.sl 1 (List.map Go.Aw.encI ((Pn.penabled z s).1))),(AV.int ((Pn.penabled z s).2))])∧st=[]):=by
  refine acalls_body Tryz.func48 (by kernel_rfl) rfl Tryz.ntmps48 (le_ rfl) ?_;rw [Tryz.results48];refine asr ?_;refine sB fun n1=> ?_;refine sB fun n2=> ?_;refine sA ?_;refine sA ?_;refine aops_nil ?_;refine awp_seq ?_;refine asr ?_;refine sW k1 ?_;refine sW .here ?_;refine aops_call (blt_lt rfl) (.plain rfl) (.cons (.imp (.plain rfl) (AV.Imp.agg (RowOf.imp (enc:=encPl)))) (.cons (.imp (.plain rfl) (AV.Imp.agg (RowOf.imp (enc:=encFs)))) .nil)) (ACalls.here (pvalid_c z s hz hs) ?_);refine sA ?_;refine aops_nil ?_;refine asr ?_;refine sM ?_;refine sR ?_;refine aops_nil ?_;refine awp_cond rfl (fun h1=> ?_) (fun h1=> ?_)
  ·simp only [nf] at h1;refine asr ?_;refine sM ?_;refine sA ?_;refine sA ?_;refine aops_nil ?_;refine awp_ret ?_;refine retG (.inr rfl) (.cons (.tmp rfl) (.cons (.tmp rfl) .nil)) (VShift.of2 (AV.Imp.tup (.cons (Sl.imp (enc:=Go.Aw.encI)) (.cons (AV.Imp.refl _) .nil))) (.nil _)) ⟨congrArg (fun x:(List (Int))×(Int)=>(AV.tup [(AV.sl 1 (List.map Go.Aw.encI x.1)),(AV.int x.2)])) (show (_,_)=(Pn.penabled z s) from ?_),rfl⟩;rw [Pn.penabled,if_pos (show Pn.pvalid z s≠0 by omega)];all_goals rfl
  ·simp only [nf] at h1;refine awp_skip ?_;refine awp_seq ?_;have hok:=Pn.pvalid_ok (show Pn.pvalid z s=0 by omega);refine awp_region ?_;refine sA ?_;refine aops_nil ?_;refine awp_seq ?_;refine asr ?_;refine sF ?_;refine sL k1 ?_;refine sN ?_;refine sM ?_;refine aops_nil ?_;refine awp_block ?_;refine awp_loop2 (X:=Nat×Option Nat) [2,3,19] (.cons rfl (.cons rfl (.cons rfl .nil))) (fun σ x=>((7,.grow 1 x.2 ((Pn.enabL z s x.1).map Go.Aw.encI)):Nat×AV)::((20,.int (x.1:Int)):Nat×AV)::σ) (fun R x=> .tail x.2::R) (fun x=>x.1≤z.stages.length) (fun x=>z.stages.length - x.1) (0,none) (by exact Weak.of2 (by (repeat (first|exact .nil _|refine .cons rfl (by first|exact AV.Imp.refl _|exact AV.Imp.nil_grow) ?_));done) (by (repeat (first|exact .refl _|apply ItLe2.tail0));done)) (Nat.zero_le _) ?_;rintro⟨k,tok⟩ hk;simp only at hk;dsimp only;refine asr ?_;refine sS ?_;refine aops_nil ?_;refine awp_seq ?_;refine awp_cond rfl (fun h2=> ?_) (fun h2=> ?_)
   ·simp only [nf] at h2;refine awp_skip ?_;refine awp_seq ?_;refine awp_block ?_;refine asr ?_;refine sM ?_;refine sA ?_;refine aops_nil ?_;refine asr ?_;refine sW k2 ?_;refine sW k1 ?_;refine sM ?_;refine aops_call (blt_lt rfl) (.plain rfl) (.cons (.imp (.plain rfl) (AV.Imp.agg (RowOf.imp (enc:=encPl)))) (.cons (.imp (.plain rfl) (AV.Imp.agg (RowOf.imp (enc:=encFs)))) (.cons (.plain rfl) .nil))) (ACalls.here (enab_c z s k hok.1 hs hok.2 ⟨by omega,by omega⟩) ?_);refine sM ?_;refine sE ?_;refine sE ?_;refine sC fun nM=> ?_;refine st_s (fun _=>by exact y_storeW (by rfl) rfl (.plain rfl) (.plain rfl) (by exact .here) (by rfl)) ?_;refine sA ?_;refine aops_nil ?_;refine asr ?_;refine sM ?_;refine aops_nil ?_;refine awp_cond rfl (fun h3=> ?_) (fun h3=> ?_)
    ·have h9:(Pn.penab z s (k:Int)).2=true:=h3;have hel:=Pn.enabL_len z s k;refine awp_region ?_;refine sM ?_;refine sM ?_;refine st_p (fun _=>by exact y_buildSlice (.cons (.plain rfl) inferInstance (by rfl) .nil) rfl (le_ rfl)) rfl ?_;refine st_appendT (by rfl) (.plain rfl) (.plain rfl) (by exact k1) (by (simp;try omega)) rfl fun tA=> ?_;refine sA ?_;refine aops_nil ?_;refine awp_region ?_;refine sY ?_ (hb:=by omega);refine sM ?_;refine aops_nil ?_;refine⟨(k+1,tA),by show k+1≤_;omega,by show z.stages.length - (k+1)<z.stages.length - k;omega,?_⟩;dsimp only;exact Weak.of2 (by (repeat (first|exact .nil _|refine .cons rfl (by first|exact AV.Imp.refl _|exact AV.Imp.grow_of (Pn.enabL_t h9)) ?_));done) (by (repeat (first|exact .nil _|apply ItLe2.cons (by first|exact .here|exact k1)));done)
    ·have h9:(Pn.penab z s (k:Int)).2=false:=h3;refine awp_skip ?_;refine awp_region ?_;refine sY ?_ (hb:=by omega);refine sM ?_;refine aops_nil ?_;refine⟨(k+1,tok),by show k+1≤_;omega,by show z.stages.length - (k+1)<z.stages.length - k;omega,?_⟩;dsimp only;exact Weak.of2 (by (repeat (first|exact .nil _|refine .cons rfl (by first|exact AV.Imp.refl _|exact AV.Imp.grow_of (Pn.enabL_f h9)) ?_));done) (by (repeat (first|exact .nil _|apply ItLe2.cons (by exact k1)));done)
   ·simp only [nf] at h2;refine awp_exit ?_;refine asr ?_;refine sM ?_;refine sA ?_;refine sA ?_;refine aops_nil ?_;refine awp_ret ?_;refine retG (.inr rfl) (.cons (.tmp rfl) (.cons (.tmp rfl) .nil)) (VShift.of2 (AV.Imp.tup (.cons (Sl.imp (enc:=Go.Aw.encI)) (.cons (AV.Imp.refl _) .nil))) (.nil _)) ⟨congrArg (fun x:(List (Int))×(Int)=>(AV.tup [(AV.sl 1 (List.map Go.Aw.encI x.1)),(AV.int x.2)])) (show (_,_)=(Pn.penabled z s) from ?_),rfl⟩;obtain rfl:k=z.stages.length:=by omega
    rw [Pn.penabled,if_neg (show ¬ Pn.pvalid z s≠0 by omega)];all_goals rfl
end Go.Proofs
namespace Go.Aw
theorem RelW.vecCells {g:Ghost} {st:List Item} {w:World} {j:Nat} {xs:List AV} (h:RelW g (.vec (some j) xs::st) w): ∃ pad,RelW g (.cells j (xs++pad)::st) w:=by
  obtain⟨b,p,s,vs,E,k1,k2,k3,k4,k5,k6,k7,k8⟩:=h.items _ (List.mem_cons_self ..);refine⟨(vs.toList.drop xs.length).map AV.val,RelW.cons h.tailOf ⟨b,p,s,vs,E,k1,k2,?_,k6,k7,k8⟩ (fun b' hb'=> ?_)⟩
  ·have h2:=k5.append (holdsL_vals (g:=g) (vs.toList.drop xs.length));rwa [List.take_append_drop] at h2
  ·exact h.head_notin (by simpa [Item.blk,Item.id?] using hb')
theorem awp_vecCells {P:Program} {n:Nat} {c:Code} {σ:Fr} {st r:List Item} {Q:Exit→Fr→List Item→Prop} {j:Nat} {xs:List AV} (ht:Take st (.vec (some j) xs) r) (h: ∀ pad,AWP P n c σ (.cells j (xs++pad)::r) Q):AWP P n c σ st Q:=fun F g a w hf hw=>by
  obtain⟨pad,h2⟩:=(hw.perm (ht.perm.append_right F)).vecCells;exact h pad F g a w hf h2
end Go.Aw
namespace Go.Aw
open Pn
theorem li_len (L:List (List Int)):(L.map encLI).flatten.length=L.length:=by
  induction L with
  |nil=>rfl
  |cons a L ih=>rw [List.map_cons,List.flatten_cons,List.length_append,ih];simp [encLI];omega
theorem li_get {L:List (List Int)} {pad:List AV} {k:Nat} (hk:k<L.length):((L.map encLI).flatten++pad)[0+k*1]?=some (.sl 1 ((L.getD k default).map encI)):=by
  rw [Nat.zero_add,Nat.mul_one,List.getElem?_append_left (by rw [li_len];exact hk),out_flat,List.getElem?_map,List.getElem?_eq_getElem hk,List.getD,List.getElem?_eq_getElem hk];rfl
theorem li_set {L:List (List Int)} {pad:List AV} {k:Nat} (hk:k<L.length) (l:List Int):setMany ((L.map encLI).flatten++pad) (0+k*1) [.sl 1 (l.map encI)]=((L.set k l).map encLI).flatten++pad:=by
  have:=flatten_set (sz:=1) (xs:=L.map encLI) (fun r hr=>by obtain⟨a,_,rfl⟩:=List.mem_map.1 hr;rfl) k (encLI l) rfl (by simpa using hk) pad;rw [←List.map_set] at this;simpa [encLI] using this
end Go.Aw
namespace Pn
theorem snk_lt {l:List Sg} {i:Nat} (h:i<l.length) (hk:(l.getD i default).kind=10):snk (l.take i)<snk l:=by
  have h1:snk (l.take i)+1=snk (l.take (i+1)):=snk_t h (by rw [List.getD,List.getElem?_eq_getElem h,Option.getD_some] at hk;exact hk);have h2:snk (l.take (i+1))≤snk l:=by
   unfold snk;have:((l.take (i+1)).filter fun s=>decide (s.kind=10)).Sublist (l.filter fun s=>decide (s.kind=10)):=(List.take_sublist _ _).filter _;have:=this.length_le;omega
  omega
def most1 (y:Sg):Nat:=if y.kind=5 then y.size.toNat else 1
theorem rsend_len1 {r:Rn} {n:Nat} {v:Int} (h: ∀ l∈r.out,l.length≤0): ∀ l∈(rsend r n v).out,l.length≤1:=rsend_len (m:=0) h
theorem rtake_lens {y:Sg} {r:Rn} (h: ∀ l∈r.out,l.length≤0) (i v:Int): ∀ l∈(rtake y r i v).out,l.length≤most1 y:=by
  have h0: ∀ l∈r.out,l.length≤1:=fun l hl=>by have:=h l hl;omega
  have hev: ∀ a b,∀ l∈(reval y r a b).1.out,l.length≤0:=fun a b=>h;have hsum: ∀ r':Rn,r'.out=r.out→ ∀ l∈(rsum r').out,l.length≤1:=fun r' e=>by
   unfold rsum;exact rsend_len1 (r:={r' with err:=(sumK r'.s.held r'.err r'.s.held.length).2}) (by rw [e];exact h)
  have hm1:y.kind≠5→most1 y=1:=fun e=>if_neg e;have hm5:y.kind=5→most1 y=y.size.toNat:=fun e=>if_pos e;unfold rtake;split
  ·rw [hm1 (by omega)];exact rsend_len1 h
  ·split
   ·rw [hm1 (by omega)];exact rsend_len1 (hev _ _)
   ·split
    ·rw [hm1 (by omega)];split
     ·exact rsend_len1 (hev _ _)
     ·exact h0
    ·split
     ·rw [hm1 (by omega)];unfold rbatch;dsimp only;split
      ·exact hsum _ rfl
      ·exact h0
     ·split
      ·rename_i hk;rw [hm5 hk];intro l hl;have:=rrep_len (m:=0) h y.size.toNat l hl;omega
      ·rename_i h5;rw [hm1 h5];split
       ·split
        ·exact rsend_len1 h
        ·exact h0
       ·split
        ·exact rsend_len1 (hev _ _)
        ·split
         ·exact rsend_len1 h
         ·split
          ·unfold rzip;split
           ·split<;>exact h0
           ·split
            ·exact rsend_len1 h
            ·exact h0
          ·exact h0
theorem rfin_lens {y:Sg} {r:Rn} (h: ∀ l∈r.out,l.length≤0) (i:Int): ∀ l∈(rfin y r i).out,l.length≤1:=by
  have h0: ∀ l∈r.out,l.length≤1:=fun l hl=>by have:=h l hl;omega
  unfold rfin;split
  ·show ∀ l∈(if 0<r.s.held.length then rsum r else r).out,l.length≤1;split
   ·unfold rsum;exact rsend_len1 (r:={r with err:=(sumK r.s.held r.err r.s.held.length).2}) h
   ·exact h0
  ·split
   ·exact h0
   ·split<;>exact h0
theorem stake_lens (y:Sg) (s:Ss) (i v:Int): ∀ l∈(stake y s i v).2.1,l.length≤most1 y:=by
  unfold stake;repeat' split
  all_goals first| (intro l hl;cases hl;done)|exact rtake_lens (rnew_out y s).2 i v
theorem sfin_lens (y:Sg) (s:Ss) (i:Int): ∀ l∈(sfin y s i).2.1,l.length≤1:=by
  unfold sfin;repeat' split
  all_goals first| (intro l hl;cases hl;done)|exact rfin_lens (rnew_out y s).2 i
theorem pnext_lens {x:Pl} (s:Fs) {i:Int} (hy:Sgok (stg x i)): ∀ l∈(pnext x s i).1.sent,l.length≤200:=by
  have hsz:=hy.size2;have hm:most1 (stg x i)≤200:=by unfold most1;split<;>omega
  have h1: ∀ n,∀ l∈(mend (stg x i) (sst s i) n).sent,l.length≤200:=fun n l hl=>by
   have:=sfin_lens (stg x i) (sst s i) n l hl;omega
  have h2: ∀ n b v,∀ l∈(mtake (stg x i) (sst s i) n b v).sent,l.length≤200:=fun n b v l hl=>by
   have:=stake_lens (stg x i) (sst s i) n v l hl;omega
  unfold pnext;split
  ·intro l hl;cases hl
  ·split
   ·split
    ·exact h1 _
    ·exact h2 _ _ _
   ·split
    ·exact h2 _ _ _
    ·split
     ·exact h1 _
     ·intro l hl;cases hl
theorem csend_len (c:Cr) (n:Int):(csend c n).1.items.length≤c.items.length+1:=by
  unfold csend perf sendC;repeat' split
  all_goals first|exact Nat.zero_le _| (show (c.items++[n]).length≤_;simp)
theorem cclose_len (c:Cr):(cclose c).1.items.length≤c.items.length:=by
  unfold cclose perf closeC;repeat' split
  all_goals first|exact Nat.zero_le _|exact Nat.le_refl _
theorem sendsC_len: ∀ (l:List Int) (c:Cr),(sendsC c l).items.length≤c.items.length+l.length
  | [],c=>Nat.le_refl _
  |n::l,c=>by
   have h1:=sendsC_len l (csend c n).1;have h2:=csend_len c n;rw [sendsC,List.length_cons];omega
theorem sendsC_succ: ∀ (l:List Int) (c:Cr) {j:Nat} (hj:j<l.length),(csend (sendsC c (l.take j)) l[j]).1=sendsC c (l.take (j+1))
  | [],c,j,hj=>absurd hj (Nat.not_lt_zero _)
  |n::l,c,0,hj=>by simp [sendsC]
  |n::l,c,j+1,hj=>by
   have:=sendsC_succ l (csend c n).1 (j:=j) (by simpa using hj);simpa [sendsC] using this
theorem sendK_len (x:Pl) (cs:List Cr) (i:Int) (m:Mv): ∀ n,(sendK x cs i m n).length=cs.length
  |0=>rfl
  |n+1=>by rw [sendK,send1,List.length_set,sendK_len x cs i m n]
theorem set_same {α:Type} [Inhabited α] (L:List α) (k:Nat):L.set k (L.getD k default)=L:=by
  refine List.ext_getElem? fun j=> ?_;rw [List.getElem?_set];split
  ·rename_i h;subst h;split
   ·rename_i h2;rw [List.getD,List.getElem?_eq_getElem h2,Option.getD_some]
   ·rename_i h2;rw [List.getElem?_eq_none (by omega)]
  ·rfl
theorem getD_set' {α:Type} [Inhabited α] {L:List α} {k:Nat} (hk:k<L.length) (a:α):(L.set k a).getD k default=a:=by
  rw [List.getD,List.getElem?_set_self (by simpa using hk)];rfl
end Pn
namespace Pn
theorem sendK_items (x:Pl) {cs:List Cr} (i:Int) {m:Mv} {B:Nat} (hc: ∀ c∈cs,c.items.length≤B) (hm: ∀ l∈m.sent,l.length≤1000): ∀ n,∀ c∈sendK x cs i m n,c.items.length≤B+1000*n
  |0,c,h=>by have:=hc c h;omega
  |n+1,c,h=>by
   have ih:=sendK_items x i hc hm n;have hg: ∀ k,((sendK x cs i m n).getD k default).items.length≤B+1000*n:=fun k=>by
    rw [List.getD];cases e:(sendK x cs i m n)[k]? with
    |none=>exact Nat.zero_le _
    |some c=>exact ih c (List.mem_of_getElem? e)
   have hl: ∀ k,(m.sent.getD k default).length≤1000:=fun k=>by
    rw [List.getD];cases e:m.sent[k]? with
    |none=>exact Nat.zero_le _
    |some c=>exact hm c (List.mem_of_getElem? e)
   rw [sendK,send1] at h;rcases List.mem_or_eq_of_mem_set h with h1|h1
   ·have:=ih c h1;omega
   ·have h2:=hg (outP x i n).toNat;have h3:=hl n;have h4:(if n<m.sent.length then sendsC ((sendK x cs i m n).getD (outP x i n).toNat default) (m.sent.getD n default) else (sendK x cs i m n).getD (outP x i n).toNat default).items.length≤B+1000*(n+1):=by
     split
     ·have:=sendsC_len (m.sent.getD n default) ((sendK x cs i m n).getD (outP x i n).toNat default);omega
     ·omega
    rw [h1];split
    ·exact Nat.le_trans (cclose_len _) h4
    ·exact h4
theorem ctake_items (c:Cr):(ctake c).1.items.length≤c.items.length:=by
  unfold ctake;repeat' split
  all_goals first|exact Nat.zero_le _| (show (c.items.drop 1).length≤_;simp)
theorem pnext_takes {x:Pl} {s:Fs} {i:Int} (h:(pnext x s i).1.takes=true):(sst s i).ended=false∧(stg x i).kind≠1∧(pnext x s i).1=mtake (stg x i) (sst s i) (pin x s i) true ((pcr x s i).items.getD 0 default)∧0<(pcr x s i).items.length:=by
  unfold pnext at h ⊢;split at h
  ·cases h
  ·rename_i h1;rw [if_neg h1];have h1':(sst s i).ended=false:=by simpa using h1
   split at h
   ·split at h<;>cases h
   ·rename_i h2;rw [if_neg h2];split at h
    ·rename_i h3;rw [if_pos h3];exact⟨h1',h2,rfl,h3⟩
    ·split at h<;>cases h
theorem pnext_in {x:Pl} {s:Fs} {i:Int} (hx:Pok x) (hv:Pv x s) (hi:0≤i∧i<x.stages.length) (h:(pnext x s i).1.takes=true):0≤inP x i (pnext x s i).1.inn∧(inP x i (pnext x s i).1.inn).toNat<x.pipes.length:=by
  obtain⟨h1,h2,h3,-⟩:=pnext_takes h;have h4:=(need_in (hv.need' hi) h1 h2).2;obtain⟨k,hk,hk2,-⟩:=hx.inp hi (n:=pin x s i) h4;rw [h3];show 0≤inP x i (pin x s i)∧_;exact⟨by omega,by show (inP x i (pin x s i)).toNat<_;omega⟩
end Pn
namespace Pn
theorem ptook_len (x:Pl) (cs:List Cr) (i:Int) (m:Mv):(ptook x cs i m).1.length=cs.length:=by
  unfold ptook;split
  ·rfl
  ·rw [List.length_set]
theorem creq_len (c:Cr) (n:Int):(creq c n).1.items.length≤c.items.length:=by
  unfold creq perf reqC;repeat' split
  all_goals first|exact Nat.zero_le _|exact Nat.le_refl _
theorem tookC_len (c:Cr):(tookC c).1.items.length≤c.items.length:=by
  unfold tookC;split
  ·exact Nat.le_trans (creq_len _ _) (ctake_items _)
  ·exact ctake_items _
theorem Pv.items {x:Pl} {s:Fs} (hx:Pok x) (h:Pv x s): ∀ c∈s.credits,c.items.length≤100:=by
  intro c hc;obtain⟨k,hk,rfl⟩:=List.getElem_of_mem hc;have h4:=h.ok k (by rw [←h.lc];exact hk);have e:crd s k=s.credits[k]:=by unfold crd;rw [List.getD];simp [hk]
  rw [e] at h4;have a:=h4.len;have b:=h4.cap;have c:=h4.room;have d:=h4.granted;omega
theorem ptook_items {x:Pl} {s:Fs} (hx:Pok x) (h:Pv x s) (i:Int) (m:Mv): ∀ c∈(ptook x s.credits i m).1,c.items.length≤1000:=by
  have h0:=h.items hx;intro c hc;unfold ptook at hc;split at hc
  ·have:=h0 c hc;omega
  ·rcases List.mem_or_eq_of_mem_set hc with h1|h1
   ·have:=h0 c h1;omega
   ·have h2:=tookC_len (s.credits.getD (inP x i m.inn).toNat default);have h3:(s.credits.getD (inP x i m.inn).toNat default).items.length≤100:=by
     rw [List.getD];cases e:s.credits[(inP x i m.inn).toNat]? with
     |none=>exact Nat.zero_le _
     |some c=>exact h0 c (List.mem_of_getElem? e)
    rw [h1];exact Nat.le_trans h2 (by omega)
end Pn
set_option maxRecDepth 10000
namespace Go.Proofs
open Go.Aw Wl Pn
theorem cloneWSt_c (l:List (Pn.Ss)) (hn:l≠[]) (hl:l.length≤1000000):ACalls Tryz.prog 75 [.sl 3 (l.map encSt)] [] (fun v st=> ∃ j,v= .vec 3 (some j) l.length∧st=[.vec (some j) (l.map encSt).flatten]):=by
  refine acalls_body Tryz.func75 (by kernel_rfl) rfl Tryz.ntmps75 (le_ rfl) ?_;rw [Tryz.results75];refine asr ?_;refine sA ?_;refine aops_nil ?_;refine awp_seq ?_;refine asr ?_;refine sM ?_;refine st_p (fun _=>by exact y_eqNilF (.plain rfl) (by simpa using hn)) rfl ?_;refine aops_nil ?_;refine awp_cond rfl (fun h1=> ?_) (fun h1=> ?_)
  ·cases h1
  ·simp only [nf] at h1;refine awp_skip ?_;refine asr ?_;refine st_p (fun _=>by exact y_buildSlice .nil rfl (le_ rfl)) rfl ?_;refine sM ?_;refine aops_weak (Weak.vec0 []) ?_;refine st_n (fun _=>by exact y_vappend (by rfl) (by rfl) (.imp (.plain rfl) AV.Imp.full_vec) (by rfl) (.plain rfl) (by simpa using hn) (by simp;omega) .here) rfl fun nj=> ?_;refine sA ?_;refine aops_nil ?_;refine awp_ret ?_;exact retG (.inr rfl) (.cons (.tmp rfl) .nil) VShift.refl ⟨nj,by rw [List.length_map,Nat.zero_add];rfl,by rw [List.nil_append]⟩
theorem cloneWCr_c (l:List (Pn.Cr)) (hn:l≠[]) (hl:l.length≤1000000):ACalls Tryz.prog 76 [.sl 6 (l.map encCr)] [] (fun v st=> ∃ j,v= .vec 6 (some j) l.length∧st=[.vec (some j) (l.map encCr).flatten]):=by
  refine acalls_body Tryz.func76 (by kernel_rfl) rfl Tryz.ntmps76 (le_ rfl) ?_;rw [Tryz.results76];refine asr ?_;refine sA ?_;refine aops_nil ?_;refine awp_seq ?_;refine asr ?_;refine sM ?_;refine st_p (fun _=>by exact y_eqNilF (.plain rfl) (by simpa using hn)) rfl ?_;refine aops_nil ?_;refine awp_cond rfl (fun h1=> ?_) (fun h1=> ?_)
  ·cases h1
  ·simp only [nf] at h1;refine awp_skip ?_;refine asr ?_;refine st_p (fun _=>by exact y_buildSlice .nil rfl (le_ rfl)) rfl ?_;refine sM ?_;refine aops_weak (Weak.vec0 []) ?_;refine st_n (fun _=>by exact y_vappend (by rfl) (by rfl) (.imp (.plain rfl) AV.Imp.full_vec) (by rfl) (.plain rfl) (by simpa using hn) (by simp;omega) .here) rfl fun nj=> ?_;refine sA ?_;refine aops_nil ?_;refine awp_ret ?_;exact retG (.inr rfl) (.cons (.tmp rfl) .nil) VShift.refl ⟨nj,by rw [List.length_map,Nat.zero_add];rfl,by rw [List.nil_append]⟩
theorem cloneWLI_c (l:List (List Int)) (hn:l≠[]) (hl:l.length≤1000000):ACalls Tryz.prog 77 [.sl 1 (l.map encLI)] [] (fun v st=> ∃ j,v= .vec 1 (some j) l.length∧st=[.vec (some j) (l.map encLI).flatten]):=by
  refine acalls_body Tryz.func77 (by kernel_rfl) rfl Tryz.ntmps77 (le_ rfl) ?_;rw [Tryz.results77];refine asr ?_;refine sA ?_;refine aops_nil ?_;refine awp_seq ?_;refine asr ?_;refine sM ?_;refine st_p (fun _=>by exact y_eqNilF (.plain rfl) (by simpa using hn)) rfl ?_;refine aops_nil ?_;refine awp_cond rfl (fun h1=> ?_) (fun h1=> ?_)
  ·cases h1
  ·simp only [nf] at h1;refine awp_skip ?_;refine asr ?_;refine st_p (fun _=>by exact y_buildSlice .nil rfl (le_ rfl)) rfl ?_;refine sM ?_;refine aops_weak (Weak.vec0 []) ?_;refine st_n (fun _=>by exact y_vappend (by rfl) (by rfl) (.imp (.plain rfl) AV.Imp.full_vec) (by rfl) (.plain rfl) (by simpa using hn) (by simp;omega) .here) rfl fun nj=> ?_;refine sA ?_;refine aops_nil ?_;refine awp_ret ?_;exact retG (.inr rfl) (.cons (.tmp rfl) .nil) VShift.refl ⟨nj,by rw [List.length_map,Nat.zero_add];rfl,by rw [List.nil_append]⟩
theorem took_c (p b N:Nat) (A C D:AV) (pad:List AV) (cs:List Pn.Cr) (z:Pn.Pl) (i:Int) (m:Pn.Mv) (hN:cs.length=N) (hz:z.pipes.length≤1000000) (hk:m.takes=true→0≤(Pn.inP z i m.inn)∧(Pn.inP z i m.inn).toNat<cs.length) (hc: ∀ c∈cs,c.items.length≤1000000):ACalls Tryz.prog 78 [.agg (encPl z),.ptr p 0,.int i,.agg (encMv m)] [.cells p [A,.arr b 0 N,C,D],.cells b (((cs).map encCr).flatten++pad)] (fun v st=>v= .int (Pn.ptook z cs i m).2∧st=[.cells p [A,.arr b 0 N,C,D],.cells b ((((Pn.ptook z cs i m).1).map encCr).flatten++pad)]):=by
  refine acalls_body Tryz.func78 (by kernel_rfl) rfl Tryz.ntmps78 (le_ rfl) ?_;rw [Tryz.results78];refine asr ?_;refine sB fun n1=> ?_;refine sB fun n7=> ?_;refine sA ?_;refine aops_nil ?_;refine awp_seq ?_;refine asr ?_;refine sF ?_;refine sL .here ?_;refine sO ?_;refine aops_nil ?_;refine awp_cond rfl (fun h1=> ?_) (fun h1=> ?_)
  ·simp only [nf] at h1;refine asr ?_;refine sA ?_;refine aops_nil ?_;refine awp_ret ?_;refine retG (.inr rfl) (.cons (.tmp rfl) .nil) (VShift.of2 (st':=[.cells p [A,.arr b 0 N,C,D],.cells b (((cs).map encCr).flatten++pad)]) (AV.Imp.refl _) (by (repeat (first|exact .nil _|apply ItLe2.cons (by exact k2)));done)) ?_;have hpt:Pn.ptook z cs i m=(cs,0):=by rw [Pn.ptook,if_pos (by assumption)]
   rw [hpt];exact⟨rfl,rfl⟩
  ·simp only [nf] at h1;refine awp_skip ?_;refine awp_seq ?_;have hkt:m.takes=true:=by simpa using h1
   obtain⟨hk1,hk2⟩:=hk hkt;have hci:(cs.getD (Pn.inP z i m.inn).toNat default).items.length≤1000000:=hc _ (by rw [List.getD,List.getElem?_eq_getElem hk2,Option.getD_some];exact List.getElem_mem hk2);have hti:=Pn.ctake_items (cs.getD (Pn.inP z i m.inn).toNat default);refine awp_region ?_;refine sW k1 ?_;refine sM ?_;refine sF ?_;refine sL .here ?_;refine aops_call (blt_lt rfl) (.plain rfl) (.cons (.imp (.plain rfl) (AV.Imp.agg (RowOf.imp (enc:=encPl)))) (.cons (.plain rfl) (.cons (.plain rfl) .nil))) (ACalls.here (inp_c z i m.inn hz) ?_);refine sA ?_;refine aops_nil ?_;refine asr ?_;refine sM ?_;refine sZ ?_;refine sF ?_;refine sL k2 ?_;refine sM ?_;refine st_p (fun _=>by exact y_indexArr (.plain rfl) (.plain rfl) (Int.toNat_of_nonneg hk1).symm (by omega)) rfl ?_;refine st_p (fun _=>by exact y_loadRow (f:=encCr) (L:=cs) (e:=(cs.getD (Pn.inP z i m.inn).toNat default)) (fun _=>rfl) (.plain rfl) (by exact k3) ⟨hk2,by rw [List.getD,List.getElem?_eq_getElem hk2,Option.getD_some]⟩) rfl ?_;refine aops_call (blt_lt rfl) (.plain rfl) (.cons (.imp (.plain rfl) (AV.Imp.agg (RowOf.imp (enc:=encCr)))) .nil) (ACalls.here (ctake_c (cs.getD (Pn.inP z i m.inn).toNat default) hci) ?_);refine sM ?_;refine sE ?_;refine sE ?_;refine sE ?_;refine sC fun nC=> ?_;refine st_s (fun _=>by exact y_storeW (by rfl) rfl (.plain rfl) (.plain rfl) (by exact .here) (by rfl)) ?_;refine sA ?_;refine sA ?_;refine aops_nil ?_;refine awp_seq ?_;refine asr ?_;refine sM ?_;refine sQ ?_;refine sM ?_;refine gF ?_;refine gL0 .here ?_;refine gO0 ?_;refine sJ ?_;refine aops_nil ?_;refine awp_cond rfl (fun h2=> ?_) (fun h2=> ?_)
   ·simp only [nf] at h2;refine awp_region ?_;refine sW .here ?_;refine aops_call (blt_lt rfl) (.plain rfl) (.cons (.imp (.plain rfl) (AV.Imp.agg (RowOf.imp (enc:=encCr)))) (.cons (.plain rfl) .nil)) (ACalls.here (creq_c (Pn.ctake (cs.getD (Pn.inP z i m.inn).toNat default)).1 1 (by omega) (by decide)) ?_);refine sM ?_;refine sE ?_;refine sE ?_;refine st_s (fun _=>by exact y_storeW (by rfl) rfl (.plain rfl) (.plain rfl) (by exact .here) (by rfl)) ?_;refine sA ?_;refine aops_nil ?_;refine awp_seq ?_;refine awp_anyT (ks:=[.free,.free,.free,.free,.free,.free,.free,.write]) [.cells b _] (by apply Takes.cons (by exact k4);exact .nil _) (by kernel_rfl) (fun K=> ?_) ?_
    ·refine rM ?_;refine rZ ?_;refine rF ?_;refine rL k3 ?_;refine rM ?_;refine rW .here ?_;refine dr_p (fun _=>by exact y_indexArr (.plain rfl) (.plain rfl) (Int.toNat_of_nonneg hk1).symm (by omega)) rfl ?_;refine dr_s (fun _=>by exact y_storeRow (f:=encCr) (L:=cs) (e:=(Pn.creq (Pn.ctake (cs.getD (Pn.inP z i m.inn).toNat default)).1 1).1) (by rfl) (fun _=>rfl) (.plain rfl) (.plain rfl) hk2 (by exact .here)) ?_;refine dr_nil ?_;refine asr ?_;refine sM ?_;refine sA ?_;refine aops_nil ?_;refine awp_ret ?_;refine retG (.inr rfl) (.cons (.tmp rfl) .nil) (VShift.of2 (st':=[.cells p [A,.arr b 0 N,C,D],.cells b (((cs.set (Pn.inP z i m.inn).toNat (Pn.creq (Pn.ctake (cs.getD (Pn.inP z i m.inn).toNat default)).1 1).1).map encCr).flatten++pad)]) (AV.Imp.refl _) (by (repeat (first|exact .nil _|apply ItLe2.cons (by first|exact .here|exact k4)));done)) ?_;have hpt:Pn.ptook z cs i m=(cs.set (Pn.inP z i m.inn).toNat (Pn.creq (Pn.ctake (cs.getD (Pn.inP z i m.inn).toNat default)).1 1).1,(Pn.creq (Pn.ctake (cs.getD (Pn.inP z i m.inn).toNat default)).1 1).2):=by rw [Pn.ptook,if_neg (by simp [hkt]),Pn.tookC,if_pos (by simp_all)]
     rw [hpt];exact⟨rfl,rfl⟩
    ·kernel_rfl
   ·simp only [nf] at h2;refine awp_skip ?_;refine awp_seq ?_;refine awp_anyT (ks:=[.free,.free,.free,.free,.free,.free,.free,.write]) [.cells b _] (by apply Takes.cons (by exact k4);exact .nil _) (by kernel_rfl) (fun K=> ?_) ?_
    ·refine rM ?_;refine rZ ?_;refine rF ?_;refine rL k3 ?_;refine rM ?_;refine rW .here ?_;refine dr_p (fun _=>by exact y_indexArr (.plain rfl) (.plain rfl) (Int.toNat_of_nonneg hk1).symm (by omega)) rfl ?_;refine dr_s (fun _=>by exact y_storeRow (f:=encCr) (L:=cs) (e:=(Pn.ctake (cs.getD (Pn.inP z i m.inn).toNat default)).1) (by rfl) (fun _=>rfl) (.plain rfl) (.plain rfl) hk2 (by exact .here)) ?_;refine dr_nil ?_;refine asr ?_;refine sM ?_;refine sA ?_;refine aops_nil ?_;refine awp_ret ?_;refine retG (.inr rfl) (.cons (.tmp rfl) .nil) (VShift.of2 (st':=[.cells p [A,.arr b 0 N,C,D],.cells b (((cs.set (Pn.inP z i m.inn).toNat (Pn.ctake (cs.getD (Pn.inP z i m.inn).toNat default)).1).map encCr).flatten++pad)]) (AV.Imp.refl _) (by (repeat (first|exact .nil _|apply ItLe2.cons (by first|exact .here|exact k4)));done)) ?_;have hpt:Pn.ptook z cs i m=(cs.set (Pn.inP z i m.inn).toNat (Pn.ctake (cs.getD (Pn.inP z i m.inn).toNat default)).1,(Pn.ctake (cs.getD (Pn.inP z i m.inn).toNat default)).2.2):=by rw [Pn.ptook,if_neg (by simp [hkt]),Pn.tookC,if_neg (by rintro⟨a9,b9⟩;simp_all)]
     rw [hpt];exact⟨rfl,rfl⟩
    ·kernel_rfl
theorem psend_c (p b N:Nat) (A C D:AV) (pad:List AV) (cs:List Pn.Cr) (z:Pn.Pl) (i:Int) (m:Pn.Mv) (hN:cs.length=N) (hx:Pn.Pok z) (hi:0≤i∧i<z.stages.length) (hcl:cs.length=z.pipes.length) (hm:m.sent.length≤(Pn.hout (Pn.stg z i).kind).toNat) (hml: ∀ l∈m.sent,l.length≤1000) (hc: ∀ c∈cs,c.items.length≤1000):ACalls Tryz.prog 79 [.agg (encPl z),.ptr p 0,.int i,.agg (encMv m)] [.cells p [A,.arr b 0 N,C,D],.cells b (((cs).map encCr).flatten++pad)] (fun v st=>v= .tup []∧st=[.cells p [A,.arr b 0 N,C,D],.cells b ((((Pn.sendK z cs i m (Pn.sout (Pn.stg z i)).toNat)).map encCr).flatten++pad)]):=by
  refine acalls_body Tryz.func79 (by kernel_rfl) rfl Tryz.ntmps79 (le_ rfl) ?_;rw [Tryz.results79];have hxn:=hx.n;have hxp:=hx.np;have hso:=Pn.sout_of (hx.stg hi).1;have hho:=(Pn.hio (hx.stg hi).2.kind).2.1;refine asr ?_;refine sB fun n1=> ?_;refine sB fun n7=> ?_;refine aops_nil ?_;refine asr ?_;refine sF ?_;refine sL k1 ?_;refine sM ?_;refine st_p (fun _=>by exact y_indexT (l:=z.stages) (.plain rfl) (.plain rfl) (by omega) (by omega)) rfl ?_;refine sV ?_;refine aops_call (blt_lt rfl) (.plain rfl) (.cons (.imp (.plain rfl) (AV.Imp.agg (RowOf.imp (enc:=encSg)))) .nil) (ACalls.here (sout_c (Pn.stg z i)) ?_);refine sM ?_;refine aops_nil ?_;refine awp_block ?_;refine awp_loop2 (X:=Nat) [1,2,4,7,17] (.cons rfl (.cons rfl (.cons rfl (.cons rfl (.cons rfl .nil))))) (fun σ x=>((18,.int (x:Int)):Nat×AV)::σ) (fun R x=> .cells b (((Pn.sendK z cs i m x).map encCr).flatten++pad)::R) (fun x=>x≤(Pn.sout (Pn.stg z i)).toNat) (fun x=>(Pn.sout (Pn.stg z i)).toNat - x) 0 (by exact Weak.of2 (by (repeat (first|exact .nil _|refine .cons rfl (by exact AV.Imp.refl _) ?_));done) (by (repeat (first|exact .refl _|apply ItLe2.cons (by exact k3)));done)) (Nat.zero_le _) ?_;rintro k hk;refine asr ?_;refine sS ?_;refine aops_nil ?_;refine awp_seq ?_;refine awp_cond rfl (fun h1=> ?_) (fun h1=> ?_)
  ·simp only [nf] at h1;refine awp_skip ?_;refine awp_seq ?_;refine awp_block ?_;refine asr ?_;refine sM ?_;refine sA ?_;refine aops_nil ?_;refine awp_seq ?_;obtain⟨kk,hkk,hki,-,-⟩:=hx.outp hi (n:=(k:Int)) (by omega);have hko1:0≤(Pn.outP z i (k:Int)):=by omega
   have hko2:(Pn.outP z i (k:Int)).toNat<cs.length:=by omega
   have hsl:=Pn.sendK_len z cs i m k;have hit:=Pn.sendK_items z i hc hml k;have hci:((Pn.sendK z cs i m k).getD (Pn.outP z i (k:Int)).toNat default).items.length≤3000:=by
    have:=hit _ (List.getElem_mem (show (Pn.outP z i (k:Int)).toNat<(Pn.sendK z cs i m k).length by omega));rw [List.getD,List.getElem?_eq_getElem (by omega),Option.getD_some];omega
   refine awp_region ?_;refine sW k2 ?_;refine sM ?_;refine sM ?_;refine aops_call (blt_lt rfl) (.plain rfl) (.cons (.imp (.plain rfl) (AV.Imp.agg (RowOf.imp (enc:=encPl)))) (.cons (.plain rfl) (.cons (.plain rfl) .nil))) (ACalls.here (outp_c z i (k:Int) (by omega)) ?_);refine sA ?_;refine aops_nil ?_;refine awp_seq ?_;refine asr ?_;refine sM ?_;refine sF ?_;refine sL k1 ?_;refine sN ?_;refine sS ?_;refine aops_nil ?_;refine awp_cond rfl (fun h2=> ?_) (fun h2=> ?_)
   ·simp only [nf] at h2;refine awp_seq ?_;have hks:k<m.sent.length:=by omega
    have hmk:=hml _ (List.getElem_mem hks);have hgd:m.sent.getD k default=m.sent[k]:=by rw [List.getD,List.getElem?_eq_getElem hks,Option.getD_some]
    obtain⟨ML,hML⟩: ∃ l,m.sent[k]=l:=⟨_,rfl⟩
    rw [hML] at hmk hgd;refine awp_region ?_;refine sF ?_;refine sL k1 ?_;refine sM ?_;refine st_p (fun _=>by exact y_indexMap (e:=ML) (.plain rfl) (.plain rfl) rfl ⟨hks,hML⟩) rfl ?_;refine sU ?_;refine sN ?_;refine sM ?_;refine aops_nil ?_;refine awp_block ?_;refine awp_loop2 (X:=Nat) [1,2,4,7,9,17,18,34,35] (.cons rfl (.cons rfl (.cons rfl (.cons rfl (.cons rfl (.cons rfl (.cons rfl (.cons rfl (.cons rfl .nil))))))))) (fun σ x=>((36,.int (x:Int)):Nat×AV)::σ) (fun R x=> .cells b ((((Pn.sendK z cs i m k).set (Pn.outP z i (k:Int)).toNat (Pn.sendsC ((Pn.sendK z cs i m k).getD (Pn.outP z i (k:Int)).toNat default) (ML.take x))).map encCr).flatten++pad)::R) (fun x=>x≤ML.length) (fun x=>ML.length - x) 0 (by simp only [List.take_zero,Pn.sendsC,Pn.set_same];exact Weak.of2 (by (repeat (first|exact .nil _|refine .cons rfl (by exact AV.Imp.refl _) ?_));done) (by (repeat (exact .refl _));done)) (Nat.zero_le _) ?_;rintro j hj;refine asr ?_;refine sS ?_;refine aops_nil ?_;refine awp_seq ?_;refine awp_cond rfl (fun h3=> ?_) (fun h3=> ?_)
    ·simp only [nf] at h3;have hjl:j<ML.length:=by omega
     refine awp_skip ?_;refine awp_seq ?_;refine awp_block ?_;refine awp_seq ?_;obtain⟨MJ,hMJ⟩: ∃ v,ML[j]=v:=⟨_,rfl⟩
     refine awp_region ?_;refine st_p (fun _=>by exact y_indexMap (e:=MJ) (.plain rfl) (.plain rfl) rfl ⟨hjl,hMJ⟩) rfl ?_;refine sU ?_;refine sA ?_;refine aops_nil ?_;have hl1:(Pn.outP z i (k:Int)).toNat<((Pn.sendK z cs i m k).set (Pn.outP z i (k:Int)).toNat (Pn.sendsC ((Pn.sendK z cs i m k).getD (Pn.outP z i (k:Int)).toNat default) (ML.take j))).length:=by rw [List.length_set];omega
     have hg1:((Pn.sendK z cs i m k).set (Pn.outP z i (k:Int)).toNat (Pn.sendsC ((Pn.sendK z cs i m k).getD (Pn.outP z i (k:Int)).toNat default) (ML.take j)))[(Pn.outP z i (k:Int)).toNat]=(Pn.sendsC ((Pn.sendK z cs i m k).getD (Pn.outP z i (k:Int)).toNat default) (ML.take j)):=List.getElem_set_self _;refine awp_anyT (ks:=[.free,.free,.free,.free,.free,.free,.free,.free,.free,.free,.free,.read,.free,.free,.free,.free,.free,.free,.write]) [.cells b _] (by apply Takes.cons (by exact .here);exact .nil _) (by kernel_rfl) (fun K=> ?_) ?_
     ·refine rM ?_;refine rZ ?_;refine rF ?_;refine rL k2 ?_;refine rM ?_;refine rM ?_;refine rZ ?_;refine rF ?_;refine rL k2 ?_;refine rM ?_;refine dr_p (fun _=>by exact y_indexArr (.plain rfl) (.plain rfl) (Int.toNat_of_nonneg hko1).symm (by omega)) rfl ?_;refine dr_r (fun _=>by exact y_loadRow (f:=encCr) (L:=((Pn.sendK z cs i m k).set (Pn.outP z i (k:Int)).toNat (Pn.sendsC ((Pn.sendK z cs i m k).getD (Pn.outP z i (k:Int)).toNat default) (ML.take j)))) (e:=(Pn.sendsC ((Pn.sendK z cs i m k).getD (Pn.outP z i (k:Int)).toNat default) (ML.take j))) (fun _=>rfl) (.plain rfl) (by exact .here) ⟨hl1,hg1⟩) rfl ?_;refine rM ?_;refine dr_p (fun _=>by exact y_call (.plain rfl) (.cons (.imp (.plain rfl) (AV.Imp.agg (RowOf.imp (enc:=encCr)))) (.cons (.plain rfl) .nil)) (ACalls.pure (csend_c (Pn.sendsC ((Pn.sendK z cs i m k).getD (Pn.outP z i (k:Int)).toNat default) (ML.take j)) MJ (by have:=Pn.sendsC_len (ML.take j) ((Pn.sendK z cs i m k).getD (Pn.outP z i (k:Int)).toNat default);rw [List.length_take] at this;omega)))) rfl ?_;refine rM ?_;refine rE ?_;refine rE ?_;refine dr_p (fun _=>by exact y_indexArr (.plain rfl) (.plain rfl) (Int.toNat_of_nonneg hko1).symm (by omega)) rfl ?_;refine dr_s (fun _=>by exact y_storeRow (f:=encCr) (L:=((Pn.sendK z cs i m k).set (Pn.outP z i (k:Int)).toNat (Pn.sendsC ((Pn.sendK z cs i m k).getD (Pn.outP z i (k:Int)).toNat default) (ML.take j)))) (e:=(Pn.csend (Pn.sendsC ((Pn.sendK z cs i m k).getD (Pn.outP z i (k:Int)).toNat default) (ML.take j)) MJ).1) (by rfl) (fun _=>rfl) (.plain rfl) (.plain rfl) hl1 (by exact .here)) ?_;refine dr_nil ?_;rw [List.set_set,←hMJ,Pn.sendsC_succ _ _ hjl];refine awp_region ?_;refine sY ?_ (hb:=by omega);refine sM ?_;refine aops_nil ?_;refine⟨j+1,by omega,by omega,?_⟩;exact Weak.of2 (by (repeat (first|exact .nil _|refine .cons rfl (by exact AV.Imp.refl _) ?_));done) (by (repeat (exact .refl _));done)
     ·kernel_rfl
    ·simp only [nf] at h3;obtain rfl:j=ML.length:=by omega
     rw [List.take_length];refine awp_exit ?_;refine asr ?_;refine sF ?_;refine sL k1 ?_;refine aops_nil ?_;refine awp_cond rfl (fun h4=> ?_) (fun h4=> ?_)
     ·have hl1:(Pn.outP z i (k:Int)).toNat<((Pn.sendK z cs i m k).set (Pn.outP z i (k:Int)).toNat (Pn.sendsC ((Pn.sendK z cs i m k).getD (Pn.outP z i (k:Int)).toNat default) ML)).length:=by rw [List.length_set];omega
      have hg1:((Pn.sendK z cs i m k).set (Pn.outP z i (k:Int)).toNat (Pn.sendsC ((Pn.sendK z cs i m k).getD (Pn.outP z i (k:Int)).toNat default) ML))[(Pn.outP z i (k:Int)).toNat]=(Pn.sendsC ((Pn.sendK z cs i m k).getD (Pn.outP z i (k:Int)).toNat default) ML):=List.getElem_set_self _;refine awp_anyT (ks:=[.free,.free,.free,.free,.free,.free,.free,.free,.free,.free,.free,.read,.free,.free,.free,.free,.free,.write]) [.cells b _] (by apply Takes.cons (by exact .here);exact .nil _) (by kernel_rfl) (fun K=> ?_) ?_
      ·refine rM ?_;refine rZ ?_;refine rF ?_;refine rL k2 ?_;refine rM ?_;refine rM ?_;refine rZ ?_;refine rF ?_;refine rL k2 ?_;refine rM ?_;refine dr_p (fun _=>by exact y_indexArr (.plain rfl) (.plain rfl) (Int.toNat_of_nonneg hko1).symm (by omega)) rfl ?_;refine dr_r (fun _=>by exact y_loadRow (f:=encCr) (L:=((Pn.sendK z cs i m k).set (Pn.outP z i (k:Int)).toNat (Pn.sendsC ((Pn.sendK z cs i m k).getD (Pn.outP z i (k:Int)).toNat default) ML))) (e:=(Pn.sendsC ((Pn.sendK z cs i m k).getD (Pn.outP z i (k:Int)).toNat default) ML)) (fun _=>rfl) (.plain rfl) (by exact .here) ⟨hl1,hg1⟩) rfl ?_;refine dr_p (fun _=>by exact y_call (.plain rfl) (.cons (.imp (.plain rfl) (AV.Imp.agg (RowOf.imp (enc:=encCr)))) .nil) (ACalls.pure (cclose_c (Pn.sendsC ((Pn.sendK z cs i m k).getD (Pn.outP z i (k:Int)).toNat default) ML) (by have:=Pn.sendsC_len ML ((Pn.sendK z cs i m k).getD (Pn.outP z i (k:Int)).toNat default);omega)))) rfl ?_;refine rM ?_;refine rE ?_;refine rE ?_;refine dr_p (fun _=>by exact y_indexArr (.plain rfl) (.plain rfl) (Int.toNat_of_nonneg hko1).symm (by omega)) rfl ?_;refine dr_s (fun _=>by exact y_storeRow (f:=encCr) (L:=((Pn.sendK z cs i m k).set (Pn.outP z i (k:Int)).toNat (Pn.sendsC ((Pn.sendK z cs i m k).getD (Pn.outP z i (k:Int)).toNat default) ML))) (e:=(Pn.cclose (Pn.sendsC ((Pn.sendK z cs i m k).getD (Pn.outP z i (k:Int)).toNat default) ML)).1) (by rfl) (fun _=>rfl) (.plain rfl) (.plain rfl) hl1 (by exact .here)) ?_;refine dr_nil ?_;refine awp_region ?_;refine sY ?_ (hb:=by omega);refine sM ?_;refine aops_nil ?_;refine⟨k+1,by omega,by omega,?_⟩;rw [show Pn.sendK z cs i m (k+1)=((Pn.sendK z cs i m k).set (Pn.outP z i (k:Int)).toNat (Pn.sendsC ((Pn.sendK z cs i m k).getD (Pn.outP z i (k:Int)).toNat default) ML)).set (Pn.outP z i (k:Int)).toNat (Pn.cclose (Pn.sendsC ((Pn.sendK z cs i m k).getD (Pn.outP z i (k:Int)).toNat default) ML)).1 from by show Pn.send1 z (Pn.sendK z cs i m k) i m k=_;rw [Pn.send1,if_pos hks,if_pos (show m.ended=true by assumption),hgd,List.set_set]];exact Weak.of2 (by (repeat (first|exact .nil _|refine .cons rfl (by exact AV.Imp.refl _) ?_));done) (by (repeat (exact .refl _));done)
      ·kernel_rfl
     ·refine awp_skip ?_;refine awp_region ?_;refine sY ?_ (hb:=by omega);refine sM ?_;refine aops_nil ?_;refine⟨k+1,by omega,by omega,?_⟩;rw [show Pn.sendK z cs i m (k+1)=((Pn.sendK z cs i m k).set (Pn.outP z i (k:Int)).toNat (Pn.sendsC ((Pn.sendK z cs i m k).getD (Pn.outP z i (k:Int)).toNat default) ML)) from by show Pn.send1 z (Pn.sendK z cs i m k) i m k=_;rw [Pn.send1,if_pos hks,if_neg (show ¬ m.ended=true by simp_all),hgd]];exact Weak.of2 (by (repeat (first|exact .nil _|refine .cons rfl (by exact AV.Imp.refl _) ?_));done) (by (repeat (exact .refl _));done)
   ·simp only [nf] at h2;refine awp_skip ?_;refine asr ?_;refine sF ?_;refine sL k1 ?_;refine aops_nil ?_;refine awp_cond rfl (fun h5=> ?_) (fun h5=> ?_)
    ·have hl0:(Pn.outP z i (k:Int)).toNat<(Pn.sendK z cs i m k).length:=by omega
     have hg0:(Pn.sendK z cs i m k)[(Pn.outP z i (k:Int)).toNat]=((Pn.sendK z cs i m k).getD (Pn.outP z i (k:Int)).toNat default):=by rw [List.getD,List.getElem?_eq_getElem hl0,Option.getD_some]
     refine awp_anyT (ks:=[.free,.free,.free,.free,.free,.free,.free,.free,.free,.free,.free,.read,.free,.free,.free,.free,.free,.write]) [.cells b _] (by apply Takes.cons (by exact .here);exact .nil _) (by kernel_rfl) (fun K=> ?_) ?_
     ·refine rM ?_;refine rZ ?_;refine rF ?_;refine rL k2 ?_;refine rM ?_;refine rM ?_;refine rZ ?_;refine rF ?_;refine rL k2 ?_;refine rM ?_;refine dr_p (fun _=>by exact y_indexArr (.plain rfl) (.plain rfl) (Int.toNat_of_nonneg hko1).symm (by omega)) rfl ?_;refine dr_r (fun _=>by exact y_loadRow (f:=encCr) (L:=(Pn.sendK z cs i m k)) (e:=((Pn.sendK z cs i m k).getD (Pn.outP z i (k:Int)).toNat default)) (fun _=>rfl) (.plain rfl) (by exact .here) ⟨hl0,hg0⟩) rfl ?_;refine dr_p (fun _=>by exact y_call (.plain rfl) (.cons (.imp (.plain rfl) (AV.Imp.agg (RowOf.imp (enc:=encCr)))) .nil) (ACalls.pure (cclose_c ((Pn.sendK z cs i m k).getD (Pn.outP z i (k:Int)).toNat default) (by omega)))) rfl ?_;refine rM ?_;refine rE ?_;refine rE ?_;refine dr_p (fun _=>by exact y_indexArr (.plain rfl) (.plain rfl) (Int.toNat_of_nonneg hko1).symm (by omega)) rfl ?_;refine dr_s (fun _=>by exact y_storeRow (f:=encCr) (L:=(Pn.sendK z cs i m k)) (e:=(Pn.cclose ((Pn.sendK z cs i m k).getD (Pn.outP z i (k:Int)).toNat default)).1) (by rfl) (fun _=>rfl) (.plain rfl) (.plain rfl) hl0 (by exact .here)) ?_;refine dr_nil ?_;refine awp_region ?_;refine sY ?_ (hb:=by omega);refine sM ?_;refine aops_nil ?_;refine⟨k+1,by omega,by omega,?_⟩;rw [show Pn.sendK z cs i m (k+1)=(Pn.sendK z cs i m k).set (Pn.outP z i (k:Int)).toNat (Pn.cclose ((Pn.sendK z cs i m k).getD (Pn.outP z i (k:Int)).toNat default)).1 from by show Pn.send1 z (Pn.sendK z cs i m k) i m k=_;rw [Pn.send1,if_neg (show ¬ k<m.sent.length by omega),if_pos (show m.ended=true by assumption)]];exact Weak.of2 (by (repeat (first|exact .nil _|refine .cons rfl (by exact AV.Imp.refl _) ?_));done) (by (repeat (exact .refl _));done)
     ·kernel_rfl
    ·refine awp_skip ?_;refine awp_region ?_;refine sY ?_ (hb:=by omega);refine sM ?_;refine aops_nil ?_;refine⟨k+1,by omega,by omega,?_⟩;rw [show Pn.sendK z cs i m (k+1)=(Pn.sendK z cs i m k) from by show Pn.send1 z (Pn.sendK z cs i m k) i m k=_;rw [Pn.send1,if_neg (show ¬ k<m.sent.length by omega),if_neg (show ¬ m.ended=true by simp_all),Pn.set_same]];exact Weak.of2 (by (repeat (first|exact .nil _|refine .cons rfl (by exact AV.Imp.refl _) ?_));done) (by (repeat (exact .refl _));done)
  ·simp only [nf] at h1;refine awp_exit ?_;obtain rfl:k=(Pn.sout (Pn.stg z i)).toNat:=by omega
   refine retG (.inl rfl) .nil (VShift.of2 (st':=[.cells p [A,.arr b 0 N,C,D],.cells b ((((Pn.sendK z cs i m (Pn.sout (Pn.stg z i)).toNat)).map encCr).flatten++pad)]) (AV.Imp.refl _) (by (repeat (first|exact .nil _|apply ItLe2.cons (by first|exact .here|exact k3)));done)) ⟨rfl,rfl⟩
end Go.Proofs
set_option maxRecDepth 10000
namespace Go.Proofs
open Go.Aw Wl Pn
theorem pstep_c (z:Pn.Pl) (s:Pn.Fs) (i:Int) (hz:z.stages.length≤1000000∧z.pipes.length≤1000000) (hs:Pn.Fsz s):ACalls Tryz.prog 49 [(AV.agg (encPl z)),(AV.agg (encFs s)),(AV.int i)] [] (fun v st=>v=(AV.tup [(AV.agg (encFs ((Pn.pstep z s i).1))),(AV.int ((Pn.pstep z s i).2))])∧st=[]):=by
  refine acalls_body Tryz.func49 (by kernel_rfl) rfl Tryz.ntmps49 (le_ rfl) ?_;rw [Tryz.results49];refine asr ?_;refine sB fun n1=> ?_;refine sB fun n2=> ?_;refine sC fun n6=> ?_;refine sA ?_;refine aops_nil ?_;refine awp_seq ?_;refine asr ?_;refine sW k2 ?_;refine sW k1 ?_;refine aops_call (blt_lt rfl) (.plain rfl) (.cons (.imp (.plain rfl) (AV.Imp.agg (RowOf.imp (enc:=encPl)))) (.cons (.imp (.plain rfl) (AV.Imp.agg (RowOf.imp (enc:=encFs)))) .nil)) (ACalls.here (pvalid_c z s hz hs) ?_);refine sA ?_;refine aops_nil ?_;refine asr ?_;refine sM ?_;refine sR ?_;refine aops_nil ?_;refine awp_cond rfl (fun h1=> ?_) (fun h1=> ?_)
  ·simp only [nf] at h1;refine asr ?_;refine st_p (fun _=>by exact y_build (out:=[_,_,_,_]) .nil rfl rfl) rfl ?_;refine sM ?_;refine st_s (fun _=>by exact y_storeW (by rfl) rfl (.plain rfl) (.plain rfl) (by exact .here) (by rfl)) ?_;refine sA ?_;refine aops_nil ?_;refine awp_ret ?_;refine retG (.inr rfl) (.cons (res_cellW rfl (by exact .here) (by rfl)) (.cons (.tmp rfl) .nil)) (VShift.of2 (AV.Imp.tup (.cons (AV.Imp.agg (RowOf.imp (enc:=encFs))) (.cons (AV.Imp.refl _) .nil))) (.nil _)) ⟨congrArg (fun x:(Pn.Fs)×(Int)=>(AV.tup [(AV.agg (encFs x.1)),(AV.int x.2)])) (show (_,_)=(Pn.pstep z s i) from ?_),rfl⟩;rw [Pn.pstep,if_pos (show Pn.pvalid z s≠0 by omega)];all_goals rfl
  ·simp only [nf] at h1;have hok:=Pn.pvalid_ok (show Pn.pvalid z s=0 by omega);have hls:=hok.2.ls;have hlc:=hok.2.lc;have hlo:=hok.2.lo;refine awp_skip ?_;refine awp_seq ?_;refine asr ?_;refine sM ?_;refine sF ?_;refine sL k2 ?_;refine sN ?_;refine st_p (fun _=>by exact y_sub (.plain rfl) (.plain rfl) (by omega)) rfl ?_;refine aops_call (blt_lt rfl) (.plain rfl) (.cons (.plain rfl) (.cons (.plain rfl) (.cons (.plain rfl) .nil))) (ACalls.here (within_c _ _ _) ?_);refine sO ?_;refine aops_nil ?_;refine awp_cond rfl (fun h2=> ?_) (fun h2=> ?_)
   ·simp only [nf] at h2;refine asr ?_;refine st_p (fun _=>by exact y_build (out:=[_,_,_,_]) .nil rfl rfl) rfl ?_;refine st_s (fun _=>by exact y_storeW (by rfl) rfl (.plain rfl) (.plain rfl) (by exact .here) (by rfl)) ?_;refine sA ?_;refine aops_nil ?_;refine awp_ret ?_;refine retG (.inr rfl) (.cons (res_cellW rfl (by exact .here) (by rfl)) (.cons (.tmp rfl) .nil)) (VShift.of2 (AV.Imp.tup (.cons (AV.Imp.agg (RowOf.imp (enc:=encFs))) (.cons (AV.Imp.refl _) .nil))) (.nil _)) ⟨congrArg (fun x:(Pn.Fs)×(Int)=>(AV.tup [(AV.agg (encFs x.1)),(AV.int x.2)])) (show (_,_)=(Pn.pstep z s i) from ?_),rfl⟩;rw [Pn.pstep,if_neg (show ¬ Pn.pvalid z s≠0 by omega),if_pos (by assumption)];all_goals rfl
   ·simp only [nf] at h2;have hi:0≤i∧i<z.stages.length:=by have:=Sv.win_t.1 h2;omega
    refine awp_skip ?_;refine asr ?_;refine sW k2 ?_;refine sW k1 ?_;refine sM ?_;refine aops_call (blt_lt rfl) (.plain rfl) (.cons (.imp (.plain rfl) (AV.Imp.agg (RowOf.imp (enc:=encPl)))) (.cons (.imp (.plain rfl) (AV.Imp.agg (RowOf.imp (enc:=encFs)))) (.cons (.plain rfl) .nil))) (ACalls.here (enab_c z s i hok.1 hs hok.2 hi) ?_);refine sM ?_;refine sE ?_;refine sE ?_;refine sC fun n9=> ?_;refine st_s (fun _=>by exact y_storeW (by rfl) rfl (.plain rfl) (.plain rfl) (by exact .here) (by rfl)) ?_;refine sA ?_;refine aops_nil ?_;refine awp_seq ?_;refine asr ?_;refine sM ?_;refine sO ?_;refine aops_nil ?_;refine awp_cond rfl (fun h3=> ?_) (fun h3=> ?_)
    ·simp only [nf] at h3;refine asr ?_;refine st_p (fun _=>by exact y_build (out:=[_,_,_,_]) .nil rfl rfl) rfl ?_;refine st_s (fun _=>by exact y_storeW (by rfl) rfl (.plain rfl) (.plain rfl) (by exact u1) (by rfl)) ?_;refine sA ?_;refine aops_nil ?_;refine awp_ret ?_;refine retG (.inr rfl) (.cons (res_cellW rfl (by exact k1) (by rfl)) (.cons (.tmp rfl) .nil)) (VShift.of2 (AV.Imp.tup (.cons (AV.Imp.agg (RowOf.imp (enc:=encFs))) (.cons (AV.Imp.refl _) .nil))) (.nil _)) ⟨congrArg (fun x:(Pn.Fs)×(Int)=>(AV.tup [(AV.agg (encFs x.1)),(AV.int x.2)])) (show (_,_)=(Pn.pstep z s i) from ?_),rfl⟩;rw [Pn.pstep,if_neg (show ¬ Pn.pvalid z s≠0 by omega),if_neg (show ¬ Sv.win i 0 (z.stages.length - 1)=false by simp_all),if_pos (by simp_all)];all_goals rfl
    ·simp only [nf] at h3;refine awp_skip ?_;refine awp_seq ?_;refine asr ?_;refine sF ?_;refine sL .here ?_;refine sR ?_;refine aops_nil ?_;refine awp_cond rfl (fun h4=> ?_) (fun h4=> ?_)
     ·simp only [nf] at h4;refine awp_seq ?_;refine awp_anyT (ks:=[.free,.free,.free,.write,.free]) [.cells n6 _] (by apply Takes.cons (by exact k1);exact .nil _) (by kernel_rfl) (fun K=> ?_) ?_
      ·refine dr_p (fun _=>by exact y_build (out:=[_,_,_,_]) .nil rfl rfl) rfl ?_;refine rF ?_;refine rL .here ?_;refine dr_s (fun _=>by exact y_storeW (by rfl) rfl (.plain rfl) (.plain rfl) (by exact .here) (by rfl)) ?_;refine rA ?_;refine dr_nil ?_;refine awp_ret ?_;refine retG (.inr rfl) (.cons (res_cellW rfl (by exact .here) (by rfl)) (.cons (.tmp rfl) .nil)) (VShift.of2 (AV.Imp.tup (.cons (AV.Imp.agg (RowOf.imp (enc:=encFs))) (.cons (AV.Imp.refl _) .nil))) (.nil _)) ⟨congrArg (fun x:(Pn.Fs)×(Int)=>(AV.tup [(AV.agg (encFs x.1)),(AV.int x.2)])) (show (_,_)=(Pn.pstep z s i) from ?_),rfl⟩;rw [Pn.pstep,if_neg (show ¬ Pn.pvalid z s≠0 by omega),if_neg (show ¬ Sv.win i 0 (z.stages.length - 1)=false by simp_all),if_neg (show ¬ (Pn.penab z s i).2=false by simp_all),if_pos (by assumption)];all_goals rfl
      ·kernel_rfl
     ·simp only [nf] at h4;refine awp_skip ?_;refine awp_seq ?_;have hsn:=hok.1.snk;have hpp:=hok.1.pipes;have hxn:=hok.1.n;have hs1:=hs.st;have hs2:=hs.cr;have hs3:=hs.out;refine awp_anyP (ks:=[.free,.peek,.new,.free,.peek,.new,.free,.peek,.new,.free,.write,.free,.write,.free,.write]) [.cells n2 _] (by apply Takes.cons (by exact k2);exact .nil _) (by kernel_rfl) (by simp) (fun K=> ?_) ?_
      ·refine rF ?_;refine dr_k (by rfl) (fun _=>by exact y_load (.plain rfl) .here rfl) rfl ?_;refine dr_new (fun _ _=>by exact y_callVec (.plain rfl) (.cons (.plain rfl) .nil) (cloneWSt_c s.stages (by rintro e9;rw [e9] at hls;simp at hls;omega) (by omega))) rfl fun na=> ?_;refine rF ?_;refine dr_k (by rfl) (fun _=>by exact y_load (.plain rfl) .here rfl) rfl ?_;refine dr_new (fun _ _=>by exact y_callVec (.plain rfl) (.cons (.plain rfl) .nil) (cloneWCr_c s.credits (by rintro e9;rw [e9] at hlc;simp at hlc;omega) (by omega))) rfl fun nb=> ?_;refine rF ?_;refine dr_k (by rfl) (fun _=>by exact y_load (.plain rfl) .here rfl) rfl ?_;refine dr_new (fun _ _=>by exact y_callVec (.plain rfl) (.cons (.plain rfl) .nil) (cloneWLI_c s.outputs (by rintro e9;rw [e9] at hlo;simp at hlo;omega) (by omega))) rfl fun nc=> ?_;refine rF ?_;refine dr_storeN (cs':=[_,_,_,_]) (by rfl) rfl (.plain rfl) (.plain rfl) (by exact u3) (le_ rfl) (by rfl) ?_;refine rF ?_;refine dr_storeN (cs':=[_,_,_,_]) (by rfl) rfl (.plain rfl) (.plain rfl) (by exact u3) (le_ rfl) (by rfl) ?_;refine rF ?_;refine dr_storeN (cs':=[_,_,_,_]) (by rfl) rfl (.plain rfl) (.plain rfl) (by exact u3) (le_ rfl) (by rfl) ?_;refine dr_nil ?_;refine awp_seq ?_;refine awp_seq ?_;refine awp_weak (Weak.items2 (st':=[.cells n2 [.arr na 0 s.stages.length,.arr nb 0 s.credits.length,.arr nc 0 s.outputs.length,.bool s.draining],.vec (some nc) _,.vec (some nb) _,.vec (some na) _,.cells n9 (encMv (Pn.penab z s i).1),.cells n6 _,.cells n1 (encPl z)]) (by (repeat (first|exact .refl _|apply ItLe2.cells (by exact k3) (by repeat (first|exact .nil|refine .cons (by first|exact AV.Imp.refl _|exact AV.Imp.vec_arr) ?_))));done)) ?_;refine awp_vecCells (j:=na) (by exact k3) fun pada=> ?_;refine awp_vecCells (j:=nb) (by exact k3) fun padb=> ?_;refine awp_vecCells (j:=nc) (by exact k3) fun padc=> ?_;refine awp_region ?_;refine sF ?_;refine sL k6 ?_;refine sM ?_;refine st_p (fun _=>by exact y_indexT (l:=z.stages) (.plain rfl) (.plain rfl) (by omega) (by omega)) rfl ?_;refine st_p (fun _=>by exact y_fieldE (.plain rfl) (le_ rfl)) rfl ?_;refine sU ?_;refine sQ ?_;refine sM ?_;refine gF ?_;refine gL0 k4 ?_;refine sJ ?_;refine aops_nil ?_;refine awp_cond rfl (fun h5=> ?_) (fun h5=> ?_)
       ·simp only [nf] at h5;have hk10:(Pn.stg z i).kind=10∧(Pn.penab z s i).1.takes=true:=h5;have hsnb:=Pn.snk_bd (z.stages.take i.toNat);have hko:(Pn.pout z s i)<s.outputs.length:=by
         have h9:=Pn.snk_lt (l:=z.stages) (i:=i.toNat) (by omega) hk10.1;unfold Pn.pout;omega
        have hkq:(Pn.snk (z.stages.take i.toNat)).toNat<s.outputs.length:=hko;refine asr ?_;refine sF ?_;refine sL k6 ?_;refine sM ?_;refine st_p (fun _=>by exact y_sliceHiM (.plain rfl) (.plain rfl) (Int.toNat_of_nonneg hi.1).symm (by omega)) rfl ?_;refine aops_call (blt_lt rfl) (.plain rfl) (.cons (.imp (.plain rfl) (Sl.imp (enc:=encSg))) .nil) (ACalls.here (snk_c (z.stages.take i.toNat) (by rw [List.length_take];omega)) ?_);refine sA ?_;refine aops_nil ?_;refine awp_seq ?_;refine asr ?_;refine sF ?_;refine sL k3 ?_;refine sM ?_;refine st_p (fun _=>by exact y_indexArr (.plain rfl) (.plain rfl) (Int.toNat_of_nonneg hsnb.1).symm hko) rfl ?_;refine st_p (fun _=>by exact y_load (.plain rfl) (by exact .here) (li_get (k:=(Pn.pout z s i)) hko)) rfl ?_;refine sN ?_;refine sQ ?_;refine aops_nil ?_;refine awp_cond rfl (fun h6=> ?_) (fun h6=> ?_)
        ·simp only [nf] at h6;have h200:((s.outputs.getD (Pn.pout z s i) default).length:Int)=200:=h6;refine asr ?_;refine st_p (fun _=>by exact y_build (out:=[_,_,_,_]) .nil rfl rfl) rfl ?_;refine st_s (fun _=>by exact y_storeW (by rfl) rfl (.plain rfl) (.plain rfl) (by exact u5) (by rfl)) ?_;refine sA ?_;refine aops_nil ?_;refine awp_ret ?_;refine retG (.inr rfl) (.cons (res_cellW rfl (by exact k5) (by rfl)) (.cons (.tmp rfl) .nil)) (VShift.of2 (AV.Imp.tup (.cons (AV.Imp.agg (RowOf.imp (enc:=encFs))) (.cons (AV.Imp.refl _) .nil))) (.nil _)) ⟨congrArg (fun x:(Pn.Fs)×(Int)=>(AV.tup [(AV.agg (encFs x.1)),(AV.int x.2)])) (show (_,_)=(Pn.pstep z s i) from ?_),rfl⟩;rw [Pn.pstep,if_neg (show ¬ Pn.pvalid z s≠0 by omega),if_neg (show ¬ Sv.win i 0 (z.stages.length - 1)=false by simp_all),if_neg (show ¬ (Pn.penab z s i).2=false by simp_all),if_neg (show ¬ (Pn.penab z s i).1.e≠0 by omega),if_pos ⟨hk10,h200⟩];all_goals rfl
        ·simp only [nf] at h6;have h200: ¬ ((s.outputs.getD (Pn.pout z s i) default).length:Int)=200:=h6;refine awp_skip ?_;rcases Classical.em ((s.outputs.getD (Pn.pout z s i) default)=[]) with hq0|hq0
         ·have hoL:(s.outputs.getD (Pn.pout z s i) default).length≤1000000:=hs.outs _ (by rw [List.getD,List.getElem?_eq_getElem hko,Option.getD_some];exact List.getElem_mem hko);have hoS:(s.outputs[(Pn.pout z s i)]?.getD default).length≤1000000:=hoL;refine awp_anyT (ks:=[.free,.free,.free,.free,.free,.free,.free,.read,.free,.free,.free,.free,.write,.free,.write]) [.cells nc _] (by apply Takes.cons (by exact .here);exact .nil _) (by kernel_rfl) (fun K=> ?_) ?_
          ·refine rF ?_;refine rL k2 ?_;refine rM ?_;refine rF ?_;refine rL k2 ?_;refine rM ?_;refine dr_p (fun _=>by exact y_indexArr (.plain rfl) (.plain rfl) (Int.toNat_of_nonneg hsnb.1).symm hko) rfl ?_;refine dr_r (fun _=>by exact y_load (.plain rfl) (by exact .here) (li_get (k:=(Pn.pout z s i)) hko)) rfl ?_;refine dr_p (fun _=>by exact y_call (.plain rfl) (.cons (.imp (.plain rfl) (AV.Imp.of_eq (by rw [hq0]))) .nil) (ACalls.pure cloneI0_c)) rfl ?_;refine rF ?_;refine rL k3 ?_;refine dr_p (fun _=>by exact y_buildSlice (.cons (.plain rfl) inferInstance (by rfl) .nil) rfl (le_ rfl)) rfl ?_;refine dr_append0 (by rfl) (.plain rfl) (.plain rfl) (by (simp;try omega)) rfl fun t1=> ?_;refine dr_p (fun _=>by exact y_indexArr (.plain rfl) (.plain rfl) (Int.toNat_of_nonneg hsnb.1).symm hko) rfl ?_;refine dr_s (fun _=>by exact y_store (by rfl) rfl (.plain rfl) (.imp (.plain rfl) (AV.Imp.sl_of (α:=Int) (enc:=Go.Aw.encI) (sz:=1) (l':=(s.outputs.getD (Pn.pout z s i) default)++[(Pn.penab z s i).1.item]) (by rw [hq0]))) (by exact u1) (by simp only [List.length_append,li_len,List.length_cons,List.length_nil];omega)) ?_;refine dr_nil ?_;rw [li_set (k:=(Pn.snk (z.stages.take i.toNat)).toNat) hko];refine awp_seq ?_;refine asr ?_;refine sW k7 ?_;refine sM ?_;refine sW k5 ?_;refine aops_call (blt_lt rfl) (.plain rfl) (.cons (.plain rfl) (.cons (.plain rfl) (.cons (.plain rfl) (.cons (.plain rfl) .nil)))) (ACalls.upd (its:=[.cells n2 _,.cells nb _]) (by apply Takes.cons (by exact k4);apply Takes.cons (by exact k2);exact .nil _) (took_c n2 nb s.credits.length _ _ _ padb s.credits z i (Pn.penab z s i).1 rfl hz.2 (fun h=>by have:=Pn.pnext_in hok.1 hok.2 hi h;rw [hok.2.lc];exact this) hs.items) ?_);refine sA ?_;refine aops_nil ?_;refine asr ?_;refine sM ?_;refine sR ?_;refine aops_nil ?_;refine awp_cond rfl (fun h7=> ?_) (fun h7=> ?_)
           ·simp only [nf] at h7;refine asr ?_;refine st_p (fun _=>by exact y_build (out:=[_,_,_,_]) .nil rfl rfl) rfl ?_;refine sM ?_;refine st_s (fun _=>by exact y_storeW (by rfl) rfl (.plain rfl) (.plain rfl) (by exact u6) (by rfl)) ?_;refine sA ?_;refine aops_nil ?_;refine awp_ret ?_;refine retG (.inr rfl) (.cons (res_cellW rfl (by exact k6) (by rfl)) (.cons (.tmp rfl) .nil)) (VShift.of2 (AV.Imp.tup (.cons (AV.Imp.agg (RowOf.imp (enc:=encFs))) (.cons (AV.Imp.refl _) .nil))) (.nil _)) ⟨congrArg (fun x:(Pn.Fs)×(Int)=>(AV.tup [(AV.agg (encFs x.1)),(AV.int x.2)])) (show (_,_)=(Pn.pstep z s i) from ?_),rfl⟩;rw [Pn.pstep,if_neg (show ¬ Pn.pvalid z s≠0 by omega),if_neg (show ¬ Sv.win i 0 (z.stages.length - 1)=false by simp_all),if_neg (show ¬ (Pn.penab z s i).2=false by simp_all),if_neg (show ¬ (Pn.penab z s i).1.e≠0 by omega),if_neg (fun h=>h200 h.2),if_pos (by assumption)];all_goals rfl
           ·simp only [nf] at h7;refine awp_skip ?_;refine asr ?_;refine sF ?_;refine sL .here ?_;refine sM ?_;refine sF ?_;refine st_p (fun _=>by exact y_loadAggN (cs':=[_,_,_]) (.plain rfl) (by exact k5) (le_ rfl) (by rfl)) rfl ?_;refine st_p (fun _=>by exact y_indexArr (.plain rfl) (.plain rfl) (Int.toNat_of_nonneg hi.1).symm (by omega)) rfl ?_;refine st_s (fun _=>by exact y_storeRow (f:=encSt) (L:=s.stages) (e:=(Pn.penab z s i).1.state) (by rfl) (fun _=>rfl) (.plain rfl) (.plain rfl) (by omega) (by exact u4)) ?_;refine aops_nil ?_;refine asr ?_;refine sW k7 ?_;refine sM ?_;refine sW k5 ?_;refine aops_call (blt_lt rfl) (.plain rfl) (.cons (.plain rfl) (.cons (.plain rfl) (.cons (.plain rfl) (.cons (.plain rfl) .nil)))) (ACalls.upd (its:=[.cells n2 _,.cells nb _]) (by apply Takes.cons (by exact .here);apply Takes.cons (by exact .here);exact .nil _) (psend_c n2 nb s.credits.length _ _ _ padb _ z i (Pn.penab z s i).1 (Pn.ptook_len _ _ _ _) hok.1 hi ((Pn.ptook_len _ _ _ _).trans hok.2.lc) (Pn.pnext_sent z s i) (fun l hl=>by have:=Pn.pnext_lens s (hok.1.stg hi).2 l hl;omega) (Pn.ptook_items hok.1 hok.2 i (Pn.penab z s i).1)) ?_);refine aops_nil ?_;refine awp_seq ?_;refine awp_weak (Weak.freezeC (a:=n2) (j:=na) (i:=0) (sz:=3) (pad:=pada) ?fa6na ?fb6na (.cons (by exact k4) (.cons (by exact .here) (.nil _)))) ?fc6na
            case fa6na=>intro x hx;obtain⟨b,_,rfl⟩:=List.mem_map.1 hx;rfl
            case fb6na=>simp [Pn.sendK_len,Pn.ptook_len];done
            simp only [List.set_cons_zero,List.set_cons_succ];refine awp_weak (Weak.freezeC (a:=n2) (j:=nb) (i:=1) (sz:=6) (pad:=padb) ?fa6nb ?fb6nb (.cons (by exact k1) (.cons (by exact .here) (.nil _)))) ?fc6nb
            case fa6nb=>intro x hx;obtain⟨b,_,rfl⟩:=List.mem_map.1 hx;rfl
            case fb6nb=>simp [Pn.sendK_len,Pn.ptook_len];done
            simp only [List.set_cons_zero,List.set_cons_succ];refine awp_weak (Weak.freezeC (a:=n2) (j:=nc) (i:=2) (sz:=1) (pad:=padc) ?fa6nc ?fb6nc (.cons (by exact k2) (.cons (by exact .here) (.nil _)))) ?fc6nc
            case fa6nc=>intro x hx;obtain⟨b,_,rfl⟩:=List.mem_map.1 hx;rfl
            case fb6nc=>simp [Pn.sendK_len,Pn.ptook_len];done
            simp only [List.set_cons_zero,List.set_cons_succ];refine awp_region ?_;refine sW .here ?_;refine st_s (fun _=>by exact y_storeW (by rfl) rfl (.plain rfl) (.plain rfl) (by exact u3) (by rfl)) ?_;refine sA ?_;refine aops_nil ?_;refine awp_ret ?_;refine retG (.inr rfl) (.cons (res_cellW rfl (by exact k3) (by rfl)) (.cons (.tmp rfl) .nil)) (VShift.of2 (AV.Imp.tup (.cons (AV.Imp.agg (RowOf.imp (enc:=encFs))) (.cons (AV.Imp.refl _) .nil))) (.nil _)) ⟨congrArg (fun x:(Pn.Fs)×(Int)=>(AV.tup [(AV.agg (encFs x.1)),(AV.int x.2)])) (show (_,_)=(Pn.pstep z s i) from ?_),rfl⟩;rw [Pn.pstep,if_neg (show ¬ Pn.pvalid z s≠0 by omega),if_neg (show ¬ Sv.win i 0 (z.stages.length - 1)=false by simp_all),if_neg (show ¬ (Pn.penab z s i).2=false by simp_all),if_neg (show ¬ (Pn.penab z s i).1.e≠0 by omega),if_neg (fun h=>h200 h.2),if_neg (by simp_all),if_pos hk10];all_goals rfl
          ·kernel_rfl
         ·have hoL:(s.outputs.getD (Pn.pout z s i) default).length≤1000000:=hs.outs _ (by rw [List.getD,List.getElem?_eq_getElem hko,Option.getD_some];exact List.getElem_mem hko);have hoS:(s.outputs[(Pn.pout z s i)]?.getD default).length≤1000000:=hoL;refine awp_anyT (ks:=[.free,.free,.free,.free,.free,.free,.free,.read,.write,.free,.free,.free,.write,.free,.write]) [.cells nc _] (by apply Takes.cons (by exact .here);exact .nil _) (by kernel_rfl) (fun K=> ?_) ?_
          ·refine rF ?_;refine rL k2 ?_;refine rM ?_;refine rF ?_;refine rL k2 ?_;refine rM ?_;refine dr_p (fun _=>by exact y_indexArr (.plain rfl) (.plain rfl) (Int.toNat_of_nonneg hsnb.1).symm hko) rfl ?_;refine dr_r (fun _=>by exact y_load (.plain rfl) (by exact .here) (li_get (k:=(Pn.pout z s i)) hko)) rfl ?_;refine dr_n (fun _=>by exact y_callOwn (.plain rfl) (.cons (.plain rfl) .nil) (cloneI1_c (s.outputs.getD (Pn.pout z s i) default) hq0 hoL)) rfl fun nq=> ?_;refine rF ?_;refine rL k3 ?_;refine dr_p (fun _=>by exact y_buildSlice (.cons (.plain rfl) inferInstance (by rfl) .nil) rfl (le_ rfl)) rfl ?_;refine dr_append (by rfl) (.imp (.plain rfl) AV.Imp.own_grow) (.plain rfl) (by (simp;try omega)) rfl fun t9=> ?_;refine dr_p (fun _=>by exact y_indexArr (.plain rfl) (.plain rfl) (Int.toNat_of_nonneg hsnb.1).symm hko) rfl ?_;refine dr_s (fun _=>by exact y_store (by rfl) rfl (.plain rfl) (.imp (.plain rfl) (AV.Imp.sl_of (α:=Int) (enc:=Go.Aw.encI) (sz:=1) (l':=(s.outputs.getD (Pn.pout z s i) default)++[(Pn.penab z s i).1.item]) (by rfl))) (by exact u1) (by simp only [List.length_append,li_len,List.length_cons,List.length_nil];omega)) ?_;refine dr_nil ?_;rw [li_set (k:=(Pn.snk (z.stages.take i.toNat)).toNat) hko];refine awp_seq ?_;refine asr ?_;refine sW k7 ?_;refine sM ?_;refine sW k5 ?_;refine aops_call (blt_lt rfl) (.plain rfl) (.cons (.plain rfl) (.cons (.plain rfl) (.cons (.plain rfl) (.cons (.plain rfl) .nil)))) (ACalls.upd (its:=[.cells n2 _,.cells nb _]) (by apply Takes.cons (by exact k4);apply Takes.cons (by exact k2);exact .nil _) (took_c n2 nb s.credits.length _ _ _ padb s.credits z i (Pn.penab z s i).1 rfl hz.2 (fun h=>by have:=Pn.pnext_in hok.1 hok.2 hi h;rw [hok.2.lc];exact this) hs.items) ?_);refine sA ?_;refine aops_nil ?_;refine asr ?_;refine sM ?_;refine sR ?_;refine aops_nil ?_;refine awp_cond rfl (fun h8=> ?_) (fun h8=> ?_)
           ·simp only [nf] at h8;refine asr ?_;refine st_p (fun _=>by exact y_build (out:=[_,_,_,_]) .nil rfl rfl) rfl ?_;refine sM ?_;refine st_s (fun _=>by exact y_storeW (by rfl) rfl (.plain rfl) (.plain rfl) (by exact u6) (by rfl)) ?_;refine sA ?_;refine aops_nil ?_;refine awp_ret ?_;refine retG (.inr rfl) (.cons (res_cellW rfl (by exact k6) (by rfl)) (.cons (.tmp rfl) .nil)) (VShift.of2 (AV.Imp.tup (.cons (AV.Imp.agg (RowOf.imp (enc:=encFs))) (.cons (AV.Imp.refl _) .nil))) (.nil _)) ⟨congrArg (fun x:(Pn.Fs)×(Int)=>(AV.tup [(AV.agg (encFs x.1)),(AV.int x.2)])) (show (_,_)=(Pn.pstep z s i) from ?_),rfl⟩;rw [Pn.pstep,if_neg (show ¬ Pn.pvalid z s≠0 by omega),if_neg (show ¬ Sv.win i 0 (z.stages.length - 1)=false by simp_all),if_neg (show ¬ (Pn.penab z s i).2=false by simp_all),if_neg (show ¬ (Pn.penab z s i).1.e≠0 by omega),if_neg (fun h=>h200 h.2),if_pos (by assumption)];all_goals rfl
           ·simp only [nf] at h8;refine awp_skip ?_;refine asr ?_;refine sF ?_;refine sL .here ?_;refine sM ?_;refine sF ?_;refine st_p (fun _=>by exact y_loadAggN (cs':=[_,_,_]) (.plain rfl) (by exact k5) (le_ rfl) (by rfl)) rfl ?_;refine st_p (fun _=>by exact y_indexArr (.plain rfl) (.plain rfl) (Int.toNat_of_nonneg hi.1).symm (by omega)) rfl ?_;refine st_s (fun _=>by exact y_storeRow (f:=encSt) (L:=s.stages) (e:=(Pn.penab z s i).1.state) (by rfl) (fun _=>rfl) (.plain rfl) (.plain rfl) (by omega) (by exact u4)) ?_;refine aops_nil ?_;refine asr ?_;refine sW k7 ?_;refine sM ?_;refine sW k5 ?_;refine aops_call (blt_lt rfl) (.plain rfl) (.cons (.plain rfl) (.cons (.plain rfl) (.cons (.plain rfl) (.cons (.plain rfl) .nil)))) (ACalls.upd (its:=[.cells n2 _,.cells nb _]) (by apply Takes.cons (by exact .here);apply Takes.cons (by exact .here);exact .nil _) (psend_c n2 nb s.credits.length _ _ _ padb _ z i (Pn.penab z s i).1 (Pn.ptook_len _ _ _ _) hok.1 hi ((Pn.ptook_len _ _ _ _).trans hok.2.lc) (Pn.pnext_sent z s i) (fun l hl=>by have:=Pn.pnext_lens s (hok.1.stg hi).2 l hl;omega) (Pn.ptook_items hok.1 hok.2 i (Pn.penab z s i).1)) ?_);refine aops_nil ?_;refine awp_seq ?_;refine awp_weak (Weak.freezeC (a:=n2) (j:=na) (i:=0) (sz:=3) (pad:=pada) ?fa8na ?fb8na (.cons (by exact k4) (.cons (by exact .here) (.nil _)))) ?fc8na
            case fa8na=>intro x hx;obtain⟨b,_,rfl⟩:=List.mem_map.1 hx;rfl
            case fb8na=>simp [Pn.sendK_len,Pn.ptook_len];done
            simp only [List.set_cons_zero,List.set_cons_succ];refine awp_weak (Weak.freezeC (a:=n2) (j:=nb) (i:=1) (sz:=6) (pad:=padb) ?fa8nb ?fb8nb (.cons (by exact k1) (.cons (by exact .here) (.nil _)))) ?fc8nb
            case fa8nb=>intro x hx;obtain⟨b,_,rfl⟩:=List.mem_map.1 hx;rfl
            case fb8nb=>simp [Pn.sendK_len,Pn.ptook_len];done
            simp only [List.set_cons_zero,List.set_cons_succ];refine awp_weak (Weak.freezeC (a:=n2) (j:=nc) (i:=2) (sz:=1) (pad:=padc) ?fa8nc ?fb8nc (.cons (by exact k2) (.cons (by exact .here) (.nil _)))) ?fc8nc
            case fa8nc=>intro x hx;obtain⟨b,_,rfl⟩:=List.mem_map.1 hx;rfl
            case fb8nc=>simp [Pn.sendK_len,Pn.ptook_len];done
            simp only [List.set_cons_zero,List.set_cons_succ];refine awp_region ?_;refine sW .here ?_;refine st_s (fun _=>by exact y_storeW (by rfl) rfl (.plain rfl) (.plain rfl) (by exact u3) (by rfl)) ?_;refine sA ?_;refine aops_nil ?_;refine awp_ret ?_;refine retG (.inr rfl) (.cons (res_cellW rfl (by exact k3) (by rfl)) (.cons (.tmp rfl) .nil)) (VShift.of2 (AV.Imp.tup (.cons (AV.Imp.agg (RowOf.imp (enc:=encFs))) (.cons (AV.Imp.refl _) .nil))) (.nil _)) ⟨congrArg (fun x:(Pn.Fs)×(Int)=>(AV.tup [(AV.agg (encFs x.1)),(AV.int x.2)])) (show (_,_)=(Pn.pstep z s i) from ?_),rfl⟩;rw [Pn.pstep,if_neg (show ¬ Pn.pvalid z s≠0 by omega),if_neg (show ¬ Sv.win i 0 (z.stages.length - 1)=false by simp_all),if_neg (show ¬ (Pn.penab z s i).2=false by simp_all),if_neg (show ¬ (Pn.penab z s i).1.e≠0 by omega),if_neg (fun h=>h200 h.2),if_neg (by simp_all),if_pos hk10];all_goals rfl
          ·kernel_rfl
       ·simp only [nf] at h5;have hk10: ¬ ((Pn.stg z i).kind=10∧(Pn.penab z s i).1.takes=true):=by
         rintro⟨a9,b9⟩;have h8: ¬ (Pn.stg z i).kind=10∨(Pn.penab z s i).1.takes=false:=h5;rcases h8 with h8|h8
         ·exact h8 a9
         ·rw [b9] at h8;cases h8
        refine awp_skip ?_;refine awp_seq ?_;refine asr ?_;refine sW k6 ?_;refine sM ?_;refine sW k4 ?_;refine aops_call (blt_lt rfl) (.plain rfl) (.cons (.plain rfl) (.cons (.plain rfl) (.cons (.plain rfl) (.cons (.plain rfl) .nil)))) (ACalls.upd (its:=[.cells n2 _,.cells nb _]) (by apply Takes.cons (by exact k3);apply Takes.cons (by exact k1);exact .nil _) (took_c n2 nb s.credits.length _ _ _ padb s.credits z i (Pn.penab z s i).1 rfl hz.2 (fun h=>by have:=Pn.pnext_in hok.1 hok.2 hi h;rw [hok.2.lc];exact this) hs.items) ?_);refine sA ?_;refine aops_nil ?_;refine asr ?_;refine sM ?_;refine sR ?_;refine aops_nil ?_;refine awp_cond rfl (fun h9=> ?_) (fun h9=> ?_)
        ·simp only [nf] at h9;refine asr ?_;refine st_p (fun _=>by exact y_build (out:=[_,_,_,_]) .nil rfl rfl) rfl ?_;refine sM ?_;refine st_s (fun _=>by exact y_storeW (by rfl) rfl (.plain rfl) (.plain rfl) (by exact u5) (by rfl)) ?_;refine sA ?_;refine aops_nil ?_;refine awp_ret ?_;refine retG (.inr rfl) (.cons (res_cellW rfl (by exact k5) (by rfl)) (.cons (.tmp rfl) .nil)) (VShift.of2 (AV.Imp.tup (.cons (AV.Imp.agg (RowOf.imp (enc:=encFs))) (.cons (AV.Imp.refl _) .nil))) (.nil _)) ⟨congrArg (fun x:(Pn.Fs)×(Int)=>(AV.tup [(AV.agg (encFs x.1)),(AV.int x.2)])) (show (_,_)=(Pn.pstep z s i) from ?_),rfl⟩;rw [Pn.pstep,if_neg (show ¬ Pn.pvalid z s≠0 by omega),if_neg (show ¬ Sv.win i 0 (z.stages.length - 1)=false by simp_all),if_neg (show ¬ (Pn.penab z s i).2=false by simp_all),if_neg (show ¬ (Pn.penab z s i).1.e≠0 by omega),if_neg (fun h=>hk10 h.1),if_pos (by assumption)];all_goals rfl
        ·simp only [nf] at h9;refine awp_skip ?_;refine asr ?_;refine sF ?_;refine sL .here ?_;refine sM ?_;refine sF ?_;refine st_p (fun _=>by exact y_loadAggN (cs':=[_,_,_]) (.plain rfl) (by exact k4) (le_ rfl) (by rfl)) rfl ?_;refine st_p (fun _=>by exact y_indexArr (.plain rfl) (.plain rfl) (Int.toNat_of_nonneg hi.1).symm (by omega)) rfl ?_;refine st_s (fun _=>by exact y_storeRow (f:=encSt) (L:=s.stages) (e:=(Pn.penab z s i).1.state) (by rfl) (fun _=>rfl) (.plain rfl) (.plain rfl) (by omega) (by exact u3)) ?_;refine aops_nil ?_;refine asr ?_;refine sW k6 ?_;refine sM ?_;refine sW k4 ?_;refine aops_call (blt_lt rfl) (.plain rfl) (.cons (.plain rfl) (.cons (.plain rfl) (.cons (.plain rfl) (.cons (.plain rfl) .nil)))) (ACalls.upd (its:=[.cells n2 _,.cells nb _]) (by apply Takes.cons (by exact .here);apply Takes.cons (by exact .here);exact .nil _) (psend_c n2 nb s.credits.length _ _ _ padb _ z i (Pn.penab z s i).1 (Pn.ptook_len _ _ _ _) hok.1 hi ((Pn.ptook_len _ _ _ _).trans hok.2.lc) (Pn.pnext_sent z s i) (fun l hl=>by have:=Pn.pnext_lens s (hok.1.stg hi).2 l hl;omega) (Pn.ptook_items hok.1 hok.2 i (Pn.penab z s i).1)) ?_);refine aops_nil ?_;refine awp_seq ?_;refine awp_weak (Weak.freezeC (a:=n2) (j:=na) (i:=0) (sz:=3) (pad:=pada) ?fa10na ?fb10na (.cons (by exact k3) (.cons (by exact .here) (.nil _)))) ?fc10na
         case fa10na=>intro x hx;obtain⟨b,_,rfl⟩:=List.mem_map.1 hx;rfl
         case fb10na=>simp [Pn.sendK_len,Pn.ptook_len];done
         simp only [List.set_cons_zero,List.set_cons_succ];refine awp_weak (Weak.freezeC (a:=n2) (j:=nb) (i:=1) (sz:=6) (pad:=padb) ?fa10nb ?fb10nb (.cons (by exact k1) (.cons (by exact .here) (.nil _)))) ?fc10nb
         case fa10nb=>intro x hx;obtain⟨b,_,rfl⟩:=List.mem_map.1 hx;rfl
         case fb10nb=>simp [Pn.sendK_len,Pn.ptook_len];done
         simp only [List.set_cons_zero,List.set_cons_succ];refine awp_weak (Weak.freezeC (a:=n2) (j:=nc) (i:=2) (sz:=1) (pad:=padc) ?fa10nc ?fb10nc (.cons (by exact k1) (.cons (by exact .here) (.nil _)))) ?fc10nc
         case fa10nc=>intro x hx;obtain⟨b,_,rfl⟩:=List.mem_map.1 hx;rfl
         case fb10nc=>simp [Pn.sendK_len,Pn.ptook_len];done
         simp only [List.set_cons_zero,List.set_cons_succ];refine awp_region ?_;refine sW .here ?_;refine st_s (fun _=>by exact y_storeW (by rfl) rfl (.plain rfl) (.plain rfl) (by exact u2) (by rfl)) ?_;refine sA ?_;refine aops_nil ?_;refine awp_ret ?_;refine retG (.inr rfl) (.cons (res_cellW rfl (by exact k2) (by rfl)) (.cons (.tmp rfl) .nil)) (VShift.of2 (AV.Imp.tup (.cons (AV.Imp.agg (RowOf.imp (enc:=encFs))) (.cons (AV.Imp.refl _) .nil))) (.nil _)) ⟨congrArg (fun x:(Pn.Fs)×(Int)=>(AV.tup [(AV.agg (encFs x.1)),(AV.int x.2)])) (show (_,_)=(Pn.pstep z s i) from ?_),rfl⟩;rw [Pn.pstep,if_neg (show ¬ Pn.pvalid z s≠0 by omega),if_neg (show ¬ Sv.win i 0 (z.stages.length - 1)=false by simp_all),if_neg (show ¬ (Pn.penab z s i).2=false by simp_all),if_neg (show ¬ (Pn.penab z s i).1.e≠0 by omega),if_neg (fun h=>hk10 h.1),if_neg (by simp_all),if_neg hk10];all_goals rfl
      ·kernel_rfl
end Go.Proofs
namespace Pn
open Sv (win win_t)
theorem rtake1 {y:Sg} {r:Rn} {i v:Int} (hk:y.kind=1):rtake y r i v=rcount (rsend r 0 (y.items.getD r.s.count.toNat default)) (r.s.count+1):=by
  unfold rtake;rw [if_pos hk]
theorem rtake2 {y:Sg} {r:Rn} {i v:Int} (hk:y.kind=2):rtake y r i v=rsend (reval y r v 0).1 0 (reval y r v 0).2:=by
  unfold rtake;rw [if_neg (by omega),if_pos hk]
theorem rtake3 {y:Sg} {r:Rn} {i v:Int} (hk:y.kind=3):rtake y r i v=(if (reval y r v 0).2=1 then rsend (reval y r v 0).1 0 v else (reval y r v 0).1):=by
  unfold rtake;rw [if_neg (by omega),if_neg (by omega),if_pos hk]
theorem rtake4 {y:Sg} {r:Rn} {i v:Int} (hk:y.kind=4):rtake y r i v=rbatch y r v:=by
  unfold rtake;rw [if_neg (by omega),if_neg (by omega),if_neg (by omega),if_pos hk]
theorem rtake5 {y:Sg} {r:Rn} {i v:Int} (hk:y.kind=5):rtake y r i v=rrep r v y.size.toNat:=by
  unfold rtake;rw [if_neg (by omega),if_neg (by omega),if_neg (by omega),if_neg (by omega),if_pos hk]
theorem rtake6 {y:Sg} {r:Rn} {i v:Int} (hk:y.kind=6):rtake y r i v=(if r.s.count<y.size then rsend (rcount r (r.s.count+1)) 0 v else r):=by
  unfold rtake;rw [if_neg (by omega),if_neg (by omega),if_neg (by omega),if_neg (by omega),if_neg (by omega),if_pos hk]
theorem rtake7 {y:Sg} {r:Rn} {i v:Int} (hk:y.kind=7):rtake y r i v=rsend (reval y r v 0).1 (1 - (reval y r v 0).2).toNat v:=by
  unfold rtake;rw [if_neg (by omega),if_neg (by omega),if_neg (by omega),if_neg (by omega),if_neg (by omega),if_neg (by omega),if_pos hk]
theorem rtake8 {y:Sg} {r:Rn} {i v:Int} (hk:y.kind=8):rtake y r i v=rcount (rsend r 0 v) (1 - i):=by
  unfold rtake;rw [if_neg (by omega),if_neg (by omega),if_neg (by omega),if_neg (by omega),if_neg (by omega),if_neg (by omega),if_neg (by omega),if_pos hk]
theorem rtake9 {y:Sg} {r:Rn} {i v:Int} (hk:y.kind=9):rtake y r i v=rzip y r i v:=by
  unfold rtake;rw [if_neg (by omega),if_neg (by omega),if_neg (by omega),if_neg (by omega),if_neg (by omega),if_neg (by omega),if_neg (by omega),if_neg (by omega),if_pos hk]
theorem rtake10 {y:Sg} {r:Rn} {i v:Int} (hk:y.kind=10):rtake y r i v=r:=by
  unfold rtake;rw [if_neg (by omega),if_neg (by omega),if_neg (by omega),if_neg (by omega),if_neg (by omega),if_neg (by omega),if_neg (by omega),if_neg (by omega),if_neg (by omega)]
theorem rfin_def {y:Sg} {r:Rn} {i:Int} (h4:y.kind≠4) (h8:y.kind≠8) (h9:y.kind≠9):rfin y r i=rend r:=by
  unfold rfin;rw [if_neg h4,if_neg h8,if_neg h9]
theorem rfin4 {y:Sg} {r:Rn} {i:Int} (hk:y.kind=4):rfin y r i=rend (if 0<r.s.held.length then rsum r else r):=by
  unfold rfin;rw [if_pos hk]
theorem rfin8 {y:Sg} {r:Rn} {i:Int} (hk:y.kind=8):rfin y r i={r with s:={r.s with held:=(r.s.held++[i]).mergeSort (fun a b=>decide (a≤b)),ended:=decide (((r.s.held++[i]).length:Int)=2)}}:=by
  unfold rfin;rw [if_neg (by omega),if_pos hk]
theorem rfin9 {y:Sg} {r:Rn} {i:Int} (hk:y.kind=9):rfin y r i={r with s:={r.s with count:=Go.Aw.orI r.s.count (i+1),held:=if i=1 then [] else r.s.held,ended:=decide (Go.Aw.orI r.s.count (i+1)=3)}}:=by
  unfold rfin;rw [if_neg (by omega),if_neg (by omega),if_pos hk]
theorem sval_mk {y:Sg} {t:Ss} (hc:0≤t.count∧t.count≤(sbnd y).1) (hl:(t.held.length:Int)≤(sbnd y).2) (hn: ∀ n∈t.held,num n=true) (h4:y.kind=4→t.ended=true→t.held=[])
  (h8:y.kind=8→mgOk t.held=true∧t.ended=decide ((t.held.length:Int)=2)) (h9:y.kind=9→t.ended=decide (t.count=3)∧(t.count<2∨t.held=[])):sval y t=true:=by
  unfold sval;rw [if_neg (by omega),if_neg (by
   rw [List.any_eq_true];rintro⟨n,hm,hb⟩;rw [hn n hm] at hb;cases hb)]
  split
  ·rename_i hk;cases he:t.ended with
   |false=>rfl
   |true=>rw [h4 hk he];rfl
  ·split
   ·rename_i hk;obtain⟨a,b⟩:=h8 hk;rw [a,b];simp
   ·split
    ·rename_i hk;obtain⟨a,b⟩:=h9 hk;rw [a];rcases b with b|b
     ·simp [b]
     ·simp [b]
    ·rfl
theorem sneed_of {y:Sg} {t:Ss} (h:sgchk y=0) (hv:sval y t=true):(sneed y t).2=0:=by
  unfold sneed;rw [if_neg (fun h2=>h2 h),if_neg (by rw [hv];decide)];repeat' split
  all_goals rfl
theorem sneed_chk {y:Sg} {t:Ss} (h:(sneed y t).2=0):sgchk y=0:=by
  unfold sneed at h;split at h
  ·rename_i h1;exact absurd h h1
  ·rename_i h1;exact Classical.not_not.1 h1
def Nums (o:List (List Int)):Prop:= ∀ l∈o,∀ n∈l,num n=true
theorem nums_new (y:Sg) (s:Ss):Nums (rnew y s).out:=by
  intro l hl n hn;unfold rnew at hl;dsimp only at hl;rw [(List.mem_replicate.1 hl).2] at hn;cases hn
theorem rsend_nums {r:Rn} (h:Nums r.out) (n:Nat) {v:Int} (hv:r.err=0→num v=true):Nums (rsend r n v).out:=by
  unfold rsend;split
  ·rename_i he;intro l hl m hm;rcases List.mem_or_eq_of_mem_set hl with h1|h1
   ·exact h l h1 m hm
   ·rw [h1] at hm;rcases List.mem_append.1 hm with h2|h2
    ·rw [List.getD] at h2;cases e:r.out[n]? with
     |none=>rw [e] at h2;cases h2
     |some x=>rw [e] at h2;exact h x (List.mem_of_getElem? e) m h2
    ·rw [List.mem_singleton.1 h2];exact hv he
  ·exact h
theorem reval_num (y:Sg) (r:Rn) (a b:Int):num (reval y r a b).2=true:=num_t.2 (evalE_bd _ _)
theorem sumK_num {l:List Int} {e:Int} {k:Nat} (h:(sumK l e (k+1)).2=0):num (sumK l e (k+1)).1=true:=by
  rw [sumK] at h ⊢;dsimp only at h ⊢;cases hn:num ((sumK l e k).1+l.getD k default) with
  |true=>rfl
  |false=>
   rw [hn] at h;split at h
   ·cases h
   ·rename_i h1;exact absurd ⟨rfl,h⟩ h1
theorem rsum_nums {r:Rn} (h:Nums r.out) (hl:0<r.s.held.length):Nums (rsum r).out:=by
  unfold rsum;refine rsend_nums (r:={r with err:=(sumK r.s.held r.err r.s.held.length).2}) h 0 fun he=> ?_;dsimp only at he ⊢;obtain⟨k,hk⟩: ∃ k,r.s.held.length=k+1:=⟨r.s.held.length - 1,by omega⟩
  rw [hk] at he ⊢;exact sumK_num he
theorem rrep_nums {r:Rn} (h:Nums r.out) {v:Int} (hv:num v=true): ∀ k,Nums (rrep r v k).out
  |0=>h
  |k+1=>by rw [rrep];exact rsend_nums (rrep_nums h hv k) 0 fun _=>hv
theorem rtake_nums {y:Sg} (hy:Sgok y) {r:Rn} (h:Nums r.out) {i v:Int} (hv:num v=true) (hc:y.kind=1→0≤r.s.count∧r.s.count<y.items.length):Nums (rtake y r i v).out:=by
  have hev: ∀ a b,Nums (reval y r a b).1.out:=fun a b=>h;rcases kinds hy.kind with hk|hk|hk|hk|hk|hk|hk|hk|hk|hk
  ·rw [rtake1 hk];refine rsend_nums h 0 fun _=>hy.num _ ?_;have:=hc hk;rw [List.getD,List.getElem?_eq_getElem (by omega),Option.getD_some];exact List.getElem_mem _
  ·rw [rtake2 hk];exact rsend_nums (hev _ _) 0 fun _=>reval_num _ _ _ _
  ·rw [rtake3 hk];split
   ·exact rsend_nums (hev _ _) 0 fun _=>hv
   ·exact h
  ·rw [rtake4 hk];unfold rbatch;dsimp only;split
   ·exact rsum_nums (r:={r with s:={r.s with held:=r.s.held++[v]}}) h (by simp)
   ·exact h
  ·rw [rtake5 hk];exact rrep_nums h hv _
  ·rw [rtake6 hk];split
   ·exact rsend_nums (r:=rcount r (r.s.count+1)) h 0 fun _=>hv
   ·exact h
  ·rw [rtake7 hk];exact rsend_nums (hev _ _) _ fun _=>hv
  ·rw [rtake8 hk];exact rsend_nums h 0 fun _=>hv
  ·rw [rtake9 hk];unfold rzip;split
   ·split<;>exact h
   ·split
    ·exact rsend_nums (r:=(reval y {r with s:={r.s with held:=[]}} (r.s.held.getD 0 default) v).1) h 0 fun _=>reval_num _ _ _ _
    ·exact h
  ·rw [rtake10 hk];exact h
theorem rfin_nums {y:Sg} {r:Rn} (h:Nums r.out) (i:Int):Nums (rfin y r i).out:=by
  by_cases h4:y.kind=4
  ·rw [rfin4 h4];show Nums (if 0<r.s.held.length then rsum r else r).out;split
   ·exact rsum_nums h (by assumption)
   ·exact h
  ·unfold rfin;rw [if_neg h4];split
   ·exact h
   ·split<;>exact h
theorem rtake_st {y:Sg} {r:Rn} {i v:Int} (hk:y.kind≠1) (h4:y.kind≠4) (h6:y.kind≠6) (h8:y.kind≠8) (h9:y.kind≠9):(rtake y r i v).s=r.s:=by
  unfold rtake;repeat' split
  all_goals first|exact rsend_s1 _ _ _|exact (rrep_s _ _ _).1|rfl| (exfalso;omega)
theorem rsum_st (r:Rn):(rsum r).s={r.s with held:=[]}:=by
  unfold rsum;show {(rsend _ _ _).s with held:=[]}=_;rw [rsend_s1]
theorem take_state {y:Sg} {s:Ss} {i v:Int} (h:TakeOk y s i v) (he:s.ended=false):sval y (rtake y (rnew y s) i v).s=true∧(rtake y (rnew y s) i v).s.ended=false∧notedM y (rtake y (rnew y s) i v).s=notedM y s∧(y.kind=1→(rtake y (rnew y s) i v).s.count=s.count+1):=by
  have hy:=h.sg;obtain⟨a,b,c⟩:=sval_ok h.val;have hN: ∀ t:Ss,t.ended=false→y.kind≠8→y.kind≠9→notedM y t=[]:=fun t ht h8 h9=>by
   unfold notedM;rw [if_neg h8,if_neg h9,if_neg (by rw [ht];rintro⟨-,h⟩;cases h)]
  have same:y.kind≠1→y.kind≠4→y.kind≠6→y.kind≠8→y.kind≠9→sval y (rtake y (rnew y s) i v).s=true∧(rtake y (rnew y s) i v).s.ended=false∧notedM y (rtake y (rnew y s) i v).s=notedM y s∧(y.kind=1→(rtake y (rnew y s) i v).s.count=s.count+1):=by
   intro h1 h4 h6 h8 h9;rw [rtake_st h1 h4 h6 h8 h9];exact⟨h.val,he,rfl,fun e=>absurd e h1⟩
  rcases kinds hy.kind with hk|hk|hk|hk|hk|hk|hk|hk|hk|hk
  ·have e:(rtake y (rnew y s) i v).s={s with count:=s.count+1}:=by
    rw [rtake1 hk];unfold rcount;dsimp only;rw [rsend_s1];rfl
   rw [e];have hb:=(sbnd_k y).2.2.1 hk;have hs:=h.src hk;rw [hb] at a b;refine⟨sval_mk (by rw [hb];dsimp only at a ⊢;omega) (by rw [hb];exact b) c (by omega) (by omega) (by omega),he,?_,fun _=>rfl⟩;rw [hN _ (by exact he) (by omega) (by omega),hN _ he (by omega) (by omega)]
  ·exact same (by omega) (by omega) (by omega) (by omega) (by omega)
  ·exact same (by omega) (by omega) (by omega) (by omega) (by omega)
  ·rw [rtake4 hk];have hb:=(sbnd_k y).2.2.2.1 hk;have hsz:=hy.size;have hl1:hleast y.kind=1:=by rw [hk];rfl
   unfold rbatch;dsimp only;split
   ·rename_i hf;rw [rsum_st];refine⟨sval_mk (by rw [hb] at a ⊢;exact a) (by rw [hb];show (0:Int)≤y.size - 1;omega) (by intro n hn;cases hn) (by intro _ h;rfl) (by omega) (by omega),he,?_,by omega⟩;rw [hN _ (by exact he) (by omega) (by omega),hN _ he (by omega) (by omega)]
   ·rename_i hf;refine⟨sval_mk (by rw [hb] at a ⊢;exact a) ?_ ?_ ?_ (by omega) (by omega),he,?_,by omega⟩
    ·rw [hb] at b ⊢;have:((s.held++[v]).length:Int)≠y.size:=hf;show ((s.held++[v]).length:Int)≤y.size - 1;rw [List.length_append,List.length_singleton] at this ⊢;dsimp only at b;omega
    ·intro n hn;rcases List.mem_append.1 hn with h1|h1
     ·exact c n h1
     ·rw [List.mem_singleton.1 h1];exact h.num
    ·intro _ h1;have h2:s.ended=true:=h1;rw [he] at h2;cases h2
    ·rw [hN _ (by exact he) (by omega) (by omega),hN _ he (by omega) (by omega)]
  ·exact same (by omega) (by omega) (by omega) (by omega) (by omega)
  ·rw [rtake6 hk];have hb:=(sbnd_k y).2.2.2.2 hk;split
   ·rename_i hlt;rw [rsend_s1];show sval y {s with count:=s.count+1}=true∧_;have hlt':s.count<y.size:=hlt;refine⟨sval_mk (by rw [hb] at a ⊢;dsimp only at a ⊢;omega) b c (by omega) (by omega) (by omega),he,?_,by omega⟩;rw [hN _ (by exact he) (by omega) (by omega),hN _ he (by omega) (by omega)]
   ·exact⟨h.val,he,rfl,by omega⟩
  ·exact same (by omega) (by omega) (by omega) (by omega) (by omega)
  ·have e:(rtake y (rnew y s) i v).s={s with count:=1 - i}:=by
    rw [rtake8 hk];unfold rcount;dsimp only;rw [rsend_s1];rfl
   rw [e];have hb:=(sbnd_k y).2.1 hk;have hi:=h.inp (by omega) (by omega);obtain⟨s1,s2,s3⟩:=sval8 h.val hk;refine⟨sval_mk (by rw [hb];show 0≤1 - i∧1 - i≤1;omega) b c (by omega) (fun _=> ?_) (by omega),he,?_,by omega⟩
   ·show mgOk s.held=true∧s.ended=decide ((s.held.length:Int)=2);rcases s2 with e|e|e|e
    ·rw [e,he];decide
    ·rw [e,he];decide
    ·rw [e,he];decide
    ·have:=s3.2 e;rw [he] at this;cases this
   ·unfold notedM;rw [if_pos hk,if_pos hk]
  ·have hb:=(sbnd_k y).1 hk;obtain⟨s1,s2,s3,s4⟩:=sval9 h.val hk;have s5:s.ended=decide (s.count=3):=by
    rw [he,eq_comm,decide_eq_false_iff_not];intro e;rw [s3.2 e] at he;cases he
   have hnz: ∀ t:Ss,t.count=s.count→notedM y t=notedM y s:=fun t ht=>by unfold notedM;rw [if_neg (by omega),if_pos hk,if_neg (by omega),if_pos hk,ht]
   have s6:s.count<2∨s.held=[]:=by
    rcases Classical.em (s.count<2) with h7|h7
    ·exact .inl h7
    ·exact .inr (s4 (by omega))
   rw [rtake9 hk];unfold rzip;split
   ·split
    ·rename_i h0 h1;have h1':s.count / 2*2=0:=h1;refine⟨sval_mk (by rw [hb] at a ⊢;exact a) (by rw [hb];show (([v].length:Nat):Int)≤1;simp) (fun n hn=>by rw [List.mem_singleton.1 hn];exact h.num) (by omega) (by omega) (fun _=>⟨s5,.inl (by show s.count<2;omega)⟩),he,hnz _ rfl,by omega⟩
    ·exact⟨h.val,he,rfl,by omega⟩
   ·split
    ·rw [rsend_s1];refine⟨sval_mk (by rw [hb] at a ⊢;exact a) (by rw [hb];show ((([]:List Int).length:Nat):Int)≤1;decide) (fun n hn=>by cases hn) (by omega) (by omega) (fun _=>⟨s5,.inr rfl⟩),he,hnz _ rfl,by omega⟩
    ·exact⟨h.val,he,rfl,by omega⟩
  ·exact same (by omega) (by omega) (by omega) (by omega) (by omega)
theorem sort01 (l:List Int) (i:Int) (hl:l=[]∨l=[0]∨l=[1]) (hi:i=0∨i=1) (hn:i ∉ l):(l++[i]).mergeSort (fun a b=>decide (a≤b))=(if l=[] then [i] else [0,1]):=by
  rcases hl with e|e|e<;>rcases hi with e2|e2<;>subst e<;>subst e2
  ·simp
  ·simp
  ·simp at hn
  ·rw [if_neg (by simp)];exact List.mergeSort_of_pairwise (by simp)
  ·rw [if_neg (by simp)];simp [List.mergeSort,List.MergeSort.Internal.splitInTwo,List.merge]
  ·simp at hn
theorem fin_state {y:Sg} {s:Ss} {i:Int} (hg:sgchk y=0) (hv:sval y s=true) (he:s.ended=false) (hi:y.kind≠1→0≤i∧i<hin y.kind) (hn:y.kind≠1→sended y s i=false):
  sval y (rfin y (rnew y s) i).s=true∧(∀ n∈notedM y (rfin y (rnew y s) i).s,n=i∨n∈notedM y s)∧(y.kind=1→(rfin y (rnew y s) i).s.count=s.count)∧(y.kind≠8→y.kind≠9→(rfin y (rnew y s) i).s.ended=true):=by
  have hy:=sgchk_ok hg;obtain⟨a,b,c⟩:=sval_ok hv;have h01:y.kind≠1→y.kind≠8→y.kind≠9→i=0:=fun h1 h8 h9=>by
   have h2:=hi h1;have:hin y.kind≤1:=by
    rcases kinds hy.kind with h|h|h|h|h|h|h|h|h|h<;>rw [h] at h8 h9 ⊢ <;>first|exact absurd rfl h8|exact absurd rfl h9|decide
   omega
  have hN: ∀ t:Ss,y.kind≠8→y.kind≠9→ ∀ n∈notedM y t,n=i∨n∈notedM y s:=fun t h8 h9 n hn=>by
   unfold notedM at hn;rw [if_neg h8,if_neg h9] at hn;split at hn
   ·rename_i h1;left;rw [h01 h1.1 h8 h9];simpa using hn
   ·cases hn
  by_cases h4:y.kind=4
  ·have e:(rfin y (rnew y s) i).s={s with held:=[],ended:=true}:=by
    rw [rfin4 h4];show {(if 0<s.held.length then rsum (rnew y s) else rnew y s).s with ended:=true}=_;split
    ·rw [rsum_st];rfl
    ·rename_i h0;have:s.held=[]:=List.eq_nil_of_length_eq_zero (by omega);show {s with ended:=true}=_;rw [this]
   have hb:=(sbnd_k y).2.2.2.1 h4;have hsz:=hy.size;have hl1:hleast y.kind=1:=by rw [h4];rfl
   refine⟨?_,hN _ (by omega) (by omega),by omega,fun _ _=>by rw [e]⟩;rw [e];exact sval_mk (by rw [hb] at a ⊢;exact a) (by rw [hb];show (0:Int)≤y.size - 1;omega) (by intro n hn;cases hn) (by intro _ _;rfl) (by omega) (by omega)
  ·by_cases h8:y.kind=8
   ·obtain⟨s1,s2,s3⟩:=sval8 hv h8;have hb:=(sbnd_k y).2.1 h8;have hi':=hi (by omega);have hin2:hin y.kind=2:=by rw [h8];rfl
    have hni:i ∉ s.held:=by
     have:=hn (by omega);unfold sended at this;rw [if_pos h8,decide_eq_false_iff_not,Wl.idxI_mem] at this;exact this
    have s2':s.held=[]∨s.held=[0]∨s.held=[1]:=by
     rcases s2 with e|e|e|e
     ·exact .inl e
     ·exact .inr (.inl e)
     ·exact .inr (.inr e)
     ·have:=s3.2 e;rw [he] at this;cases this
    have hso:=sort01 s.held i s2' (by omega) hni;have e:(rfin y (rnew y s) i).s={s with held:=if s.held=[] then [i] else [0,1],ended:=decide (((s.held++[i]).length:Int)=2)}:=by
     rw [rfin8 h8];show {s with held:=(s.held++[i]).mergeSort (fun a b=>decide (a≤b)),ended:=_}=_;rw [hso];rfl
    have hi2:i=0∨i=1:=by omega
    refine⟨?_,?_,by omega,by omega⟩
    ·rw [e];refine sval_mk (by rw [hb] at a ⊢;exact a) ?_ ?_ (by omega) (fun _=> ?_) (by omega)
     ·rw [hb];dsimp only;split<;>simp
     ·intro n hm;dsimp only at hm;split at hm
      ·rw [List.mem_singleton.1 hm];rcases hi2 with e|e<;>subst e<;>decide
      ·simp at hm;rcases hm with e|e<;>subst e<;>decide
     ·dsimp only;rcases s2' with e1|e1|e1<;>rw [e1] at hni ⊢ <;>rcases hi2 with e2|e2<;>subst e2<;>first| (simp at hni;done)| (simp;decide)
    ·rw [e];intro n hm;unfold notedM at hm ⊢;rw [if_pos h8] at hm ⊢;dsimp only at hm;rcases s2' with e1|e1|e1<;>rw [e1] at hni hm ⊢ <;>rcases hi2 with e2|e2<;>subst e2<;>simp at hni hm ⊢ <;>omega
   ·by_cases h9:y.kind=9
    ·obtain⟨s1,s2,s3,s4⟩:=sval9 hv h9;have hb:=(sbnd_k y).1 h9;have hi':=hi (by omega);have hin2:hin y.kind=2:=by rw [h9];rfl
     have hni:=hn (by omega);unfold sended at hni;rw [if_neg h8,if_pos h9,decide_eq_false_iff_not] at hni;have hc3:s.count≠3:=fun h3=>by rw [s3.2 h3] at he;cases he
     have hi2:i=0∨i=1:=by omega
     have e:(rfin y (rnew y s) i).s={s with count:=Go.Aw.orI s.count (i+1),held:=if i=1 then [] else s.held,ended:=decide (Go.Aw.orI s.count (i+1)=3)}:=by
      rw [rfin9 h9];rfl
     have hcs:s.count=0∨s.count=1∨s.count=2:=by omega
     refine⟨?_,?_,by omega,fun _ h=>absurd h9 h⟩
     ·rw [e];refine sval_mk ?_ ?_ ?_ (by omega) (by omega) (fun _=>⟨rfl,?_⟩)
      ·rw [hb];dsimp only;rcases hcs with e1|e1|e1<;>rw [e1]<;>rcases hi2 with e2|e2<;>subst e2<;>decide
      ·rw [hb];dsimp only;split
       ·decide
       ·omega
      ·intro n hm;dsimp only at hm;split at hm
       ·cases hm
       ·exact c n hm
      ·dsimp only;rcases hi2 with e2|e2<;>subst e2
       ·rcases hcs with e1|e1|e1
        ·left;rw [e1];decide
        ·rw [e1] at hni;exact absurd rfl hni
        ·right;rw [if_neg (by decide)];exact s4 (by omega)
       ·right;rfl
     ·rw [e];intro n hm;unfold notedM at hm ⊢;rw [if_neg h8,if_pos h9] at hm ⊢;dsimp only at hm;rcases hcs with e1|e1|e1<;>rw [e1] at hni hm ⊢ <;>rcases hi2 with e2|e2<;>subst e2<;>simp [Go.Aw.orI] at hni hm ⊢ <;>omega
    ·have e:(rfin y (rnew y s) i).s={s with ended:=true}:=by rw [rfin_def h4 h8 h9];rfl
     refine⟨?_,hN _ h8 h9,fun _=>by rw [e],fun _ _=>by rw [e]⟩;rw [e];exact sval_mk a b c (fun h=>absurd h h4) (fun h=>absurd h h8) (fun h=>absurd h h9)
end Pn
namespace Pn
open Sv (win win_t)
theorem stake_ok {y:Sg} {s:Ss} {i v:Int} (h:(stake y s i v).2.2=0):(sneed y s).2=0∧s.ended=false∧TakeOk y s i v∧(rtake y (rnew y s) i v).err=0∧stake y s i v=((rtake y (rnew y s) i v).s,(rtake y (rnew y s) i v).out,0):=by
  unfold stake at h;split at h
  ·rename_i h1;exact absurd h h1
  ·rename_i h1;split at h
   ·cases h
   ·rename_i h2;split at h
    ·cases h
    ·rename_i h3;split at h
     ·rename_i h4;exact absurd h h4
     ·rename_i h4;have h1':=Classical.not_not.1 h1;refine⟨h1',?_,takeOk h1' h2 h3,Classical.not_not.1 h4,?_⟩
      ·cases he:s.ended with
       |false=>rfl
       |true=>exact absurd (.inl he) h2
      ·unfold stake;rw [if_neg h1,if_neg h2,if_neg h3,if_neg h4]
theorem sfin_ok {y:Sg} {s:Ss} {i:Int} (h:(sfin y s i).2.2.2=0):(sneed y s).2=0∧s.ended=false∧(y.kind≠1→0≤i∧i<hin y.kind)∧(y.kind≠1→sended y s i=false)∧(rfin y (rnew y s) i).err=0∧sfin y s i=((rfin y (rnew y s) i).s,(rfin y (rnew y s) i).out,(rfin y (rnew y s) i).s.ended,0):=by
  unfold sfin at h;split at h
  ·rename_i h1;exact absurd h h1
  ·rename_i h1;split at h
   ·cases h
   ·rename_i h2;split at h
    ·cases h
    ·rename_i h3;split at h
     ·rename_i h4;exact absurd h h4
     ·rename_i h4;refine⟨Classical.not_not.1 h1,?_,fun hk=> ?_,fun hk=> ?_,Classical.not_not.1 h4,?_⟩
      ·cases he:s.ended with
       |false=>rfl
       |true=>exact absurd (.inl he) h3
      ·have: ¬ (i<0∨hin y.kind≤i):=fun h5=>h2 (.inr ⟨hk,h5⟩);omega
      ·cases he:sended y s i with
       |false=>rfl
       |true=>exact absurd (.inr ⟨hk,he⟩) h3
      ·unfold sfin;rw [if_neg h1,if_neg h2,if_neg h3,if_neg h4]
structure MvOk (x:Pl) (s:Fs) (i:Int) (m:Mv):Prop where
  en:(sst s i).ended=false
  len:m.sent.length=(hout (stg x i).kind).toNat
  nums:Nums m.sent
  lens: ∀ l∈m.sent,l.length≤most1 (stg x i)
  need:(sneed (stg x i) m.state).2=0
  ended:m.ended=m.state.ended
  noted: ∀ n∈notedM (stg x i) m.state,n∈notedM (stg x i) (sst s i)∨cended (crd s (inP x i n))=true
  takes:m.takes=true→(stg x i).kind≠1∧m.inn=pin x s i∧0<(pcr x s i).items.length∧m.item=(pcr x s i).items.getD 0 default∧m.ended=false
theorem most1_pos {y:Sg} (hk:y.kind≠5):most1 y=1:=if_neg hk
theorem mtake_ok {y:Sg} {t:Ss} {n:Int} {b:Bool} {v:Int} (hg:sgchk y=0) (h:(mtake y t n b v).e=0):t.ended=false∧(mtake y t n b v).sent.length=(hout y.kind).toNat∧Nums (mtake y t n b v).sent∧(∀ l∈(mtake y t n b v).sent,l.length≤most1 y)∧(sneed y (mtake y t n b v).state).2=0∧(mtake y t n b v).state.ended=false∧notedM y (mtake y t n b v).state=notedM y t:=by
  obtain⟨h1,h2,h3,h4,h5⟩:=stake_ok (show (stake y t n v).2.2=0 from h);have h6:=take_state h3 h2;have hk:=sval_k h3.sg h3.val;unfold mtake;rw [h5];refine⟨h2,(rtake_len y _ n v).trans (rnew_out y t).1,rtake_nums h3.sg (nums_new y t) h3.num (fun e=>⟨hk.1,by have:=hk.2.2.2.2.1 e;have:=h3.src e;show t.count<_;omega⟩),rtake_lens (rnew_out y t).2 n v,sneed_of hg h6.1,h6.2.1,h6.2.2.1⟩
theorem mend_ok {y:Sg} {t:Ss} {n:Int} (hg:sgchk y=0) (h:(mend y t n).e=0):t.ended=false∧(mend y t n).sent.length=(hout y.kind).toNat∧Nums (mend y t n).sent∧(∀ l∈(mend y t n).sent,l.length≤1)∧(sneed y (mend y t n).state).2=0∧(mend y t n).ended=(mend y t n).state.ended∧(∀ j∈notedM y (mend y t n).state,j=n∨j∈notedM y t):=by
  obtain⟨h1,h2,h3,h4,h5,h6⟩:=sfin_ok (show (sfin y t n).2.2.2=0 from h);have h7:=fin_state hg (sneed_ok h1).2 h2 h3 h4;unfold mend;rw [h6];exact⟨h2,(rfin_len y _ n).trans (rnew_out y t).1,rfin_nums (nums_new y t) n,rfin_lens (rnew_out y t).2 n,sneed_of hg h7.1,rfl,h7.2.1⟩
theorem lens_le {y:Sg} {o:List (List Int)} (h:y.kind≠5∨1≤most1 y) (hl: ∀ l∈o,l.length≤1): ∀ l∈o,l.length≤most1 y:=by
  intro l hm;have:=hl l hm;rcases h with h|h
  ·rw [most1_pos h];exact this
  ·omega
theorem rfin5 {y:Sg} {t:Ss} {n:Int} (hk:y.kind=5): ∀ l∈(mend y t n).sent,l.length≤0:=by
  unfold mend;dsimp only;unfold sfin;repeat' split
  all_goals first| (intro l hl;cases hl;done)| (rw [rfin_def (by omega) (by omega) (by omega)];exact (rnew_out y t).2)
theorem pnext_ok {x:Pl} {s:Fs} {i:Int} (hx:Pok x) (hi:0≤i∧i<x.stages.length) (h:(pnext x s i).2=true) (he:(pnext x s i).1.e=0):MvOk x s i (pnext x s i).1:=by
  have hg:=(hx.stg hi).1;have hfin: ∀ n:Int,(mend (stg x i) (sst s i) n).e=0→((stg x i).kind≠1→cended (crd s (inP x i n))=true)→MvOk x s i (mend (stg x i) (sst s i) n):=by
   intro n hn hc;obtain⟨a,b,c,d,e,f,g⟩:=mend_ok hg hn;refine⟨a,b,c,?_,e,f,fun j hj=> ?_,fun h=>by cases h⟩
   ·by_cases h5:(stg x i).kind=5
    ·intro l hl;have:=rfin5 (n:=n) (t:=sst s i) h5 l hl;omega
    ·exact lens_le (.inl h5) d
   ·rcases g j hj with g1|g1
    ·by_cases h1:(stg x i).kind=1
     ·unfold notedM at hj;rw [if_neg (by omega),if_neg (by omega),if_neg (fun h=>h.1 h1)] at hj;cases hj
     ·right;rw [g1];exact hc h1
    ·exact .inl g1
  have htk: ∀ (n:Int) (b:Bool) (v:Int),(mtake (stg x i) (sst s i) n b v).e=0→(b=true→(stg x i).kind≠1∧n=pin x s i∧0<(pcr x s i).items.length∧v=(pcr x s i).items.getD 0 default)→MvOk x s i (mtake (stg x i) (sst s i) n b v):=by
   intro n b v hn hb;obtain⟨a,c,d,e,f,g,j⟩:=mtake_ok hg hn;refine⟨a,c,d,e,f,g.symm,fun j' hj'=> .inl (by rw [←j];exact hj'),fun h=> ?_⟩;obtain⟨b1,b2,b3,b4⟩:=hb h;exact⟨b1,b2,b3,b4,rfl⟩
  unfold pnext at h he ⊢;split at h
  ·cases h
  ·rename_i h1;rw [if_neg h1] at he ⊢;split at h
   ·rename_i h2;rw [if_pos h2] at he ⊢;split at h
    ·rename_i h3;rw [if_pos h3] at he ⊢;exact hfin _ he fun h=>absurd h2 h
    ·rename_i h3;rw [if_neg h3] at he ⊢;exact htk _ _ _ he fun h=>by cases h
   ·rename_i h2;rw [if_neg h2] at he ⊢;split at h
    ·rename_i h3;rw [if_pos h3] at he ⊢;exact htk _ _ _ he fun _=>⟨h2,rfl,h3,rfl⟩
    ·rename_i h3;rw [if_neg h3] at he ⊢;split at h
     ·rename_i h4;rw [if_pos h4] at he ⊢;exact hfin _ he fun _=>h4
     ·cases h
theorem croom_of {c:Cr} (h:Cok c) (hc:c.closed=false):croom c=c.granted - c.sent:=by
  unfold croom;rw [if_neg];rintro (h1|h1)
  ·exact h1 (cchk_ok.2 h)
  ·rw [hc] at h1;cases h1
theorem cended_of {c:Cr} (h:Cok c):cended c=true↔c.closed=true∧c.items=[]:=by
  unfold cended;rw [decide_eq_true (cchk_ok.2 h),Bool.true_and,Bool.and_eq_true,decide_eq_true_eq];constructor
  ·rintro⟨a,b⟩;exact⟨a,List.eq_nil_of_length_eq_zero (by omega)⟩
  ·rintro⟨a,b⟩;exact⟨a,by rw [b];rfl⟩
theorem csend_of {c:Cr} {n:Int} (h:Cok c) (hc:c.closed=false) (hr:1≤c.granted - c.sent) (hn:num n=true):(csend c n).1={c with items:=c.items++[n],sent:=c.sent+1}∧Cok {c with items:=c.items++[n],sent:=c.sent+1}:=by
  have h1:(csend c n).1={c with items:=c.items++[n],sent:=c.sent+1}:=by
   unfold csend perf;rw [if_neg (fun h2=>h2 (cchk_ok.2 h))];unfold sendC;rw [if_neg (by rw [hn];decide),if_neg (by rw [hc];decide),if_neg (by omega)]
  refine⟨h1,⟨h.cap,h.taken,?_,?_,h.most,h.room,?_,?_⟩⟩
  ·have:=h.sent;show c.taken≤c.sent+1;omega
  ·show c.sent+1≤c.granted;omega
  ·have:=h.len;show ((c.items++[n]).length:Int)=c.sent+1 - c.taken;rw [List.length_append,List.length_singleton];omega
  ·intro m hm;rcases List.mem_append.1 hm with h2|h2
   ·exact h.num m h2
   ·rw [List.mem_singleton.1 h2];exact hn
theorem sendsC_of: ∀ (l:List Int) {c:Cr},Cok c→c.closed=false→(l.length:Int)≤c.granted - c.sent→(∀ n∈l,num n=true)→sendsC c l={c with items:=c.items++l,sent:=c.sent+l.length}∧Cok {c with items:=c.items++l,sent:=c.sent+l.length}
  | [],c,h,hc,hr,hn=>by
   have e:({c with items:=c.items++[],sent:=c.sent+(([]:List Int).length:Nat)}:Cr)=c:=by
    rw [List.append_nil];simp
   rw [e];exact⟨rfl,h⟩
  |n::l,c,h,hc,hr,hn=>by
   rw [List.length_cons] at hr;obtain⟨a,b⟩:=csend_of h hc (by omega) (hn n (List.mem_cons_self ..));have ih:=sendsC_of l b hc (by show (l.length:Int)≤c.granted - (c.sent+1);omega) (fun m hm=>hn m (List.mem_cons_of_mem _ hm));have e:({c with items:=c.items++[n]++l,sent:=c.sent+1+(l.length:Nat)}:Cr)={c with items:=c.items++n::l,sent:=c.sent+((n::l).length:Nat)}:=by
    rw [List.append_assoc,List.length_cons];congr 1
    push_cast;omega
   rw [sendsC,a,ih.1,←e];exact⟨rfl,ih.2⟩
theorem cclose_of {c:Cr} (h:Cok c) (hc:c.closed=false):(cclose c).1={c with closed:=true}∧Cok {c with closed:=true}:=by
  refine⟨?_,⟨h.cap,h.taken,h.sent,h.granted,h.most,h.room,h.len,h.num⟩⟩;unfold cclose perf;rw [if_neg (fun h2=>h2 (cchk_ok.2 h))];unfold closeC;rw [if_neg (by rw [hc];decide)]
def sentC (c:Cr) (l:List Int) (b:Bool):Cr:=⟨c.capacity,c.granted,c.sent+l.length,c.taken,c.items++l,b⟩
theorem sentC_ok {c:Cr} {l:List Int} (b:Bool) (h:Cok c) (hr:(l.length:Int)≤c.granted - c.sent) (hn: ∀ n∈l,num n=true):Cok (sentC c l b):=by
  refine⟨h.cap,h.taken,?_,?_,h.most,h.room,?_,?_⟩
  ·have:=h.sent;show c.taken≤c.sent+l.length;omega
  ·show c.sent+l.length≤c.granted;omega
  ·have:=h.len;show ((c.items++l).length:Int)=c.sent+l.length - c.taken;rw [List.length_append];omega
  ·intro m hm;rcases List.mem_append.1 hm with h2|h2
   ·exact h.num m h2
   ·exact hn m h2
def credU (m:Mv) (n:Nat) (c:Cr):Cr:=
  let c':=if n<m.sent.length then sendsC c (m.sent.getD n default) else c
  if m.ended=true then (cclose c').1 else c'
theorem credU_of {m:Mv} {n:Nat} {c:Cr} (h:Cok c) (hc:c.closed=false) (hn:n<m.sent.length) (hr:((m.sent.getD n default).length:Int)≤croom c) (hs:Nums m.sent):credU m n c=sentC c (m.sent.getD n default) m.ended:=by
  rw [croom_of h hc] at hr;have hm: ∀ v∈m.sent.getD n default,num v=true:=by
   rw [List.getD,List.getElem?_eq_getElem hn,Option.getD_some];exact hs _ (List.getElem_mem hn)
  obtain⟨a,b⟩:=sendsC_of (m.sent.getD n default) h hc hr hm;unfold credU;dsimp only;rw [if_pos hn,a];split
  ·rename_i he;rw [(cclose_of b hc).1,he];rfl
  ·rename_i he;have he':m.ended=false:=by simpa using he
   rw [he'];unfold sentC;rw [←hc]
def takenC (c:Cr):Cr:=⟨c.capacity,if c.closed=true then c.granted else c.granted+1,c.sent,c.taken+1,c.items.drop 1,c.closed⟩
theorem ctake_of {c:Cr} (h:Cok c) (hl:0<c.items.length):ctake c=({c with items:=c.items.drop 1,taken:=c.taken+1},c.items.getD 0 0,0)∧Cok {c with items:=c.items.drop 1,taken:=c.taken+1}:=by
  have h1:ctake c=({c with items:=c.items.drop 1,taken:=c.taken+1},c.items.getD 0 0,0):=by
   unfold ctake;rw [if_neg (fun h2=>h2 (cchk_ok.2 h)),if_neg (by omega)]
  have hlen:=h.len;refine⟨h1,⟨h.cap,?_,?_,h.granted,h.most,?_,?_,fun n hn=>h.num n (List.mem_of_mem_drop hn)⟩⟩
  ·have:=h.taken;show 0≤c.taken+1;omega
  ·show c.taken+1≤c.sent;omega
  ·have:=h.room;show c.granted - (c.taken+1)≤c.capacity;omega
  ·show ((c.items.drop 1).length:Int)=c.sent - (c.taken+1);rw [List.length_drop];omega
theorem tookC_of {c:Cr} (h:Cok c) (hl:0<c.items.length) (hg:c.closed=false→c.granted=c.taken+c.capacity):((tookC c).2=0→tookC c=(takenC c,0)∧Cok (takenC c))∧((c.closed=false→c.granted+1≤1099511627776)→(tookC c).2=0):=by
  obtain⟨a,b⟩:=ctake_of h hl;have key:tookC c=if c.closed=false then creq {c with items:=c.items.drop 1,taken:=c.taken+1} 1 else ({c with items:=c.items.drop 1,taken:=c.taken+1},0):=by
   unfold tookC;rw [a];by_cases hc:c.closed=false
   ·rw [if_pos ⟨rfl,hc⟩,if_pos hc]
   ·rw [if_neg (fun h=>hc h.2),if_neg hc]
  have hk: ∀ c':Cr,Cok c'→c'.closed=false→c'.granted+1=c'.taken+c'.capacity→creq c' 1=if 1099511627776<c'.granted+1 then (C0,4) else ({c' with granted:=c'.granted+1},0):=by
   intro c' h' hc' hg';unfold creq perf;rw [if_neg (fun h2=>h2 (cchk_ok.2 h'))];unfold reqC;rw [if_neg (by omega),if_neg (by rw [hc'];decide),if_neg (by omega)]
  rw [key];by_cases hc:c.closed=false
  ·have hg':=hg hc;rw [if_pos hc,hk _ b hc (by show c.granted+1=c.taken+1+c.capacity;omega)];refine⟨fun h0=> ?_,fun h0=> ?_⟩
   ·split at h0
    ·cases h0
    ·rename_i h1;have h1': ¬ 1099511627776<c.granted+1:=h1;rw [if_neg h1];have e:takenC c={c with items:=c.items.drop 1,taken:=c.taken+1,granted:=c.granted+1}:=by
      unfold takenC;rw [if_neg (by rw [hc];decide)]
     rw [e];refine⟨rfl,⟨b.cap,b.taken,b.sent,?_,?_,?_,b.len,b.num⟩⟩
     ·have:=b.granted;show c.sent≤c.granted+1;have:c.sent≤c.granted:=this;omega
     ·show c.granted+1≤1099511627776;omega
     ·show c.granted+1 - (c.taken+1)≤c.capacity;omega
   ·rw [if_neg (by have:=h0 hc;show ¬ 1099511627776<c.granted+1;omega)]
  ·have hc':c.closed=true:=by simpa using hc
   rw [if_neg hc];have e:takenC c={c with items:=c.items.drop 1,taken:=c.taken+1}:=by
    unfold takenC;rw [if_pos hc']
   rw [e];exact⟨fun _=>⟨rfl,b⟩,fun _=>rfl⟩
end Pn
namespace Pn
open Sv (win win_t)
theorem sendK_get {x:Pl} (hx:Pok x) {i:Int} (hi:0≤i∧i<x.stages.length) {cs:List Cr} (hcs:cs.length=x.pipes.length) (m:Mv): ∀ n:Nat,(n:Int)≤hout (stg x i).kind→ ∀ k,k<x.pipes.length→
  (sendK x cs i m n).getD k default=if (pip x k).from_=i∧(pip x k).output<n then credU m (pip x k).output.toNat (cs.getD k default) else cs.getD k default
  |0,_,k,hk=>by
   have:=(hx.pip hk).out;rw [if_neg (by omega)];rfl
  |n+1,hn,k,hk=>by
   have ih:=sendK_get hx hi hcs m n (by omega);obtain⟨kk,hkk,hki,hf,ho⟩:=hx.outp hi (n:=(n:Int)) (by omega);have hl:=sendK_len x cs i m n;have e:sendK x cs i m (n+1)=(sendK x cs i m n).set kk (credU m n ((sendK x cs i m n).getD kk default)):=by
    have:(outP x i n).toNat=kk:=by omega
    show send1 x _ i m n=_;unfold send1;rw [this];rfl
   rw [e];by_cases hkq:k=kk
   ·subst hkq;rw [getD_set' (by omega),ih k hk,if_neg (by omega),if_pos (by omega)];rw [show (pip x k).output.toNat=n by omega]
   ·have e2:((sendK x cs i m n).set kk (credU m n ((sendK x cs i m n).getD kk default))).getD k default=(sendK x cs i m n).getD k default:=by
     rw [List.getD,List.getElem?_set_ne (fun h=>hkq h.symm)];rfl
    rw [e2,ih k hk];have: ¬ ((pip x k).from_=i∧(pip x k).output=n):=by
     rintro⟨a,b⟩;have:=(hx.pip hk).outP;rw [a,b,hki] at this;omega
    by_cases hc:(pip x k).from_=i∧(pip x k).output<n
    ·rw [if_pos hc,if_pos (by omega)]
    ·rw [if_neg hc,if_neg (by omega)]
structure Stp (x:Pl) (s:Fs) (i:Int) (m:Mv) (t:Fs):Prop where
  hi:0≤i∧i<x.stages.length
  mv:MvOk x s i m
  next:m=(pnext x s i).1∧(pnext x s i).2=true∧m.e=0
  room: ∀ k:Nat,k<x.pipes.length→(pip x k).from_=i→((m.sent.getD (pip x k).output.toNat default).length:Int)≤(crd s k).granted - (crd s k).sent
  cr: ∀ k:Nat,k<x.pipes.length→crd t k=if (pip x k).from_=i then sentC (crd s k) (m.sent.getD (pip x k).output.toNat default) m.ended else if m.takes=true∧(pip x k).to_=i∧(pip x k).input=m.inn then takenC (crd s k) else crd s k
  took: ∀ k:Nat,k<x.pipes.length→m.takes=true∧(pip x k).to_=i∧(pip x k).input=m.inn→0<(crd s k).items.length∧Cok (takenC (crd s k))
  st:t.stages=s.stages.set i.toNat m.state
  lcr:t.credits.length=s.credits.length
  out:t.outputs=if (stg x i).kind=10∧m.takes=true then s.outputs.set (pout x s i) (s.outputs.getD (pout x s i) default++[m.item]) else s.outputs
  full:(stg x i).kind=10∧m.takes=true→(s.outputs.getD (pout x s i) default).length≠200
  dr:t.draining=s.draining
theorem outP_pip {x:Pl} (hx:Pok x) {i:Int} {n:Nat} {k:Nat} (hk:k<x.pipes.length) (h:outP x i n=k) (hi:0≤i∧i<x.stages.length) (hn:(n:Int)<hout (stg x i).kind):(pip x k).from_=i∧(pip x k).output=n:=by
  obtain⟨kk,hkk,hki,hf,ho⟩:=hx.outp hi (n:=(n:Int)) (by omega);have:kk=k:=by omega
  subst this;exact⟨hf,ho⟩
theorem fits_of {x:Pl} {s:Fs} {i:Int} {m:Mv} (h:pfits x s i m=true) {n:Nat} (hn:n<m.sent.length):((m.sent.getD n default).length:Int)≤croom (crd s (outP x i n)):=by
  unfold pfits at h;rw [List.all_eq_true] at h;have:=h n (List.mem_range.2 hn);unfold fitB at this;exact of_decide_eq_true this
theorem crd_get (s:Fs) (k:Nat):crd s (k:Int)=s.credits.getD k default:=by unfold crd;rw [Int.toNat_natCast]
theorem inP_iff {x:Pl} (hx:Pok x) {i n:Int} (hi:0≤i∧i<x.stages.length) (hn:0≤n∧n<hin (stg x i).kind) {k:Nat} (hk:k<x.pipes.length):inP x i n=k↔(pip x k).to_=i∧(pip x k).input=n:=by
  constructor
  ·intro h;obtain⟨kk,hkk,hki,hf,ho⟩:=hx.inp hi hn;have:kk=k:=by omega
   subst this;exact⟨hf,ho⟩
  ·rintro⟨a,b⟩;have:=(hx.pip hk).inP;rwa [a,b] at this
theorem step_eq {x:Pl} {s:Fs} (hx:Pok x) (hv:Pv x s) {i:Int} (hi:0≤i∧i<x.stages.length) (h1:(penab x s i).2=true) (h2:(penab x s i).1.e=0) (h3: ¬ (((stg x i).kind=10∧(penab x s i).1.takes=true)∧((s.outputs.getD (pout x s i) default).length:Int)=200)):
  pstep x s i=if (ptook x s.credits i (penab x s i).1).2≠0 then (F0,(ptook x s.credits i (penab x s i).1).2)
   else (⟨s.stages.set i.toNat (penab x s i).1.state,sendK x (ptook x s.credits i (penab x s i).1).1 i (penab x s i).1 (sout (stg x i)).toNat,
    if (stg x i).kind=10∧(penab x s i).1.takes=true then s.outputs.set (pout x s i) (s.outputs.getD (pout x s i) default++[(penab x s i).1.item]) else s.outputs,s.draining⟩,0):=by
  unfold pstep;rw [if_neg (fun h=>h (pvalid_of hx hv)),if_neg (by rw [Bool.not_eq_false,win_t];omega),if_neg (by rw [h1];decide),if_neg (fun h=>h h2),if_neg h3]
theorem penab_ok {x:Pl} {s:Fs} {i:Int} (h1:(penab x s i).2=true) (h2:(penab x s i).1.e=0):(pnext x s i).2=true∧(pnext x s i).1.e=0∧pfits x s i (pnext x s i).1=true:=by
  unfold penab at h1 h2;dsimp only at h1 h2;rw [Bool.and_eq_true,Bool.or_eq_true] at h1;refine⟨h1.1,h2,?_⟩;rcases h1.2 with h|h
  ·rw [decide_eq_true h2] at h;cases h
  ·exact h
theorem ptook_ok {x:Pl} {s:Fs} (hx:Pok x) (hv:Pv x s) {i:Int} (hi:0≤i∧i<x.stages.length) {m:Mv} (hm:MvOk x s i m):
  ((ptook x s.credits i m).2=0→ ∀ k:Nat,k<x.pipes.length→(ptook x s.credits i m).1.getD k default=if m.takes=true∧(pip x k).to_=i∧(pip x k).input=m.inn then takenC (crd s k) else crd s k)∧
  ((ptook x s.credits i m).2=0→ ∀ k:Nat,k<x.pipes.length→m.takes=true∧(pip x k).to_=i∧(pip x k).input=m.inn→0<(crd s k).items.length∧Cok (takenC (crd s k)))∧
  ((∀ k:Nat,k<x.pipes.length→(crd s k).closed=false→(crd s k).granted+1≤1099511627776)→(ptook x s.credits i m).2=0):=by
  by_cases ht:m.takes=true
  ·obtain⟨a,b,c,d,e⟩:=hm.takes ht;have hn:=(need_in (hv.need' hi) hm.en a).2;obtain⟨kk,hkk,hki,hf,ho⟩:=hx.inp hi (n:=pin x s i) hn;have hkn:(inP x i m.inn).toNat=kk:=by rw [b];show (inP x i (pin x s i)).toNat=kk;omega
   have hc:pcr x s i=crd s kk:=by unfold pcr;rw [show inP x i (pin x s i)=(kk:Int) from hki]
   rw [hc] at c;have hok:=hv.ok kk hkk;obtain⟨q1,q2⟩:=tookC_of hok c (hv.granted kk hkk);have e1:ptook x s.credits i m=(s.credits.set kk (tookC (crd s kk)).1,(tookC (crd s kk)).2):=by
    unfold ptook;rw [if_neg (by rw [ht];decide),hkn,←crd_get]
   have hiff: ∀ k:Nat,k<x.pipes.length→((pip x k).to_=i∧(pip x k).input=m.inn↔k=kk):=fun k hk=>by
    rw [←inP_iff hx hi (by rw [b];exact hn) hk,b];constructor
    ·intro h;have:inP x i (pin x s i)=(kk:Int):=hki;omega
    ·intro h;subst h;exact hki
   rw [e1];refine⟨fun h0 k hk=> ?_,fun h0 k hk h=> ?_,fun h=>q2 (h kk hkk)⟩
   ·by_cases hkq:k=kk
    ·subst hkq;rw [if_pos ⟨ht,(hiff k hk).2 rfl⟩];show (s.credits.set k _).getD k default=_;rw [getD_set' (by rw [hv.lc];exact hk),(q1 h0).1]
    ·rw [if_neg (fun h=>hkq ((hiff k hk).1 h.2))];show (s.credits.set kk _).getD k default=_;rw [List.getD,List.getElem?_set_ne (fun h=>hkq h.symm),crd_get];rfl
   ·have:=(hiff k hk).1 h.2;subst this;exact⟨c,(q1 h0).2⟩
  ·have e1:ptook x s.credits i m=(s.credits,0):=by
    unfold ptook;rw [if_pos (by simpa using ht)]
   rw [e1];exact⟨fun _ k hk=>by rw [if_neg (fun h=>ht h.1),crd_get],fun _ k hk h=>absurd h.1 ht,fun _=>rfl⟩
theorem step_stp {x:Pl} {s:Fs} (hx:Pok x) (hv:Pv x s) {i:Int} (hi:0≤i∧i<x.stages.length) (h1:(penab x s i).2=true) (h2:(penab x s i).1.e=0) (h3: ¬ (((stg x i).kind=10∧(penab x s i).1.takes=true)∧((s.outputs.getD (pout x s i) default).length:Int)=200)) (h4:(ptook x s.credits i (penab x s i).1).2=0):
  (pstep x s i).2=0∧Stp x s i (penab x s i).1 (pstep x s i).1:=by
  rw [step_eq hx hv hi h1 h2 h3,if_neg (fun h=>h h4)];obtain⟨n1,n2,n3⟩:=penab_ok h1 h2;have hm:=pnext_ok hx hi n1 n2;have hM:(penab x s i).1=(pnext x s i).1:=rfl;rw [hM] at h3 h4 ⊢;generalize hmm:(pnext x s i).1=m at*;obtain⟨t1,t2,-⟩:=ptook_ok hx hv hi hm;have hso:=sout_of (hx.stg hi).1;have hho:=(hio (hx.stg hi).2.kind).2.1;have hclosed: ∀ k:Nat,k<x.pipes.length→(pip x k).from_=i→(crd s k).closed=false:=fun k hk hf=>by
   rw [hv.closed k hk,hf];exact hm.en
  have hout': ∀ k:Nat,k<x.pipes.length→(pip x k).from_=i→(pip x k).output.toNat<m.sent.length:=fun k hk hf=>by
   have:=(hx.pip hk).out;rw [hf] at this;rw [hm.len];omega
  have hroom: ∀ k:Nat,k<x.pipes.length→(pip x k).from_=i→((m.sent.getD (pip x k).output.toNat default).length:Int)≤croom (crd s k):=fun k hk hf=>by
   have:=fits_of n3 (hout' k hk hf);have h5:=(hx.pip hk).out;have h6:=(hx.pip hk).outP;rw [hf] at h6;rw [show ((pip x k).output.toNat:Int)=(pip x k).output by omega,h6] at this;exact this
  refine⟨rfl,⟨hi,hm,⟨hmm.symm,n1,n2⟩,fun k hk hf=> ?_,fun k hk=> ?_,t2 h4,rfl,?_,rfl,fun h h5=>h3 ⟨h,by rw [h5];rfl⟩,rfl⟩⟩
  ·have:=hroom k hk hf;rwa [croom_of (hv.ok k hk) (hclosed k hk hf)] at this
  ·rw [crd_get];show (sendK x (ptook x s.credits i m).1 i m (sout (stg x i)).toNat).getD k default=_;rw [sendK_get hx hi ((ptook_len _ _ _ _).trans hv.lc) m _ (by omega) k hk,t1 h4 k hk];by_cases hf:(pip x k).from_=i
   ·have h5:=(hx.pip hk).out;rw [hf] at h5;have hnt: ¬ (m.takes=true∧(pip x k).to_=i∧(pip x k).input=m.inn):=fun h=>hx.loop hk (by rw [hf,h.2.1]);rw [if_pos ⟨hf,by omega⟩,if_pos hf,if_neg hnt];exact credU_of (hv.ok k hk) (hclosed k hk hf) (hout' k hk hf) (hroom k hk hf) hm.nums
   ·rw [if_neg (fun h=>hf h.1),if_neg hf]
  ·show (sendK x (ptook x s.credits i m).1 i m _).length=_;rw [sendK_len,ptook_len]
theorem pstep_stp {x:Pl} {s:Fs} (hx:Pok x) (hv:Pv x s) {i:Int} (h:(pstep x s i).2=0):Stp x s i (penab x s i).1 (pstep x s i).1:=by
  have h0:=h;unfold pstep at h0;rw [if_neg (fun h=>h (pvalid_of hx hv))] at h0;split at h0
  ·cases h0
  ·rename_i hw;have hi:0≤i∧i<x.stages.length:=by
    rw [Bool.not_eq_false,win_t] at hw;omega
   split at h0
   ·cases h0
   ·rename_i h1;split at h0
    ·rename_i h2;exact absurd h0 h2
    ·rename_i h2;split at h0
     ·cases h0
     ·rename_i h3;split at h0
      ·rename_i h4;exact absurd h0 h4
      ·rename_i h4;exact (step_stp hx hv hi (by simpa using h1) (Classical.not_not.1 h2) h3 (Classical.not_not.1 h4)).2
theorem Stp.sst {x:Pl} {s t:Fs} {i:Int} {m:Mv} (h:Stp x s i m t) (hv:Pv x s) (j:Int) (hj:0≤j∧j<x.stages.length):sst t j=if j=i then m.state else sst s j:=by
  have hi:=h.hi;have hl:=hv.ls;unfold Pn.sst;rw [h.st];by_cases e:j=i
  ·subst e;rw [if_pos rfl,getD_set' (by omega)]
  ·rw [if_neg e,List.getD,List.getElem?_set_ne (by omega)];rfl
theorem Stp.valid {x:Pl} {s t:Fs} {i:Int} {m:Mv} (hx:Pok x) (hv:Pv x s) (h:Stp x s i m t):Pv x t:=by
  have hi:=h.hi;have hm:=h.mv;have hclosed: ∀ k:Nat,k<x.pipes.length→(pip x k).from_=i→(crd s k).closed=false:=fun k hk hf=>by
   rw [hv.closed k hk,hf];exact hm.en
  have hnum: ∀ k:Nat,k<x.pipes.length→(pip x k).from_=i→ ∀ n∈m.sent.getD (pip x k).output.toNat default,num n=true:=fun k hk hf n hn=>by
   rw [List.getD] at hn;cases e:m.sent[(pip x k).output.toNat]? with
   |none=>rw [e] at hn;cases hn
   |some l=>rw [e] at hn;exact hm.nums l (List.mem_of_getElem? e) n hn
  refine⟨?_,by rw [h.lcr,hv.lc],?_,fun j hj=> ?_,fun l hl=> ?_,fun k hk=> ?_,fun k hk=> ?_,fun k hk=> ?_,fun k hk hc=> ?_,fun j hj n hn=> ?_⟩
  ·rw [h.st,List.length_set,hv.ls]
  ·rw [h.out];split
   ·rw [List.length_set];exact hv.lo
   ·exact hv.lo
  ·rw [h.sst hv j (by omega)];split
   ·rename_i e;rw [e];exact hm.need
   ·exact hv.need j hj
  ·rw [h.out] at hl;split at hl
   ·rename_i hc;rcases List.mem_or_eq_of_mem_set hl with h1|h1
    ·exact hv.outs l h1
    ·have hp:(s.outputs.getD (pout x s i) default).length≤200∧ ∀ n∈s.outputs.getD (pout x s i) default,num n=true:=by
      rw [List.getD];cases e:s.outputs[pout x s i]? with
      |none=>exact⟨Nat.zero_le _,fun n hn=>by cases hn⟩
      |some l=>exact hv.outs l (List.mem_of_getElem? e)
     have hf:=h.full hc;obtain⟨a,b,c,d,e⟩:=hm.takes hc.2;rw [h1];refine⟨by rw [List.length_append,List.length_singleton];omega,fun n hn=> ?_⟩;rcases List.mem_append.1 hn with h2|h2
     ·exact hp.2 n h2
     ·rw [List.mem_singleton.1 h2,d];have hnn:=(need_in (hv.need' hi) hm.en a).2;obtain⟨kk,hkk,hki,-,-⟩:=hx.inp hi (n:=pin x s i) hnn;have hcc:pcr x s i=crd s kk:=by unfold pcr;rw [show inP x i (pin x s i)=(kk:Int) from hki]
      rw [hcc] at c ⊢;rw [List.getD,List.getElem?_eq_getElem c,Option.getD_some];exact (hv.ok kk hkk).num _ (List.getElem_mem c)
   ·exact hv.outs l hl
  ·rw [h.cr k hk];split
   ·rename_i hf;exact sentC_ok _ (hv.ok k hk) (h.room k hk hf) (hnum k hk hf)
   ·split
    ·rename_i hc;exact (h.took k hk hc).2
    ·exact hv.ok k hk
  ·rw [h.cr k hk];split
   ·exact hv.cap k hk
   ·split
    ·exact hv.cap k hk
    ·exact hv.cap k hk
  ·rw [h.sst hv _ (hx.pip hk).fr,h.cr k hk];by_cases hf:(pip x k).from_=i
   ·rw [if_pos hf,if_pos hf];exact hm.ended
   ·rw [if_neg hf,if_neg hf];split
    ·exact hv.closed k hk
    ·exact hv.closed k hk
  ·rw [h.cr k hk] at hc ⊢;by_cases hf:(pip x k).from_=i
   ·rw [if_pos hf];exact hv.granted k hk (hclosed k hk hf)
   ·rw [if_neg hf] at hc ⊢;split
    ·rename_i h1;rw [if_pos h1] at hc;have hc':(crd s k).closed=false:=hc;have:=hv.granted k hk hc';show (if (crd s k).closed=true then (crd s k).granted else (crd s k).granted+1)=(crd s k).taken+1+(crd s k).capacity;rw [if_neg (by rw [hc'];decide)];omega
    ·rename_i h1;rw [if_neg h1] at hc;exact hv.granted k hk hc
  ·have hj':0≤(j:Int)∧(j:Int)<x.stages.length:=by omega
   rw [h.sst hv j hj'] at hn;have hgj:=(hx.stg hj').2;have hin:0≤n∧n<hin (stg x j).kind:=by
    split at hn
    ·rename_i e;rw [e] at hn ⊢;exact noted_in (hx.stg hi).2 (sneed_ok hm.need).2 n hn
    ·exact noted_in hgj (sneed_ok (hv.need j hj)).2 n hn
   obtain⟨k,hk,hki,hkt,hkn⟩:=hx.inp hj' hin;rw [hki];have hce:cended (crd s k)=true:=by
    split at hn
    ·rename_i e;rw [e] at hn hki;rcases hm.noted n hn with h1|h1
     ·have h2:=hv.noted i.toNat (by omega) n (by rw [Int.toNat_of_nonneg hi.1];exact h1);rw [Int.toNat_of_nonneg hi.1,hki] at h2;exact h2
     ·rw [hki] at h1;exact h1
    ·have h2:=hv.noted j hj n hn;rw [hki] at h2;exact h2
   rw [h.cr k hk];have hcc:=(cended_of (hv.ok k hk)).1 hce;rw [if_neg (fun hf=>by rw [hclosed k hk hf] at hcc;cases hcc.1),if_neg (fun hc=>by
    have:=(h.took k hk hc).1;rw [hcc.2] at this;cases this)]
   exact hce
end Pn
namespace Pn
def selM (l:List Int) (k n:Int):Int:=if l.length=0 then 0 else ((l.getD (k.tmod l.length).toNat default).tmod n+n).tmod n
theorem tmod_bd (a:Int) {n:Int} (hn:0<n): -n<a.tmod n∧a.tmod n<n:=by
  rcases Int.lt_or_le a 0 with h|h
  ·have h1:=Int.tmod_nonneg n (a:= -a) (by omega);have h2:=Int.tmod_lt_of_pos (-a) hn;rw [Int.neg_tmod] at h1 h2;omega
  ·have h1:=Int.tmod_nonneg n h;have h2:=Int.tmod_lt_of_pos a hn;omega
theorem selM_bd (l:List Int) (k:Int) {n:Int} (hn:0<n):0≤selM l k n∧selM l k n<n:=by
  unfold selM;split
  ·omega
  ·have h1:=tmod_bd (l.getD (k.tmod l.length).toNat default) hn;exact⟨Int.tmod_nonneg n (by omega),Int.tmod_lt_of_pos _ hn⟩
def runS (x:Pl) (l:List Int):Nat→Nat→Fs→List Int×Fs×Int
  |0,_,s=>([],s,0)
  |f+1,k,s=>
   if (penabled x s).2≠0∨(penabled x s).1.length=0 then ([],s,0)
   else
    let i:=(penabled x s).1.getD (selM l k (penabled x s).1.length).toNat default
    if (pstep x s i).2≠0 then ([],s,(pstep x s i).2)
    else (i::(runS x l f (k+1) (pstep x s i).1).1,(runS x l f (k+1) (pstep x s i).1).2)
def runI (x:Pl) (l:List Int) (k:Nat) (s:Fs):Int:=(penabled x s).1.getD (selM l k (penabled x s).1.length).toNat default
theorem runS_stop {x:Pl} {l:List Int} {f k:Nat} {s:Fs} (h:(penabled x s).2≠0∨(penabled x s).1.length=0):runS x l (f+1) k s=([],s,0):=by
  unfold runS;rw [if_pos h]
theorem runS_err {x:Pl} {l:List Int} {f k:Nat} {s:Fs} (h: ¬ ((penabled x s).2≠0∨(penabled x s).1.length=0)) (h2:(pstep x s (runI x l k s)).2≠0):runS x l (f+1) k s=([],s,(pstep x s (runI x l k s)).2):=by
  unfold runS;rw [if_neg h];dsimp only;unfold runI at h2;rw [if_pos h2];rfl
theorem runS_go {x:Pl} {l:List Int} {f k:Nat} {s:Fs} (h: ¬ ((penabled x s).2≠0∨(penabled x s).1.length=0)) (h2: ¬ (pstep x s (runI x l k s)).2≠0):runS x l (f+1) k s=(runI x l k s::(runS x l f (k+1) (pstep x s (runI x l k s)).1).1,(runS x l f (k+1) (pstep x s (runI x l k s)).1).2):=by
  conv=>lhs;unfold runS
  rw [if_neg h];dsimp only;unfold runI at h2;rw [if_neg h2];rfl
theorem runS_len (x:Pl) (l:List Int): ∀ (f k:Nat) (s:Fs),(runS x l f k s).1.length≤f
  |0,_,_=>Nat.le_refl _
  |f+1,k,s=>by
   by_cases h:(penabled x s).2≠0∨(penabled x s).1.length=0
   ·rw [runS_stop h];exact Nat.zero_le _
   ·by_cases h2:(pstep x s (runI x l k s)).2≠0
    ·rw [runS_err h h2];exact Nat.zero_le _
    ·rw [runS_go h h2];have:=runS_len x l f (k+1) (pstep x s (runI x l k s)).1;simp only [List.length_cons];omega
def prun (x:Pl) (s:Fs) (l:List Int) (n:Int):Fs×List Int×Int:=
  if pvalid x s≠0 then (F0,[],1)
  else if n<0∨10000<n then (F0,[],2)
  else if (runS x l n.toNat 0 s).2.2≠0 then (F0,[],(runS x l n.toNat 0 s).2.2)
  else ((runS x l n.toNat 0 s).2.1,(runS x l n.toNat 0 s).1,0)
def pbegin (x:Pl) (s:Fs):Fs×Int:=
  if pvalid x s≠0 then (F0,1) else if s.draining=true then (F0,17) else ({s with draining:=true},0)
def pfin (x:Pl) (s:Fs):Bool:=decide (pvalid x s=0) && !(s.stages.any fun t=> !t.ended)
def accK (x:Pl) (s:Fs) (n:Nat):List Int:=((List.range n).filter fun (i:Nat)=>decide ((stg x i).kind=1)).map fun (i:Nat)=>(sst s i).count
def pacc (x:Pl) (s:Fs):List Int×Int:=if pvalid x s≠0 then ([],1) else (accK x s x.stages.length,0)
theorem penabled_of {x:Pl} {s:Fs} (hx:Pok x) (hv:Pv x s):penabled x s=(enabL x s x.stages.length,0):=by
  unfold penabled;rw [if_neg (fun h=>h (pvalid_of hx hv))]
theorem enabL_mem {x:Pl} {s:Fs} {n:Nat} {i:Int}:i∈enabL x s n↔(0≤i∧i<n)∧(penab x s i).2=true:=by
  unfold enabL;rw [List.mem_map];constructor
  ·rintro⟨j,hj,rfl⟩;rw [List.mem_filter,List.mem_range] at hj;exact⟨⟨Int.natCast_nonneg _,by have:=hj.1;exact Int.ofNat_lt.2 this⟩,hj.2⟩
  ·rintro⟨h1,h2⟩;refine⟨i.toNat,List.mem_filter.2 ⟨List.mem_range.2 (by omega),?_⟩,Int.toNat_of_nonneg h1.1⟩;rw [Int.toNat_of_nonneg h1.1];exact h2
theorem runI_mem {x:Pl} {s:Fs} {l:List Int} {k:Nat} (h:(penabled x s).1.length≠0):runI x l k s∈(penabled x s).1:=by
  unfold runI;have hb:=selM_bd l k (n:=(penabled x s).1.length) (by omega);rw [List.getD,List.getElem?_eq_getElem (by omega),Option.getD_some];exact List.getElem_mem _
theorem runS_valid {x:Pl} (hx:Pok x) (l:List Int): ∀ (f k:Nat) (s:Fs),Pv x s→Pv x (runS x l f k s).2.1
  |0,_,s,h=>h
  |f+1,k,s,hv=>by
   by_cases h:(penabled x s).2≠0∨(penabled x s).1.length=0
   ·rw [runS_stop h];exact hv
   ·by_cases h2:(pstep x s (runI x l k s)).2≠0
    ·rw [runS_err h h2];exact hv
    ·rw [runS_go h h2];exact runS_valid hx l f (k+1) _ ((pstep_stp hx hv (Classical.not_not.1 h2)).valid hx hv)
theorem F0_sz:Fsz F0:=⟨Nat.zero_le _,Nat.zero_le _,Nat.zero_le _,(fun c hc=>by cases hc),(fun l hl=>by cases hl)⟩
theorem prun_sz (x:Pl) (s:Fs) (l:List Int) (n:Int):Fsz (prun x s l n).1:=by
  unfold prun;split
  ·exact F0_sz
  ·rename_i h;obtain⟨hx,hv⟩:=pvalid_ok (Classical.not_not.1 h);split
   ·exact F0_sz
   ·split
    ·exact F0_sz
    ·exact (runS_valid hx l _ 0 s hv).sz hx
theorem pbegin_sz {x:Pl} {s:Fs} (h:Fsz s):Fsz (pbegin x s).1:=by
  unfold pbegin;split
  ·exact F0_sz
  ·split
   ·exact F0_sz
   ·exact⟨h.st,h.cr,h.out,h.items,h.outs⟩
theorem cr0_of {c:Int} (h:1≤c∧c≤100):cr0 c=⟨c,c,0,0,[],false⟩:=by
  have h0:(cnew c).1=⟨c,0,0,0,[],false⟩:=by
   unfold cnew;rw [if_neg (by rw [Bool.not_eq_false,Sv.win_t];exact h)]
  have hk:Cok ⟨c,0,0,0,[],false⟩:=⟨h,Int.le_refl _,Int.le_refl _,Int.le_refl _,by show (0:Int)≤_;decide,by show (0:Int) - 0≤c;omega,rfl,fun n hn=>by cases hn⟩
  unfold cr0 creq perf;rw [h0,if_neg (fun h2=>h2 (cchk_ok.2 hk))];unfold reqC;rw [if_neg (by omega),if_neg (fun h=>by cases h),if_neg (by show ¬ (0:Int)+c - 0<c;omega),if_neg (by show ¬ (1099511627776:Int)<0+c;omega)];show (⟨c,0+c,0,0,[],false⟩:Cr)=_;rw [Int.zero_add]
theorem cr0_ok {c:Int} (h:1≤c∧c≤100):Cok (cr0 c):=by
  rw [cr0_of h];exact⟨h,Int.le_refl _,Int.le_refl _,by show (0:Int)≤c;omega,by show c≤_;omega,by show c - 0≤c;omega,rfl,fun n hn=>by cases hn⟩
theorem pnew_of {x:Pl} (hx:Pok x):pnew x=(⟨List.replicate x.stages.length S0,x.pipes.map (fun y=>cr0 y.capacity),List.replicate (snk x.stages).toNat [],false⟩,0):=by
  unfold pnew;rw [if_neg (fun h=>h (pchk_ok.2 hx))]
theorem pnew_crd {x:Pl} (hx:Pok x) {k:Nat} (hk:k<x.pipes.length):crd (pnew x).1 k=cr0 (pip x k).capacity:=by
  rw [pnew_of hx,crd_get];show (x.pipes.map _).getD k default=_;rw [List.getD,List.getElem?_map,List.getElem?_eq_getElem hk,pip_get hk];rfl
theorem pnew_sst {x:Pl} (hx:Pok x) {i:Int} (hi:0≤i∧i<x.stages.length):sst (pnew x).1 i=S0:=by
  rw [pnew_of hx];unfold sst;show (List.replicate _ S0).getD _ default=_;rw [List.getD,List.getElem?_replicate,if_pos (by omega)];rfl
theorem S0_sval {y:Sg} (h:sgchk y=0):sval y S0=true:=by
  have hy:=sgchk_ok h;have hb:=sbnd_bd hy;refine sval_mk ⟨Int.le_refl _,hb.1.1⟩ ?_ (fun n hn=>by cases hn) (fun _ h=>by cases h) (fun _=>⟨by decide,by decide⟩) (fun _=>⟨by decide,.inl (by decide)⟩);show (0:Int)≤(sbnd y).2;by_cases h4:y.kind=4
  ·rw [(sbnd_k y).2.2.2.1 h4];have:=hy.size;have hl:hleast y.kind=1:=by rw [h4];rfl
   show (0:Int)≤y.size - 1;omega
  ·unfold sbnd;repeat' split
   all_goals first|exact Int.le_refl 0|decide| (exfalso;omega)
theorem pnew_valid {x:Pl} (hx:Pok x):Pv x (pnew x).1:=by
  have e:=pnew_of hx;have hsn:=snk_bd x.stages;have hS: ∀ y,notedM y S0=[]:=fun y=>by
   unfold notedM;split
   ·rfl
   ·split
    ·rfl
    ·rw [if_neg (fun h=>by cases h.2)]
  refine⟨by rw [e];exact List.length_replicate,by rw [e];exact List.length_map ..,by rw [e];show ((List.replicate _ _).length:Int)=_;rw [List.length_replicate];omega,fun i hi=> ?_,fun l hl=> ?_,fun k hk=> ?_,fun k hk=> ?_,fun k hk=> ?_,fun k hk hc=> ?_,fun i hi n hn=> ?_⟩
  ·have hi':0≤(i:Int)∧(i:Int)<x.stages.length:=by omega
   rw [pnew_sst hx hi'];exact sneed_of (hx.stg hi').1 (S0_sval (hx.stg hi').1)
  ·rw [e] at hl;have:=(List.mem_replicate.1 hl).2;subst this;exact⟨Nat.zero_le _,fun n hn=>by cases hn⟩
  ·rw [pnew_crd hx hk];exact cr0_ok (hx.pip hk).cap
  ·rw [pnew_crd hx hk,cr0_of (hx.pip hk).cap]
  ·rw [pnew_crd hx hk,cr0_of (hx.pip hk).cap,pnew_sst hx (hx.pip hk).fr];rfl
  ·rw [pnew_crd hx hk,cr0_of (hx.pip hk).cap];show (pip x k).capacity=0+(pip x k).capacity;omega
  ·rw [pnew_sst hx (by omega),hS] at hn;cases hn
theorem pnew_sz (x:Pl):Fsz (pnew x).1:=by
  by_cases h:pchk x=0
  ·exact (pnew_valid (pchk_ok.1 h)).sz (pchk_ok.1 h)
  ·unfold pnew;rw [if_pos h];exact F0_sz
end Pn
namespace Pn
theorem accK_t {x:Pl} {s:Fs} {k:Nat} (h:(stg x (k:Int)).kind=1):accK x s k++[(sst s (k:Int)).count]=accK x s (k+1):=by
  unfold accK;rw [List.range_succ,List.filter_append,List.map_append];simp [h]
theorem accK_f {x:Pl} {s:Fs} {k:Nat} (h: ¬ (stg x (k:Int)).kind=1):accK x s k=accK x s (k+1):=by
  unfold accK;rw [List.range_succ,List.filter_append,List.map_append];simp [h]
theorem accK_len (x:Pl) (s:Fs) (k:Nat):(accK x s k).length≤k:=by
  unfold accK;rw [List.length_map];exact Nat.le_trans (List.length_filter_le _ _) (by simp)
end Pn
set_option maxRecDepth 10000
namespace Go.Proofs
open Go.Aw Wl Pn
def encRun (z:Pn.Pl) (s:Pn.Fs) (e:Int):List AV:=[.sl 8 (z.stages.map encSg),.sl 5 (z.pipes.map encPp),.sl 3 (s.stages.map encSt),.sl 6 (s.credits.map encCr),.sl 1 (s.outputs.map encLI),.bool s.draining,.int e]
theorem perm_seq {α:Type} (a b c d:α) (I:List α):(a::b::c::d::I).Perm ((I++[a,c,d])++[b]):=by
  rw [List.append_assoc];refine List.Perm.trans ?_ (List.perm_append_comm (l₁:=[a,c,d]++[b]));exact List.Perm.cons a ((List.Perm.swap c b (d::I)).trans (List.Perm.cons c (List.Perm.swap d b I)))
theorem perm_seq2 {α:Type} (a b c d:α) (I:List α):((I++[a,c,d])++[b]).Perm (a::b::c::d::I):=(perm_seq a b c d I).symm
theorem dval_c (z:Pn.Pl) (s:Pn.Fs) (hz:z.stages.length≤1000000∧z.pipes.length≤1000000) (hs:Pn.Fsz s):ACalls Tryz.prog 23 [(AV.agg (encPl z)),(AV.agg (encFs s))] [] (fun v st=>v=(AV.bool (decide (Pn.pvalid z s=0)))∧st=[]):=by
  refine acalls_body Tryz.func23 (by kernel_rfl) rfl Tryz.ntmps23 (le_ rfl) ?_;rw [Tryz.results23];refine asr ?_;refine sB fun n1=> ?_;refine sB fun n2=> ?_;refine sA ?_;refine aops_nil ?_;refine asr ?_;refine sW k1 ?_;refine sW .here ?_;refine aops_call (blt_lt rfl) (.plain rfl) (.cons (.imp (.plain rfl) (AV.Imp.agg (RowOf.imp (enc:=encPl)))) (.cons (.imp (.plain rfl) (AV.Imp.agg (RowOf.imp (enc:=encFs)))) .nil)) (ACalls.here (pvalid_c z s hz hs) ?_);refine sQ ?_;refine sA ?_;refine aops_nil ?_;refine awp_ret ?_;refine retG (.inr rfl) (.cons (.tmp rfl) .nil) (VShift.of1 (AV.Imp.refl _) (.nil _)) ⟨congrArg (fun x:(Bool)=>(AV.bool x)) (show _=(decide (Pn.pvalid z s=0)) from ?_),rfl⟩;rfl
theorem begin2_c (z:Pn.Pl) (s:Pn.Fs) (hz:z.stages.length≤1000000∧z.pipes.length≤1000000) (hs:Pn.Fsz s):ACalls Tryz.prog 8 [(AV.agg (encPl z)),(AV.agg (encFs s))] [] (fun v st=>v=(AV.tup [(AV.agg (encFs ((Pn.pbegin z s).1))),(AV.int ((Pn.pbegin z s).2))])∧st=[]):=by
  refine acalls_body Tryz.func8 (by kernel_rfl) rfl Tryz.ntmps8 (le_ rfl) ?_;rw [Tryz.results8];refine asr ?_;refine sB fun n1=> ?_;refine sB fun n2=> ?_;refine sC fun n3=> ?_;refine sA ?_;refine aops_nil ?_;refine awp_seq ?_;refine awp_block ?_;refine asr ?_;refine sW k2 ?_;refine sW k1 ?_;refine aops_call (blt_lt rfl) (.plain rfl) (.cons (.imp (.plain rfl) (AV.Imp.agg (RowOf.imp (enc:=encPl)))) (.cons (.imp (.plain rfl) (AV.Imp.agg (RowOf.imp (enc:=encFs)))) .nil)) (ACalls.here (dval_c z s hz hs) ?_);refine sO ?_;refine sA ?_;refine aops_nil ?_;refine awp_cond rfl (fun h1=> ?_) (fun h1=> ?_)
  ·simp only [nf] at h1;refine asr ?_;refine st_p (fun _=>by exact y_build (out:=[_,_,_,_]) .nil rfl rfl) rfl ?_;refine st_s (fun _=>by exact y_storeW (by rfl) rfl (.plain rfl) (.plain rfl) (by exact .here) (by rfl)) ?_;refine sA ?_;refine aops_nil ?_;refine awp_ret ?_;refine retG (.inr rfl) (.cons (res_cellW rfl (by exact .here) (by rfl)) (.cons (.tmp rfl) .nil)) (VShift.of2 (AV.Imp.tup (.cons (AV.Imp.agg (RowOf.imp (enc:=encFs))) (.cons (AV.Imp.refl _) .nil))) (.nil _)) ⟨congrArg (fun x:(Pn.Fs)×(Int)=>(AV.tup [(AV.agg (encFs x.1)),(AV.int x.2)])) (show (_,_)=(Pn.pbegin z s) from ?_),rfl⟩;rw [Pn.pbegin,if_pos (by simpa using h1)];all_goals rfl
  ·simp only [nf] at h1;refine asr ?_;refine sF ?_;refine sL k1 ?_;refine sA ?_;refine aops_nil ?_;refine awp_cond rfl (fun h2=> ?_) (fun h2=> ?_)
   ·refine asr ?_;refine st_p (fun _=>by exact y_build (out:=[_,_,_,_]) .nil rfl rfl) rfl ?_;refine st_s (fun _=>by exact y_storeW (by rfl) rfl (.plain rfl) (.plain rfl) (by exact .here) (by rfl)) ?_;refine sA ?_;refine aops_nil ?_;refine awp_ret ?_;refine retG (.inr rfl) (.cons (res_cellW rfl (by exact .here) (by rfl)) (.cons (.tmp rfl) .nil)) (VShift.of2 (AV.Imp.tup (.cons (AV.Imp.agg (RowOf.imp (enc:=encFs))) (.cons (AV.Imp.refl _) .nil))) (.nil _)) ⟨congrArg (fun x:(Pn.Fs)×(Int)=>(AV.tup [(AV.agg (encFs x.1)),(AV.int x.2)])) (show (_,_)=(Pn.pbegin z s) from ?_),rfl⟩;rw [Pn.pbegin,if_neg (by simpa using h1),if_pos (by assumption)];all_goals rfl
   ·refine awp_skip ?_;refine asr ?_;refine sF ?_;refine st_storeN (cs':=[_,_,_,_]) (by rfl) rfl (.plain rfl) (.plain rfl) (by exact u1) (le_ rfl) (by rfl) ?_;refine aops_nil ?_;refine asr ?_;refine sW k1 ?_;refine st_s (fun _=>by exact y_storeW (by rfl) rfl (.plain rfl) (.plain rfl) (by exact .here) (by rfl)) ?_;refine sA ?_;refine aops_nil ?_;refine awp_ret ?_;refine retG (.inr rfl) (.cons (res_cellW rfl (by exact .here) (by rfl)) (.cons (.tmp rfl) .nil)) (VShift.of2 (AV.Imp.tup (.cons (AV.Imp.agg (RowOf.imp (enc:=encFs))) (.cons (AV.Imp.refl _) .nil))) (.nil _)) ⟨congrArg (fun x:(Pn.Fs)×(Int)=>(AV.tup [(AV.agg (encFs x.1)),(AV.int x.2)])) (show (_,_)=(Pn.pbegin z s) from ?_),rfl⟩;rw [Pn.pbegin,if_neg (by simpa using h1),if_neg (by simp_all)];all_goals rfl
theorem notend_c (t:Pn.Ss):ACalls Tryz.prog 33 [.agg (encSt t)] [] (fun v st=>v= .bool (!t.ended)∧st=[]):=by
  refine acalls_body Tryz.func33 (by kernel_rfl) rfl Tryz.ntmps33 (le_ rfl) ?_;rw [Tryz.results33];refine asr ?_;refine sB fun n1=> ?_;refine sA ?_;refine aops_nil ?_;refine asr ?_;refine sF ?_;refine sL .here ?_;refine sO ?_;refine sA ?_;refine aops_nil ?_;refine awp_ret ?_;exact retG (.inr rfl) (.cons (.tmp rfl) .nil) (VShift.of2 (AV.Imp.refl _) (.nil _)) ⟨rfl,rfl⟩
theorem indexFSt_c (l:List Pn.Ss) (hl:l.length≤1000000) (f:Nat) (caps:List AV) (p:Pn.Ss→Bool) (st0:List Aw.Item) (h: ∀ w∈l,ACalls Tryz.prog f ([.agg (encSt w)]++caps) st0 (fun v st=>v= .bool (p w)∧st=st0)):ACalls Tryz.prog 68 [.sl 3 (l.map encSt),.clo f caps] st0 (fun v st=>v= .int (idxF p l)∧st=st0):=by
  refine acalls_body Tryz.func68 (by kernel_rfl) rfl Tryz.ntmps68 (le_ rfl) ?_;rw [Tryz.results68];refine asr ?_;refine sA ?_;refine aops_nil ?_;refine awp_seq ?_;refine asr ?_;refine sM ?_;refine sN ?_;refine sM ?_;refine aops_nil ?_;refine awp_block ?_;refine awp_loop2 (X:=Nat) [0,1,7] (.cons rfl (.cons rfl (.cons rfl .nil))) (fun σ x=>((8,.int (x:Int)):Nat×AV)::σ) (fun R x=>R) (fun x=>x≤l.length∧(∀ i (h:i<l.length),i<x→p l[i]=false)) (fun x=>l.length - x) 0 (by exact Weak.of2 (by (repeat (first|exact .nil _|refine .cons rfl (by exact AV.Imp.refl _) ?_));done) (by (repeat (exact .refl _));done)) ⟨Nat.zero_le _,by omega⟩ ?_;rintro k ⟨hk,hinv⟩;refine asr ?_;refine sS ?_;refine aops_nil ?_;refine awp_seq ?_;refine awp_cond rfl (fun h1=> ?_) (fun h1=> ?_)
  ·simp only [nf] at h1;refine awp_skip ?_;refine awp_seq ?_;refine awp_block ?_;refine asr ?_;refine sM ?_;refine sA ?_;refine aops_nil ?_;refine asr ?_;refine sM ?_;refine sM ?_;refine sM ?_;refine st_p (fun _=>by exact y_indexMap (.plain rfl) (.plain rfl) rfl (by refine⟨?_,?_⟩;(omega);rfl)) rfl ?_;refine sV ?_;refine aops_call (blt_lt rfl) (.plain rfl) (.cons (.plain rfl) .nil) ((h l[k] (List.getElem_mem h1)).mono ?_);rintro v st ⟨rfl,rfl⟩;refine aops_nil ?_;refine awp_cond rfl (fun h2=> ?_) (fun h2=> ?_)
   ·refine asr ?_;refine sM ?_;refine sA ?_;refine aops_nil ?_;refine awp_ret ?_;exact retG (.inr rfl) (.cons (.tmp rfl) .nil) VShift.refl ⟨by rw [idxF_at p l k h1 h2 hinv];rfl,rfl⟩
   ·refine awp_skip ?_;refine awp_region ?_;refine sY ?_ (hb:=by omega);refine sM ?_;refine aops_nil ?_;refine⟨k+1,?_,?_,Weak.of2 (by (repeat (first|exact .nil _|refine .cons rfl (by exact AV.Imp.refl _) ?_));done) (by (repeat (exact .refl _));done)⟩
    ·refine⟨by omega,?_⟩;intro i hi hik;by_cases e:i=k
     ·subst e;exact h2
     ·exact hinv i hi (by omega)
    ·omega
  ·simp only [nf] at h1;refine awp_exit ?_;refine asr ?_;refine sA ?_;refine aops_nil ?_;refine awp_ret ?_;exact retG (.inr rfl) (.cons (.tmp rfl) .nil) VShift.refl ⟨by rw [idxF_no p l (fun i hi=>hinv i hi (by omega))];rfl,rfl⟩
theorem containsFSt_c (l:List Pn.Ss) (hl:l.length≤1000000) (f:Nat) (caps:List AV) (p:Pn.Ss→Bool) (st0:List Aw.Item) (h: ∀ w∈l,ACalls Tryz.prog f ([.agg (encSt w)]++caps) st0 (fun v st=>v= .bool (p w)∧st=st0)):ACalls Tryz.prog 32 [.sl 3 (l.map encSt),.clo f caps] st0 (fun v st=>v= .bool (l.any p)∧st=st0):=by
  refine acalls_body Tryz.func32 (by kernel_rfl) rfl Tryz.ntmps32 (le_ rfl) ?_;rw [Tryz.results32];refine asr ?_;refine sA ?_;refine aops_nil ?_;refine asr ?_;refine sM ?_;refine sM ?_;refine aops_call (blt_lt rfl) (.plain rfl) (.cons (.plain rfl) (.cons (.plain rfl) .nil)) ((indexFSt_c l hl f caps p st0 h).mono ?_);rintro v st ⟨rfl,rfl⟩;refine st_p (fun _=>by exact y_geq (.plain rfl) (.plain rfl)) rfl ?_;refine sA ?_;refine aops_nil ?_;refine awp_ret ?_;exact retG (.inr rfl) (.cons (.tmp rfl) .nil) VShift.refl ⟨by rw [←idxF_any];rfl,rfl⟩
theorem fin_c (z:Pn.Pl) (s:Pn.Fs) (hz:z.stages.length≤1000000∧z.pipes.length≤1000000) (hs:Pn.Fsz s):ACalls Tryz.prog 15 [(AV.agg (encPl z)),(AV.agg (encFs s))] [] (fun v st=>v=(AV.bool (Pn.pfin z s))∧st=[]):=by
  refine acalls_body Tryz.func15 (by kernel_rfl) rfl Tryz.ntmps15 (le_ rfl) ?_;rw [Tryz.results15];refine asr ?_;refine sB fun n1=> ?_;refine sB fun n2=> ?_;refine sA ?_;refine aops_nil ?_;refine asr ?_;refine sW k1 ?_;refine sW .here ?_;refine aops_call (blt_lt rfl) (.plain rfl) (.cons (.imp (.plain rfl) (AV.Imp.agg (RowOf.imp (enc:=encPl)))) (.cons (.imp (.plain rfl) (AV.Imp.agg (RowOf.imp (enc:=encFs)))) .nil)) (ACalls.here (dval_c z s hz hs) ?_);refine sM ?_;refine gF ?_;refine gL0 .here ?_;refine st_g rfl rfl rfl SaysI.out (fun hc _=>by exact y_call (.plain rfl) (.cons (.opt rfl hc) (.cons (.imp (.plain rfl) Fun.imp) .nil)) (ACalls.pure (containsFSt_c s.stages hs.st 33 [] (fun t=> !t.ended) [] (fun t _=>notend_c t)))) rfl ?_;refine gO0 ?_;refine sJ ?_;refine sA ?_;refine aops_nil ?_;refine awp_ret ?_;refine retG (.inr rfl) (.cons (.tmp rfl) .nil) (VShift.of1 (AV.Imp.refl _) (.nil _)) ⟨congrArg (fun x:(Bool)=>(AV.bool x)) (show _=(Pn.pfin z s) from ?_),rfl⟩;rfl
theorem acc_c (z:Pn.Pl) (s:Pn.Fs) (hz:z.stages.length≤1000000∧z.pipes.length≤1000000) (hs:Pn.Fsz s):ACalls Tryz.prog 11 [(AV.agg (encPl z)),(AV.agg (encFs s))] [] (fun v st=>v=(AV.tup [(AV.sl 1 (List.map Go.Aw.encI ((Pn.pacc z s).1))),(AV.int ((Pn.pacc z s).2))])∧st=[]):=by
  refine acalls_body Tryz.func11 (by kernel_rfl) rfl Tryz.ntmps11 (le_ rfl) ?_;rw [Tryz.results11];refine asr ?_;refine sB fun n1=> ?_;refine sB fun n2=> ?_;refine sA ?_;refine sA ?_;refine aops_nil ?_;refine awp_seq ?_;refine asr ?_;refine sW k1 ?_;refine sW .here ?_;refine aops_call (blt_lt rfl) (.plain rfl) (.cons (.imp (.plain rfl) (AV.Imp.agg (RowOf.imp (enc:=encPl)))) (.cons (.imp (.plain rfl) (AV.Imp.agg (RowOf.imp (enc:=encFs)))) .nil)) (ACalls.here (dval_c z s hz hs) ?_);refine sO ?_;refine aops_nil ?_;refine awp_cond rfl (fun h1=> ?_) (fun h1=> ?_)
  ·simp only [nf] at h1;refine asr ?_;refine sA ?_;refine sA ?_;refine aops_nil ?_;refine awp_ret ?_;refine retG (.inr rfl) (.cons (.tmp rfl) (.cons (.tmp rfl) .nil)) (VShift.of2 (AV.Imp.tup (.cons (Sl.imp (enc:=Go.Aw.encI)) (.cons (AV.Imp.refl _) .nil))) (.nil _)) ⟨congrArg (fun x:(List (Int))×(Int)=>(AV.tup [(AV.sl 1 (List.map Go.Aw.encI x.1)),(AV.int x.2)])) (show (_,_)=(Pn.pacc z s) from ?_),rfl⟩;rw [Pn.pacc,if_pos (show Pn.pvalid z s≠0 by simpa using h1)];all_goals rfl
  ·simp only [nf] at h1;refine awp_skip ?_;refine asr ?_;refine sA ?_;refine aops_nil ?_;refine awp_seq ?_;refine awp_seq ?_;have hok:=Pn.pvalid_ok (show Pn.pvalid z s=0 by simpa using h1);have hls:=hok.2.ls;have hxn:=hok.1.n;refine awp_region ?_;refine sF ?_;refine sL k1 ?_;refine sN ?_;refine sM ?_;refine aops_nil ?_;refine awp_block ?_;refine awp_loop2 (X:=Nat×Option Nat) [3,14,15] (.cons rfl (.cons rfl (.cons rfl .nil))) (fun σ x=>((6,.grow 1 x.2 ((Pn.accK z s x.1).map Go.Aw.encI)):Nat×AV)::((16,.int (x.1:Int)):Nat×AV)::σ) (fun R x=> .tail x.2::R) (fun x=>x.1≤z.stages.length) (fun x=>z.stages.length - x.1) (0,none) (by exact Weak.of2 (by (repeat (first|exact .nil _|refine .cons rfl (by first|exact AV.Imp.refl _|exact AV.Imp.nil_grow) ?_));done) (by (repeat (first|exact .refl _|apply ItLe2.tail0));done)) (Nat.zero_le _) ?_;rintro⟨k,tok⟩ hk;simp only at hk;dsimp only;refine asr ?_;refine sS ?_;refine aops_nil ?_;refine awp_seq ?_;refine awp_cond rfl (fun h2=> ?_) (fun h2=> ?_)
   ·simp only [nf] at h2;have hkl:k<z.stages.length:=by omega
    refine awp_skip ?_;refine awp_seq ?_;refine awp_block ?_;refine asr ?_;refine sM ?_;refine st_p (fun _=>by exact y_indexMap (.plain rfl) (.plain rfl) rfl (by refine⟨?_,?_⟩;(omega);rfl)) rfl ?_;refine sV ?_;refine sC fun n3=> ?_;refine sA ?_;refine st_s (fun _=>by exact y_storeW (by rfl) rfl (.plain rfl) (.plain rfl) (by exact .here) (by rfl)) ?_;refine aops_nil ?_;refine awp_seq ?_;have hgs:Pn.stg z (k:Int)=z.stages[k]:=by unfold Pn.stg;rw [List.getD,Int.toNat_natCast,List.getElem?_eq_getElem hkl,Option.getD_some]
    have hgt:Pn.sst s (k:Int)=s.stages[k]'(by omega):=by unfold Pn.sst;rw [List.getD,Int.toNat_natCast,List.getElem?_eq_getElem (by omega),Option.getD_some]
    have hal:=Pn.accK_len z s k;refine awp_region ?_;refine sF ?_;refine sL .here ?_;refine sQ ?_;refine aops_nil ?_;refine awp_cond rfl (fun h3=> ?_) (fun h3=> ?_)
    ·simp only [nf] at h3;have hk1:(Pn.stg z (k:Int)).kind=1:=by rw [hgs];exact h3
     refine awp_region ?_;refine sM ?_;refine sF ?_;refine sL k2 ?_;refine sM ?_;refine st_p (fun _=>by exact y_indexMap (.plain rfl) (.plain rfl) rfl (by refine⟨?_,?_⟩;(omega);rfl)) rfl ?_;refine st_p (fun _=>by exact y_fieldE (.plain rfl) (le_ rfl)) rfl ?_;refine sU ?_;refine st_p (fun _=>by exact y_buildSlice (.cons (.plain rfl) inferInstance (by rfl) .nil) rfl (le_ rfl)) rfl ?_;refine st_appendT (by rfl) (.plain rfl) (.plain rfl) (by exact k1) (by (simp;try omega)) rfl fun tA=> ?_;refine sA ?_;refine aops_nil ?_;refine awp_region ?_;refine sY ?_ (hb:=by omega);refine sM ?_;refine aops_nil ?_;refine⟨(k+1,tA),by show k+1≤_;omega,by show z.stages.length - (k+1)<z.stages.length - k;omega,?_⟩;dsimp only;exact Weak.of2 (by (repeat (first|exact .nil _|refine .cons rfl (by first|exact AV.Imp.refl _|exact AV.Imp.grow_of (by rw [←hgt];exact Pn.accK_t hk1)) ?_));done) (by (repeat (first|exact .nil _|apply ItLe2.cons (by first|exact .here|exact k1)));done)
    ·simp only [nf] at h3;have hk1: ¬ (Pn.stg z (k:Int)).kind=1:=by rw [hgs];exact h3
     refine awp_skip ?_;refine awp_region ?_;refine sY ?_ (hb:=by omega);refine sM ?_;refine aops_nil ?_;refine⟨(k+1,tok),by show k+1≤_;omega,by show z.stages.length - (k+1)<z.stages.length - k;omega,?_⟩;dsimp only;exact Weak.of2 (by (repeat (first|exact .nil _|refine .cons rfl (by first|exact AV.Imp.refl _|exact AV.Imp.grow_of (Pn.accK_f hk1)) ?_));done) (by (repeat (first|exact .nil _|apply ItLe2.cons (by exact k1)));done)
   ·simp only [nf] at h2;refine awp_exit ?_;refine asr ?_;refine sM ?_;refine sA ?_;refine sA ?_;refine aops_nil ?_;refine awp_ret ?_;refine retG (.inr rfl) (.cons (.tmp rfl) (.cons (.tmp rfl) .nil)) (VShift.of2 (AV.Imp.tup (.cons (Sl.imp (enc:=Go.Aw.encI)) (.cons (AV.Imp.refl _) .nil))) (.nil _)) ⟨congrArg (fun x:(List (Int))×(Int)=>(AV.tup [(AV.sl 1 (List.map Go.Aw.encI x.1)),(AV.int x.2)])) (show (_,_)=(Pn.pacc z s) from ?_),rfl⟩;obtain rfl:k=z.stages.length:=by omega
    rw [Pn.pacc,if_neg (show ¬ Pn.pvalid z s≠0 by simpa using h1)];all_goals rfl
theorem selmk_c (l:List Int):ACalls Tryz.prog 26 [.sl 1 (l.map Go.Aw.encI)] [] (fun v st=> ∃ q,v= .clo 50 [.ptr q 0]∧st=[.cells q [.sl 1 (l.map Go.Aw.encI)]]):=by
  refine acalls_body Tryz.func26 (by kernel_rfl) rfl Tryz.ntmps26 (le_ rfl) ?_;rw [Tryz.results26];refine asr ?_;refine sB fun n1=> ?_;refine sA ?_;refine aops_nil ?_;refine asr ?_;refine st_p (fun _=>by exact y_makeFunc (.cons (.plain rfl) .nil)) rfl ?_;refine sA ?_;refine aops_nil ?_;refine awp_ret ?_;exact retG (.inr rfl) (.cons (.tmp rfl) .nil) VShift.refl ⟨n1,rfl,rfl⟩
theorem sel_c (q:Nat) (l:List Int) (hl:l.length≤1000000) (k n:Int) (hk:0≤k∧k≤1000000) (hn:0<n∧n≤1000000):ACalls Tryz.prog 50 [.int k,.int n,.ptr q 0] [.cells q [.sl 1 (l.map Go.Aw.encI)]] (fun v st=>v= .int (Pn.selM l k n)∧st=[.cells q [.sl 1 (l.map Go.Aw.encI)]]):=by
  refine acalls_body Tryz.func50 (by kernel_rfl) rfl Tryz.ntmps50 (le_ rfl) ?_;rw [Tryz.results50];refine asr ?_;refine sA ?_;refine aops_nil ?_;refine awp_seq ?_;refine asr ?_;refine sL .here ?_;refine sN ?_;refine sQ ?_;refine aops_nil ?_;refine awp_cond rfl (fun h1=> ?_) (fun h1=> ?_)
  ·simp only [nf] at h1;refine asr ?_;refine sA ?_;refine aops_nil ?_;refine awp_ret ?_;exact retG (.inr rfl) (.cons (.tmp rfl) .nil) VShift.refl ⟨by rw [Pn.selM,if_pos (by omega)];rfl,rfl⟩
  ·simp only [nf] at h1;refine awp_skip ?_;refine awp_seq ?_;have hl0:0<l.length:=by omega
   have hb1:=Pn.tmod_bd k (n:=l.length) (by omega);have hb0:=Int.tmod_nonneg (l.length:Int) hk.1;have hb2:=Pn.tmod_bd (l.getD (k.tmod l.length).toNat default) hn.1;refine awp_any0 (ks:=[.free,.free,.free,.free,.free,.free,.free,.free,.free,.free,.free,.free,.free,.free]) (by kernel_rfl) (fun K=> ?_) ?_
   ·refine rL .here ?_;refine rM ?_;refine rL .here ?_;refine rN ?_;refine dr_p (fun _=>by exact y_rem (.plain rfl) (.plain rfl) (by omega)) rfl ?_;refine dr_p (fun _=>by exact y_indexT (l:=l) (.plain rfl) (.plain rfl) (by omega) (by omega)) rfl ?_;refine rU ?_;refine rM ?_;refine dr_p (fun _=>by exact y_rem (.plain rfl) (.plain rfl) (by omega)) rfl ?_;refine rM ?_;refine rY ?_ (hb:=by omega);refine rM ?_;refine dr_p (fun _=>by exact y_rem (.plain rfl) (.plain rfl) (by omega)) rfl ?_;refine rA ?_;refine dr_nil ⟨rfl,?_⟩;refine awp_ret ?_;exact retG (.inr rfl) (.cons (.tmp rfl) .nil) (VShift.of2 (AV.Imp.refl _) (by (repeat (exact .refl _));done)) ⟨by rw [Pn.selM,if_neg (by omega)];rfl,rfl⟩
   ·kernel_rfl
theorem stepsmk_c (r q:Nat) (most:Int):ACalls Tryz.prog 25 [.ptr r 0,.int most,.clo 50 [.ptr q 0]] [] (fun v st=> ∃ a b c,v= .clo 47 [.ptr a 0,.ptr b 0,.ptr c 0]∧st=[.cells a [.int most],.cells b [.ptr r 0],.cells c [.clo 50 [.ptr q 0]]]):=by
  refine acalls_body Tryz.func25 (by kernel_rfl) rfl Tryz.ntmps25 (le_ rfl) ?_;rw [Tryz.results25];refine asr ?_;refine sB fun nb=> ?_;refine sB fun na=> ?_;refine sB fun nc=> ?_;refine sA ?_;refine aops_nil ?_;refine asr ?_;refine st_p (fun _=>by exact y_makeFunc (.cons (.plain rfl) (.cons (.plain rfl) (.cons (.plain rfl) .nil)))) rfl ?_;refine sA ?_;refine aops_nil ?_;refine awp_ret ?_;exact retG (.inr rfl) (.cons (.tmp rfl) .nil) (VShift.of2 (AV.Imp.refl _) (by (repeat (first|exact .refl _|apply ItLe2.cons (by exact k1)));done)) ⟨na,nb,nc,rfl,rfl⟩
end Go.Proofs
set_option maxRecDepth 10000
namespace Go.Proofs
open Go.Aw Wl Pn
theorem stepsK_c (z:Pn.Pl) (hx:Pn.Pok z) (s0:Pn.Fs) (hv0:Pn.Pv z s0) (l:List Int) (hl:l.length≤1000000) (most:Nat) (hm:most≤100000) (a b c q r:Nat) (yv:AV) (SP:Nat→List Aw.Item→Prop) (st0:List Aw.Item) (h0:SP 0 st0) (h: ∀ k (hk:k<(Pn.runS z l most 0 s0).1.length) st,SP k st→AYields Tryz.prog yv [.int (Pn.runS z l most 0 s0).1[k]] st (fun v st'=>v= .bool true∧SP (k+1) st')):ACalls Tryz.prog 47 [yv,.ptr a 0,.ptr b 0,.ptr c 0] (.cells a [.int (most:Int)]:: .cells b [.ptr r 0]:: .cells c [.clo 50 [.ptr q 0]]:: .cells q [.sl 1 (l.map Go.Aw.encI)]:: .cells r (encRun z s0 0):: st0) (fun v st=> ∃ stx,st=(.cells a [.int (most:Int)]:: .cells b [.ptr r 0]:: .cells c [.clo 50 [.ptr q 0]]:: .cells q [.sl 1 (l.map Go.Aw.encI)]:: .cells r (encRun z (Pn.runS z l most 0 s0).2.1 (Pn.runS z l most 0 s0).2.2):: stx)∧SP (Pn.runS z l most 0 s0).1.length stx):=by
  refine acallsX_body Tryz.func47 (by kernel_rfl) rfl Tryz.ntmps47 (le_ rfl) ?_;rw [Tryz.results47];have hxn:=hx.n;have hxp:=hx.np;refine awx_seq ?_;refine awx_region rfl ?_;refine sL .here ?_;refine sM ?_;refine aops_nil ?_;refine awx_block ?_;refine awx_loop2 (X:=Nat×Pn.Fs×List Aw.Item) (rest:=[]) [0,2,3,10] (.cons rfl (.cons rfl (.cons rfl (.cons rfl .nil)))) (fun σ x=>((11,.int (x.1:Int)):Nat×AV)::σ) (fun R x=> .cells a [.int (most:Int)]:: .cells b [.ptr r 0]:: .cells c [.clo 50 [.ptr q 0]]:: .cells q [.sl 1 (l.map Go.Aw.encI)]:: .cells r (encRun z x.2.1 0)::x.2.2) (fun x=>x.1≤most∧Pn.Pv z x.2.1∧((Pn.runS z l most 0 s0).1.drop x.1=(Pn.runS z l (most - x.1) x.1 x.2.1).1∧(Pn.runS z l most 0 s0).2=(Pn.runS z l (most - x.1) x.1 x.2.1).2∧x.1≤(Pn.runS z l most 0 s0).1.length)∧SP x.1 x.2.2) (fun x=>most - x.1) (0,s0,st0) (by exact Weak.of2 (by (repeat (first|exact .nil _|refine .cons rfl (by exact AV.Imp.refl _) ?_));done) (.refl _)) ⟨Nat.zero_le _,hv0,⟨by rw [List.drop_zero,Nat.sub_zero],by rw [Nat.sub_zero],Nat.zero_le _⟩,h0⟩ ?_;rintro⟨j,s,st⟩ ⟨hj,hv,⟨i1,i2,i3⟩,hsp⟩;simp only at hj hv i1 i2 i3 hsp;have hsz:=hv.sz hx;have hpe:=Pn.penabled_of hx hv;dsimp only;refine awx_seq ?_;refine awx_region rfl ?_;refine sS ?_;refine aops_nil ?_;refine awx_seq ?_;refine awx_cond rfl (fun h1=> ?_) (fun h1=> ?_)
  ·simp only [nf] at h1;have hjm:j<most:=by omega
   refine awx_skip ?_;refine awx_seq ?_;refine awx_block ?_;refine awx_seq ?_;refine awx_region rfl ?_;refine sM ?_;refine sA ?_;refine aops_nil ?_;refine awx_seq ?_;unfold encRun;refine awx_anyT (ks:=[.free,.free,.free,.free,.free,.free,.free,.free,.free,.free,.free,.free,.free,.free]) [] (.nil _) (by kernel_rfl) rfl (fun K=> ?_) ?_
   ·refine rL k1 ?_;refine rZ ?_;refine rF ?_;refine dr_p (fun _=>by exact y_loadAggN (cs':=[_,_]) (.plain rfl) (by exact k4) (le_ rfl) (by rfl)) rfl ?_;refine rL k1 ?_;refine rZ ?_;refine rF ?_;refine dr_p (fun _=>by exact y_loadAggN (cs':=[_,_,_,_]) (.plain rfl) (by exact k4) (le_ rfl) (by rfl)) rfl ?_;refine dr_p (fun _=>by exact y_call (.plain rfl) (.cons (.imp (.plain rfl) (AV.Imp.agg (RowOf.imp (enc:=encPl)))) (.cons (.imp (.plain rfl) (AV.Imp.agg (RowOf.imp (enc:=encFs)))) .nil)) (ACalls.pure (enabled_c z s ⟨by omega,by omega⟩ hsz))) rfl ?_;refine rM ?_;refine rE ?_;refine rE ?_;refine rA ?_;refine rA ?_;refine dr_nil ?_;refine awx_seq ?_;refine awx_seq ?_;refine awx_region rfl ?_;refine sM ?_;refine sR ?_;refine sM ?_;refine gM ?_;refine gN0 ?_;refine gQ0 ?_;refine sK ?_;refine aops_nil ?_;refine awx_cond rfl (fun h2=> ?_) (fun h2=> ?_)
    ·simp only [nf] at h2;have hst:(Pn.penabled z s).2≠0∨(Pn.penabled z s).1.length=0:=by omega
     refine awx_ret ?_;have hsp0:=Pn.runS_stop (l:=l) (f:=most - j - 1) (k:=j) hst;rw [show most - j - 1+1=most - j by omega] at hsp0;rw [hsp0] at i1 i2;have hjl:j=(Pn.runS z l most 0 s0).1.length:=by
      have:=congrArg List.length i1;rw [List.length_drop] at this;simp at this;omega
     refine retX (.inr rfl) (List.Perm.refl _) .nil VShift.refl ⟨st,?_,?_⟩
     ·(rw [i2];done)
     ·rw [←hjl];exact hsp
    ·simp only [nf] at h2;have hst: ¬ ((Pn.penabled z s).2≠0∨(Pn.penabled z s).1.length=0):=by omega
     refine awx_skip ?_;refine awx_seq ?_;have hsb:=Pn.selM_bd l (j:Int) (n:=((Pn.penabled z s).1.length:Int)) (by omega);have hll:(Pn.penabled z s).1.length≤z.stages.length:=by rw [hpe];exact Pn.enabL_len z s z.stages.length
     refine awx_region rfl ?_;refine sM ?_;refine sL k2 ?_;refine sM ?_;refine sM ?_;refine sN ?_;refine aops_call (blt_lt rfl) (.plain rfl) (.cons (.plain rfl) (.cons (.plain rfl) .nil)) (ACalls.then (ACalls.keep (by apply Takes.cons (by exact k3);exact .nil _) (sel_c q l hl (j:Int) ((Pn.penabled z s).1.length:Int) (by omega) (by omega))) ?_);refine st_p (fun _=>by exact y_indexT (l:=(Pn.penabled z s).1) (.plain rfl) (.plain rfl) (by omega) (by omega)) rfl ?_;refine sU ?_;refine sA ?_;refine aops_nil ?_;refine awx_seq ?_;refine awx_anyT (ks:=[.free,.free,.free,.free,.free,.free,.free,.free,.free,.free,.free,.free,.free,.new,.write,.free]) [] (.nil _) (by kernel_rfl) rfl (fun K=> ?_) ?_
     ·refine rL k1 ?_;refine rZ ?_;refine rF ?_;refine dr_p (fun _=>by exact y_loadAggN (cs':=[_,_]) (.plain rfl) (by exact k4) (le_ rfl) (by rfl)) rfl ?_;refine rL k1 ?_;refine rZ ?_;refine rF ?_;refine dr_p (fun _=>by exact y_loadAggN (cs':=[_,_,_,_]) (.plain rfl) (by exact k4) (le_ rfl) (by rfl)) rfl ?_;refine rM ?_;refine dr_p (fun _=>by exact y_call (.plain rfl) (.cons (.imp (.plain rfl) (AV.Imp.agg (RowOf.imp (enc:=encPl)))) (.cons (.imp (.plain rfl) (AV.Imp.agg (RowOf.imp (enc:=encFs)))) (.cons (.plain rfl) .nil))) (ACalls.pure (pstep_c z s (Pn.runI z l j s) ⟨by omega,by omega⟩ hsz))) rfl ?_;refine rM ?_;refine rE ?_;refine rE ?_;refine dr_new (fun _ _=>by exact y_alloc) rfl fun nT=> ?_;refine dr_s (fun _=>by exact y_storeW (by rfl) rfl (.plain rfl) (.plain rfl) (by exact .here) (by rfl)) ?_;refine rA ?_;refine dr_nil ?_;refine awx_seq ?_;refine awx_seq ?_;refine awx_region rfl ?_;refine sM ?_;refine sR ?_;refine aops_nil ?_;refine awx_cond rfl (fun h3=> ?_) (fun h3=> ?_)
      ·simp only [nf] at h3;have he0:(Pn.pstep z s (Pn.runI z l j s)).2≠0:=h3;refine awx_seq ?_;refine awx_region rfl ?_;refine sL k2 ?_;refine sM ?_;refine sZ ?_;refine sF ?_;refine st_storeN (cs':=[_,_,_,_,_,_,_]) (by rfl) rfl (.plain rfl) (.plain rfl) (by exact u5) (le_ rfl) (by rfl) ?_;refine aops_nil ?_;refine awx_ret ?_;have hsp0:=Pn.runS_err (l:=l) (f:=most - j - 1) (k:=j) hst he0;rw [show most - j - 1+1=most - j by omega] at hsp0;rw [hsp0] at i1 i2;have hjl:j=(Pn.runS z l most 0 s0).1.length:=by
        have:=congrArg List.length i1;rw [List.length_drop] at this;simp at this;omega
       refine retX (.inr rfl) (List.Perm.refl _) .nil (VShift.sub (AV.Imp.refl _) (List.sublist_cons_self _ _)) ⟨st,?_,?_⟩
       ·(rw [i2];done)
       ·rw [←hjl];exact hsp
      ·simp only [nf] at h3;have he0:(Pn.pstep z s (Pn.runI z l j s)).2=0:=by simpa using h3
       refine awx_skip ?_;refine awx_seq ?_;refine awx_region rfl ?_;refine sL k2 ?_;refine sW .here ?_;refine sZ ?_;refine sF ?_;refine st_storeN (cs':=[_,_,_,_,_,_,_]) (by rfl) rfl (.plain rfl) (.plain rfl) (by exact u5) (le_ rfl) (by rfl) ?_;refine aops_nil ?_;refine awx_seq ?_;have hpv:=(Pn.pstep_stp hx hv he0).valid hx hv;have hgo:=Pn.runS_go (l:=l) (f:=most - (j+1)) (k:=j) hst (fun e9=>e9 he0);rw [show most - (j+1)+1=most - j by omega] at hgo;rw [hgo] at i1 i2;have hi3:j+1≤(Pn.runS z l most 0 s0).1.length:=by
        have:=congrArg List.length i1;rw [List.length_drop,List.length_cons] at this;omega
       have hxj:(Pn.runS z l most 0 s0).1[j]=(Pn.runI z l j s):=by
        rw [List.drop_eq_getElem_cons (by omega)] at i1;exact (List.cons.inj i1).1
       have hi1:(Pn.runS z l most 0 s0).1.drop (j+1)=(Pn.runS z l (most - (j+1)) (j+1) (Pn.pstep z s (Pn.runI z l j s)).1).1:=by
        rw [List.drop_eq_getElem_cons (by omega)] at i1;exact (List.cons.inj i1).2
       have hi2:=i2;refine awx_regionYk 2 rfl rfl rfl ?_;dsimp only [List.take,List.drop];refine sM ?_;refine sM ?_;refine aops_nil ?_;refine⟨_,_,rfl,.cons (.imp (.plain rfl) (AV.Imp.of_eq (congrArg AV.int hxj.symm))) .nil,AYields.frame (st1:=st) (h j (by omega) st hsp) (List.perm_append_comm (l₁:=[_,_,_,_,_,_])) ?_⟩;rintro v st' ⟨rfl,hsp'⟩;refine aops_weak (Weak.perm (st':=Aw.Item.cells nT _::Aw.Item.cells a _::Aw.Item.cells b _::Aw.Item.cells c _::Aw.Item.cells q _::Aw.Item.cells r _::st') (List.perm_append_comm (l₂:=[Aw.Item.cells nT _,Aw.Item.cells a _,Aw.Item.cells b _,Aw.Item.cells c _,Aw.Item.cells q _,Aw.Item.cells r _]))) ?_;refine sO ?_;refine aops_nil ?_;refine awx_cond rfl (fun h4=> ?_) (fun h4=> ?_)
       ·cases h4
       ·simp only [nf] at h4;refine awx_skip ?_;refine awx_region rfl ?_;refine sY ?_ (hb:=by omega);refine sM ?_;refine aops_nil ?_;refine⟨rfl,?_⟩;refine⟨(j+1,(Pn.pstep z s (Pn.runI z l j s)).1,st'),⟨by show j+1≤most;omega,hpv,⟨hi1,hi2,hi3⟩,hsp'⟩,by show most - (j+1)<most - j;omega,?_⟩;dsimp only;exact Weak.of2 (by (repeat (first|exact .nil _|refine .cons rfl (by exact AV.Imp.refl _) ?_));done) (by (repeat (first|apply ItLe2.cons (by exact k1)|exact .sub (List.sublist_cons_self _ _)));done)
     ·kernel_rfl
   ·kernel_rfl
  ·simp only [nf] at h1;refine awx_exit ?_;obtain rfl:j=most:=by omega
   rw [Nat.sub_self] at i1 i2;have hjl:j=(Pn.runS z l j 0 s0).1.length:=by
    have:=congrArg List.length i1;rw [List.length_drop] at this;have h9:([]:List Int).length=0:=rfl;show j=(Pn.runS z l j 0 s0).1.length;have h8:(Pn.runS z l 0 j s).1=[]:=rfl;rw [h8] at this;simp at this;omega
   refine retX (.inl rfl) (List.Perm.refl _) .nil VShift.refl ⟨st,?_,?_⟩
   ·(rw [i2];rfl)
   ·rw [←hjl];exact hsp
theorem appendSeq_c (G:Nat) (caps:List AV) (xs:List Int) (hxs:xs.length≤1000000) (I0 I1:List Aw.Item) (h: ∀ (yv:AV) (SP:Nat→List Aw.Item→Prop) (st0:List Aw.Item),SP 0 st0→(∀ k (hk:k<xs.length) st,SP k st→AYields Tryz.prog yv [.int xs[k]] st (fun v st'=>v= .bool true∧SP (k+1) st'))→ACalls Tryz.prog G ([yv]++caps) (I0++st0) (fun v st=> ∃ stx,st=I1++stx∧SP xs.length stx)):ACalls Tryz.prog 46 [.val (.slice none 0 0),.clo G caps] I0 (fun v st=>v= .sl 1 (xs.map Go.Aw.encI)∧st=I1):=by
  refine acallsX_body Tryz.func46 (by kernel_rfl) rfl Tryz.ntmps46 (le_ rfl) ?_;rw [Tryz.results46];refine awx_seq ?_;refine awx_region rfl ?_;refine sB fun n1=> ?_;refine sA ?_;refine aops_nil ?_;refine awx_seq ?_;refine awx_seq ?_;refine awx_weak (Weak.trans Weak.tail0 (Weak.items2 (st':= .tail none:: .cells n1 [.grow 1 none []]::I0) (.cons .here (.cells .here (.cons AV.Imp.nil_grow .nil) (.refl _))))) ?_;refine awx_region rfl ?_;refine sM ?_;refine aops_nil ?_;refine awx_block ?_;refine awx_rangeFunc rfl fun iL iD T fn D RS hRS=> ?_;refine ACalls.frame (h (.yld iL _ _ T) (fun k st=> ∃ tok,st=[Aw.Item.raw iL (RS .ready none),Aw.Item.tail tok,Aw.Item.cells n1 [.grow 1 tok ((xs.take k).map Go.Aw.encI)]]) _ ⟨none,rfl⟩ ?_) (perm_seq _ _ _ _ _) ?_
  ·rintro k hk st ⟨tok,rfl⟩;have hkl:(xs.take k).length≤1000000:=by rw [List.length_take];omega
   refine AYields.round hRS (by decide) rfl (fun lb=> ?_);refine awx_region rfl ?_;refine sA ?_;refine aops_nil ?_;refine⟨rfl,?_⟩;refine awx_block ?_;refine awx_region rfl ?_;refine sL k1 ?_;refine sM ?_;refine st_p (fun _=>by exact y_buildSlice (.cons (.plain rfl) inferInstance (by rfl) .nil) rfl (le_ rfl)) rfl ?_;refine st_append (by rfl) (.plain rfl) (.plain rfl) (by (simp;try omega)) rfl fun tA=> ?_;refine st_s (fun _=>by exact y_storeW (by rfl) rfl (.plain rfl) (.plain rfl) (by exact u1) (by rfl)) ?_;refine aops_nil ?_;exact⟨rfl,tA,by rw [List.take_add_one,List.getElem?_eq_getElem hk,Option.toList_some,List.map_append];rfl⟩
  rintro v st' ⟨stx,rfl,tok,rfl⟩;refine⟨.ready,none,_,perm_seq2 _ _ _ _ _,by simp,?_⟩;rw [List.take_length];refine awx_seq ?_;refine awx_region rfl ?_;refine sL k2 ?_;refine sA ?_;refine aops_nil ?_;refine awx_ret ?_;exact retX (.inr rfl) (Takes.perm (by apply Takes.cons (by exact .here);exact .nil _)) (.cons (.tmp rfl) .nil) (VShift.sub AV.Imp.grow_sl (by simp)) ⟨rfl,rfl⟩
theorem collect_c (G:Nat) (caps:List AV) (xs:List Int) (hxs:xs.length≤1000000) (I0 I1:List Aw.Item) (h: ∀ (yv:AV) (SP:Nat→List Aw.Item→Prop) (st0:List Aw.Item),SP 0 st0→(∀ k (hk:k<xs.length) st,SP k st→AYields Tryz.prog yv [.int xs[k]] st (fun v st'=>v= .bool true∧SP (k+1) st'))→ACalls Tryz.prog G ([yv]++caps) (I0++st0) (fun v st=> ∃ stx,st=I1++stx∧SP xs.length stx)):ACalls Tryz.prog 24 [.clo G caps] I0 (fun v st=>v= .sl 1 (xs.map Go.Aw.encI)∧st=I1):=by
  refine acalls_body Tryz.func24 (by kernel_rfl) rfl Tryz.ntmps24 (le_ rfl) ?_;rw [Tryz.results24];refine asr ?_;refine sA ?_;refine aops_nil ?_;refine asr ?_;refine sM ?_;refine aops_call (blt_lt rfl) (.plain rfl) (.cons (.plain rfl) (.cons (.plain rfl) .nil)) ((appendSeq_c G caps xs hxs I0 I1 h).mono ?_);rintro v st ⟨rfl,rfl⟩;refine sA ?_;refine aops_nil ?_;refine awp_ret ?_;exact retG (.inr rfl) (.cons (.tmp rfl) .nil) VShift.refl ⟨rfl,rfl⟩
theorem run_c (z:Pn.Pl) (s:Pn.Fs) (l:List Int) (n:Int) (hz:z.stages.length≤1000000∧z.pipes.length≤1000000) (hs:Pn.Fsz s) (hl:l.length≤1000000):ACalls Tryz.prog 9 [(AV.agg (encPl z)),(AV.agg (encFs s)),(AV.sl 1 (List.map Go.Aw.encI l)),(AV.int n)] [] (fun v st=>v=(AV.tup [(AV.agg (encFs ((Pn.prun z s l n).1))),(AV.sl 1 (List.map Go.Aw.encI ((Pn.prun z s l n).2.1))),(AV.int ((Pn.prun z s l n).2.2))])∧st=[]):=by
  refine acalls_body Tryz.func9 (by kernel_rfl) rfl Tryz.ntmps9 (le_ rfl) ?_;rw [Tryz.results9];refine asr ?_;refine sB fun n1=> ?_;refine sB fun n2=> ?_;refine sC fun n3=> ?_;refine sA ?_;refine sA ?_;refine aops_nil ?_;refine awp_seq ?_;refine asr ?_;refine sW k2 ?_;refine sW k1 ?_;refine aops_call (blt_lt rfl) (.plain rfl) (.cons (.imp (.plain rfl) (AV.Imp.agg (RowOf.imp (enc:=encPl)))) (.cons (.imp (.plain rfl) (AV.Imp.agg (RowOf.imp (enc:=encFs)))) .nil)) (ACalls.here (dval_c z s hz hs) ?_);refine sO ?_;refine aops_nil ?_;refine awp_cond rfl (fun h1=> ?_) (fun h1=> ?_)
  ·simp only [nf] at h1;refine asr ?_;refine st_p (fun _=>by exact y_build (out:=[_,_,_,_]) .nil rfl rfl) rfl ?_;refine st_s (fun _=>by exact y_storeW (by rfl) rfl (.plain rfl) (.plain rfl) (by exact .here) (by rfl)) ?_;refine sA ?_;refine sA ?_;refine aops_nil ?_;refine awp_ret ?_;refine retG (.inr rfl) (.cons (res_cellW rfl (by exact .here) (by rfl)) (.cons (.tmp rfl) (.cons (.tmp rfl) .nil))) (VShift.of2 (AV.Imp.tup (.cons (AV.Imp.agg (RowOf.imp (enc:=encFs))) (.cons (Sl.imp (enc:=Go.Aw.encI)) (.cons (AV.Imp.refl _) .nil)))) (.nil _)) ⟨congrArg (fun x:(Pn.Fs)×(List (Int))×(Int)=>(AV.tup [(AV.agg (encFs x.1)),(AV.sl 1 (List.map Go.Aw.encI x.2.1)),(AV.int x.2.2)])) (show (_,_,_)=(Pn.prun z s l n) from ?_),rfl⟩;rw [Pn.prun,if_pos (show Pn.pvalid z s≠0 by simpa using h1)];all_goals rfl
  ·simp only [nf] at h1;refine awp_skip ?_;refine awp_seq ?_;refine awp_seq ?_;have hok:=Pn.pvalid_ok (show Pn.pvalid z s=0 by simpa using h1);refine awp_region ?_;refine sM ?_;refine sS ?_;refine sM ?_;refine gM ?_;refine gG0 ?_;refine sK ?_;refine aops_nil ?_;refine awp_cond rfl (fun h2=> ?_) (fun h2=> ?_)
   ·simp only [nf] at h2;refine asr ?_;refine st_p (fun _=>by exact y_build (out:=[_,_,_,_]) .nil rfl rfl) rfl ?_;refine st_s (fun _=>by exact y_storeW (by rfl) rfl (.plain rfl) (.plain rfl) (by exact .here) (by rfl)) ?_;refine sA ?_;refine sA ?_;refine aops_nil ?_;refine awp_ret ?_;refine retG (.inr rfl) (.cons (res_cellW rfl (by exact .here) (by rfl)) (.cons (.tmp rfl) (.cons (.tmp rfl) .nil))) (VShift.of2 (AV.Imp.tup (.cons (AV.Imp.agg (RowOf.imp (enc:=encFs))) (.cons (Sl.imp (enc:=Go.Aw.encI)) (.cons (AV.Imp.refl _) .nil)))) (.nil _)) ⟨congrArg (fun x:(Pn.Fs)×(List (Int))×(Int)=>(AV.tup [(AV.agg (encFs x.1)),(AV.sl 1 (List.map Go.Aw.encI x.2.1)),(AV.int x.2.2)])) (show (_,_,_)=(Pn.prun z s l n) from ?_),rfl⟩;rw [Pn.prun,if_neg (show ¬ Pn.pvalid z s≠0 by simpa using h1),if_pos (by omega)];all_goals rfl
   ·simp only [nf] at h2;refine awp_skip ?_;refine awp_seq ?_;have hn:0≤n∧n≤10000:=by omega
    refine awp_region ?_;refine sW k2 ?_;refine sW k1 ?_;refine st_p (fun _=>by exact y_build (out:=[_,_,_,_,_,_,_]) (.cons (.plain rfl) inferInstance rfl (.cons (.plain rfl) inferInstance rfl .nil)) rfl rfl) rfl ?_;refine sB fun nr=> ?_;refine sA ?_;refine aops_nil ?_;refine asr ?_;refine sM ?_;refine sM ?_;refine sM ?_;refine aops_call (blt_lt rfl) (.plain rfl) (.cons (.plain rfl) .nil) (ACalls.frame (st1:=[]) (selmk_c l) (List.Perm.refl _) ?_);rintro v st ⟨nq,rfl,rfl⟩;refine aops_call (blt_lt rfl) (.plain rfl) (.cons (.plain rfl) (.cons (.plain rfl) (.cons (.plain rfl) .nil))) (ACalls.frame (st1:=[]) (stepsmk_c nr nq n) (List.Perm.refl _) ?_);rintro v st ⟨na,nb,nc,rfl,rfl⟩;refine aops_weak (Weak.items2 (st':=[.cells na [.int (n.toNat:Int)],.cells nb [.ptr nr 0],.cells nc [.clo 50 [.ptr nq 0]],.cells nq [.sl 1 (l.map Go.Aw.encI)],.cells nr (encRun z s 0)]++[.cells n3 _,.cells n2 _,.cells n1 _]) (by rw [Int.toNat_of_nonneg hn.1];unfold encRun;simp only [List.cons_append,List.nil_append];(repeat (exact .refl _));done)) ?_;refine aops_call (blt_lt rfl) (.plain rfl) (.cons (.plain rfl) .nil) (ACalls.frame (collect_c 47 [.ptr na 0,.ptr nb 0,.ptr nc 0] (Pn.runS z l n.toNat 0 s).1 (by have:=Pn.runS_len z l n.toNat 0 s;omega) [.cells na [.int (n.toNat:Int)],.cells nb [.ptr nr 0],.cells nc [.clo 50 [.ptr nq 0]],.cells nq [.sl 1 (l.map Go.Aw.encI)],.cells nr (encRun z s 0)] [.cells na [.int (n.toNat:Int)],.cells nb [.ptr nr 0],.cells nc [.clo 50 [.ptr nq 0]],.cells nq [.sl 1 (l.map Go.Aw.encI)],.cells nr (encRun z (Pn.runS z l n.toNat 0 s).2.1 (Pn.runS z l n.toNat 0 s).2.2)] (fun yv SP st0 h0 hy=>stepsK_c z hok.1 s hok.2 l hl n.toNat (by omega) na nb nc nq nr yv SP st0 h0 hy)) (List.Perm.refl _) ?_);rintro v st ⟨rfl,rfl⟩;simp only [List.cons_append,List.nil_append];refine sA ?_;refine aops_nil ?_;refine awp_seq ?_;refine awp_seq ?_;unfold encRun;refine awp_region ?_;refine sM ?_;refine sZ ?_;refine sF ?_;refine sL k4 ?_;refine sR ?_;refine aops_nil ?_;refine awp_cond rfl (fun h3=> ?_) (fun h3=> ?_)
    ·simp only [nf] at h3;refine awp_seq ?_;refine awp_anyT (ks:=[.free,.free,.free,.free,.free,.write,.free,.free]) [.cells n3 _] (by apply Takes.cons (by exact k5);exact .nil _) (by kernel_rfl) (fun K=> ?_) ?_
     ·refine dr_p (fun _=>by exact y_build (out:=[_,_,_,_]) .nil rfl rfl) rfl ?_;refine rM ?_;refine rZ ?_;refine rF ?_;refine rL k4 ?_;refine dr_s (fun _=>by exact y_storeW (by rfl) rfl (.plain rfl) (.plain rfl) (by exact .here) (by rfl)) ?_;refine rA ?_;refine rA ?_;refine dr_nil ?_;refine awp_ret ?_;refine retG (.inr rfl) (.cons (res_cellW rfl (by exact .here) (by rfl)) (.cons (.tmp rfl) (.cons (.tmp rfl) .nil))) (VShift.of2 (AV.Imp.tup (.cons (AV.Imp.agg (RowOf.imp (enc:=encFs))) (.cons (Sl.imp (enc:=Go.Aw.encI)) (.cons (AV.Imp.refl _) .nil)))) (.nil _)) ⟨congrArg (fun x:(Pn.Fs)×(List (Int))×(Int)=>(AV.tup [(AV.agg (encFs x.1)),(AV.sl 1 (List.map Go.Aw.encI x.2.1)),(AV.int x.2.2)])) (show (_,_,_)=(Pn.prun z s l n) from ?_),rfl⟩;rw [Pn.prun,if_neg (show ¬ Pn.pvalid z s≠0 by simpa using h1),if_neg (by omega),if_pos (by assumption)];all_goals rfl
     ·kernel_rfl
    ·simp only [nf] at h3;refine awp_skip ?_;refine asr ?_;refine sM ?_;refine sZ ?_;refine sF ?_;refine st_p (fun _=>by exact y_loadAggN (cs':=[_,_,_,_]) (.plain rfl) (by exact k4) (le_ rfl) (by rfl)) rfl ?_;refine sM ?_;refine st_s (fun _=>by exact y_storeW (by rfl) rfl (.plain rfl) (.plain rfl) (by exact u5) (by rfl)) ?_;refine sA ?_;refine sA ?_;refine aops_nil ?_;refine awp_ret ?_;refine retG (.inr rfl) (.cons (res_cellW rfl (by exact k5) (by rfl)) (.cons (.tmp rfl) (.cons (.tmp rfl) .nil))) (VShift.of2 (AV.Imp.tup (.cons (AV.Imp.agg (RowOf.imp (enc:=encFs))) (.cons (Sl.imp (enc:=Go.Aw.encI)) (.cons (AV.Imp.refl _) .nil)))) (.nil _)) ⟨congrArg (fun x:(Pn.Fs)×(List (Int))×(Int)=>(AV.tup [(AV.agg (encFs x.1)),(AV.sl 1 (List.map Go.Aw.encI x.2.1)),(AV.int x.2.2)])) (show (_,_,_)=(Pn.prun z s l n) from ?_),rfl⟩;rw [Pn.prun,if_neg (show ¬ Pn.pvalid z s≠0 by simpa using h1),if_neg (by omega),if_neg (by simp_all)];all_goals rfl
end Go.Proofs
namespace Pn
open Go
def itW (l:List Sg):Nat→Int
  |0=>0
  |k+1=>IntKind.i64.wrap (itW l k+((l.getD k default).items.length:Int))
def badF (y:Sg):Bool:=decide (4<y.size) && decide (y.kind=5)
def fineM (x:Pl) (L:List (List Int)):Bool:=
  !(x.stages.any badF) && !(L.any fun m=>decide (60<m.length)) && !greatP x && decide (itW x.stages x.stages.length≤40) && decide (x.stages.length≤12) && decide (pchk x=0)
theorem fineM_ok {x:Pl} {L:List (List Int)} (h:fineM x L=true):Pok x∧x.stages.length≤12∧ ∀ m∈L,m.length≤60:=by
  unfold fineM at h;simp only [Bool.and_eq_true,decide_eq_true_eq,Bool.not_eq_true',List.any_eq_false] at h;obtain⟨⟨⟨⟨⟨a,b⟩,c⟩,d⟩,e⟩,f⟩:=h;refine⟨pchk_ok.1 f,e,fun m hm=> ?_⟩;have:=b m hm;omega
def restG (s:Fs) (i:Nat) (y:Sg):Sg:=if y.kind=1∧i<s.stages.length∧0≤(sst s (i:Int)).count∧(sst s (i:Int)).count≤(y.items.length:Int) then {y with items:=y.items.drop (sst s (i:Int)).count.toNat} else y
def restK (x:Pl) (s:Fs):Nat→List Sg
  |0=>x.stages
  |k+1=>(restK x s k).set k (restG s k ((restK x s k).getD k default))
def prest (x:Pl) (s:Fs):Pl:={x with stages:=restK x s x.stages.length}
theorem restK_len (x:Pl) (s:Fs): ∀ k,(restK x s k).length=x.stages.length
  |0=>rfl
  |k+1=>by rw [restK,List.length_set,restK_len x s k]
theorem restK_get (x:Pl) (s:Fs): ∀ k j,k≤j→(restK x s k).getD j default=x.stages.getD j default
  |0,j,_=>rfl
  |k+1,j,h=>by
   rw [restK,List.getD,List.getElem?_set_ne (by omega)];exact restK_get x s k j (by omega)
def psplit (x:Pl) (l m:List Int) (n:Int):List (List Int)×List (List Int)×Bool:=
  let r1:=prun x (pnew x).1 l n
  if (pnew x).2≠0∨r1.2.2≠0 then ([],[],false)
  else
   let b:=pbegin x r1.1;let r2:=prun x b.1 m 5000;let y:=prest x r1.1;let r3:=prun y (pnew y).1 l 5000
   (r2.1.outputs,r3.1.outputs,decide (b.2=0) && decide (r2.2.2=0) && decide ((pnew y).2=0) && decide (r3.2.2=0) && pfin x r2.1 && pfin y r3.1)
def awS (k z:Int) (l:List Int):Sg:=⟨k,z,.mk 0 0 ⟨#[]⟩ 0 [],l⟩
def awX:Pl:=⟨[awS 1 0 [1,2,3],awS 5 2 [],awS 10 0 []],[⟨0,0,1,0,2⟩,⟨1,0,2,0,2⟩]⟩
theorem awake:psplit awX [] [] 2=([[1,1,2,2]],[[3,3]],true):=by decide+kernel
end Pn
namespace Go.Aw
open Pn
theorem sgrow_set {pad:List AV} (l:List Int): ∀ {L:List Sg} {k:Nat} (hk:k<L.length),setMany ((L.map encSg).flatten++pad) (0+k*8+7) [.sl 1 (l.map encI)]=((L.set k {L.getD k default with items:=l}).map encSg).flatten++pad
  | [],k,hk=>by cases hk
  |a::L,0,_=>by
   have: ∀ (cs:List AV) (a1 a2 a3 a4 a5 a6 a7 a8 v:AV),setMany ([a1,a2,a3,a4,a5,a6,a7,a8]++cs) 7 [v]=[a1,a2,a3,a4,a5,a6,a7,v]++cs:=by
    intro cs a1 a2 a3 a4 a5 a6 a7 a8 v;rfl
   simp only [List.map_cons,List.flatten_cons,List.set_cons_zero,List.append_assoc];exact this _ _ _ _ _ _ _ _ _ _
  |a::L,k+1,hk=>by
   have ih:=sgrow_set (pad:=pad) l (L:=L) (k:=k) (by simpa using hk);have e: ∀ (cs:List AV) (a1 a2 a3 a4 a5 a6 a7 a8 v:AV) (n:Nat),setMany ([a1,a2,a3,a4,a5,a6,a7,a8]++cs) (n+8) [v]=[a1,a2,a3,a4,a5,a6,a7,a8]++setMany cs n [v]:=by
    intro cs a1 a2 a3 a4 a5 a6 a7 a8 v n;unfold setMany;rfl
   simp only [List.map_cons,List.flatten_cons,List.set_cons_succ,List.append_assoc];rw [show 0+(k+1)*8+7=(0+k*8+7)+8 by omega];have e2:=e ((L.map encSg).flatten++pad) (.int a.kind) (.int a.size) (.int a.expr.kind) (.int a.expr.op) (.val (.string a.expr.name)) (.int a.expr.value) (.sl 5 (encExs a.expr.args)) (.sl 1 (a.items.map encI)) (.sl 1 (l.map encI)) (0+k*8+7);have e3:(a::L).getD (k+1) default=L.getD k default:=rfl;rw [e3,←ih];exact e2
end Go.Aw
namespace Pn
theorem restK_t {x:Pl} {s:Fs} {k:Nat} (h:((restK x s k).getD k default).kind=1∧k<s.stages.length∧0≤(sst s (k:Int)).count∧(sst s (k:Int)).count≤(((restK x s k).getD k default).items.length:Int)):restK x s (k+1)=(restK x s k).set k {(restK x s k).getD k default with items:=((restK x s k).getD k default).items.drop (sst s (k:Int)).count.toNat}:=by
  rw [restK];unfold restG;rw [if_pos h]
theorem restK_f {x:Pl} {s:Fs} {k:Nat} (h: ¬ (((restK x s k).getD k default).kind=1∧k<s.stages.length∧0≤(sst s (k:Int)).count∧(sst s (k:Int)).count≤(((restK x s k).getD k default).items.length:Int))):restK x s (k+1)=restK x s k:=by
  rw [restK];unfold restG;rw [if_neg h,set_same]
end Pn
namespace Go.Aw
theorem sgrow_len (L:List Pn.Sg):(L.map encSg).flatten.length=L.length*8:=by
  induction L with
  |nil=>rfl
  |cons a L ih=>rw [List.map_cons,List.flatten_cons,List.length_append,ih,List.length_cons];show 8+_=_;omega
end Go.Aw
namespace Pn
theorem pnew_pok {x:Pl} (h:(pnew x).2=0):Pok x:=by
  unfold pnew at h;split at h
  ·rename_i h1;exact absurd h h1
  ·rename_i h1;exact pchk_ok.1 (Classical.not_not.1 h1)
theorem pnew_zero {x:Pl} (h:Pok x):(pnew x).2=0:=by rw [pnew_of h]
end Pn
set_option maxRecDepth 10000
namespace Go.Proofs
open Go.Aw Wl Pn
theorem fine_c (z:Pn.Pl) (L:List (List Int)) (hz:z.stages.length≤9223372036854775807) (hL:L.length≤1000):ACalls Tryz.prog 5 [(AV.agg (encPl z)),(AV.sl 1 (List.map encLI L))] [] (fun v st=>v=(AV.bool (Pn.fineM z L))∧st=[]):=by
  refine acalls_body Tryz.func5 (by kernel_rfl) rfl Tryz.ntmps5 (le_ rfl) ?_;rw [Tryz.results5];refine asr ?_;refine sB fun n2=> ?_;refine sA ?_;refine aops_nil ?_;refine asr ?_;refine sA ?_;refine aops_nil ?_;refine awp_seq ?_;refine asr ?_;refine sF ?_;refine sL .here ?_;refine sN ?_;refine sM ?_;refine aops_nil ?_;refine awp_block ?_;refine awp_loop2 (X:=Nat) [1,2,11,12] (.cons rfl (.cons rfl (.cons rfl (.cons rfl .nil)))) (fun σ x=>((5,.int (Pn.itW z.stages x)):Nat×AV)::((13,.int (x:Int)):Nat×AV)::σ) (fun R x=>R) (fun x=>x≤z.stages.length∧ ∀ i (h:i<z.stages.length),i<x→Pn.badF z.stages[i]=false) (fun x=>z.stages.length - x) 0 (by exact Weak.of2 (by (repeat (first|exact .nil _|refine .cons rfl (by exact AV.Imp.refl _) ?_));done) (by (repeat (exact .refl _));done)) ⟨Nat.zero_le _,by omega⟩ ?_;rintro k ⟨hk,hinv⟩;refine asr ?_;refine sS ?_;refine aops_nil ?_;refine awp_seq ?_;refine awp_cond rfl (fun h1=> ?_) (fun h1=> ?_)
  ·simp only [nf] at h1;have hkl:k<z.stages.length:=by omega
   refine awp_skip ?_;refine awp_seq ?_;refine awp_block ?_;refine awp_seq ?_;have hgk:z.stages.getD k default=z.stages[k]:=by rw [List.getD,List.getElem?_eq_getElem (by omega),Option.getD_some]
   refine awp_region ?_;refine st_p (fun _=>by exact y_indexMap (.plain rfl) (.plain rfl) rfl (by refine⟨?_,?_⟩;(omega);rfl)) rfl ?_;refine sV ?_;refine sC fun n7=> ?_;refine st_s (fun _=>by exact y_storeW (by rfl) rfl (.plain rfl) (.plain rfl) (by exact .here) (by rfl)) ?_;refine aops_nil ?_;refine asr ?_;refine sM ?_;refine sF ?_;refine sL .here ?_;refine sN ?_;refine st_p (fun _=>by exact y_addw (.plain rfl) (.plain rfl)) rfl ?_;refine sA ?_;refine aops_nil ?_;refine asr ?_;refine sF ?_;refine sL .here ?_;refine sG ?_;refine sM ?_;refine gF ?_;refine gL0 .here ?_;refine gQ0 ?_;refine sJ ?_;refine aops_nil ?_;refine awp_cond rfl (fun h2=> ?_) (fun h2=> ?_)
   ·simp only [nf] at h2;have hbk:Pn.badF z.stages[k]=true:=by rw [Pn.badF];simpa using h2
    refine asr ?_;refine sA ?_;refine aops_nil ?_;refine awp_ret ?_;refine retG (.inr rfl) (.cons (.tmp rfl) .nil) (VShift.of1 (AV.Imp.refl _) (.nil _)) ⟨congrArg (fun x:(Bool)=>(AV.bool x)) (show _=(Pn.fineM z L) from ?_),rfl⟩;rw [Pn.fineM,List.any_eq_true.2 ⟨_,List.getElem_mem hkl,hbk⟩];simp
   ·simp only [nf] at h2;have hbk:Pn.badF z.stages[k]=false:=by rw [Pn.badF,Bool.and_eq_false_iff,decide_eq_false_iff_not,decide_eq_false_iff_not];omega
    refine awp_skip ?_;refine awp_region ?_;refine sY ?_ (hb:=by omega);refine sM ?_;refine aops_nil ?_;refine⟨k+1,⟨by omega,fun i hi hik=> ?_⟩,by omega,?_⟩
    ·by_cases e:i=k
     ·subst e;exact hbk
     ·exact hinv i hi (by omega)
    ·rw [Pn.itW,hgk];exact Weak.of2 (by (repeat (first|exact .nil _|refine .cons rfl (by exact AV.Imp.refl _) ?_));done) (by (repeat (first|exact .nil _|apply ItLe2.cons (by exact k1)));done)
  ·simp only [nf] at h1;obtain rfl:k=z.stages.length:=by omega
   have hst:z.stages.any Pn.badF=false:=List.any_eq_false.2 fun y hy=>by
    obtain⟨i,hi,rfl⟩:=List.getElem_of_mem hy;rw [hinv i hi hi];decide
   refine awp_exit ?_;refine awp_seq ?_;refine asr ?_;refine sM ?_;refine sN ?_;refine sM ?_;refine aops_nil ?_;refine awp_block ?_;refine awp_loop2 (X:=Nat) [2,5,31,32] (.cons rfl (.cons rfl (.cons rfl (.cons rfl .nil)))) (fun σ x=>((33,.int (x:Int)):Nat×AV)::σ) (fun R x=>R) (fun x=>x≤L.length∧ ∀ i (h:i<L.length),i<x→L[i].length≤60) (fun x=>L.length - x) 0 (by exact Weak.of2 (by (repeat (first|exact .nil _|refine .cons rfl (by exact AV.Imp.refl _) ?_));done) (by (repeat (exact .refl _));done)) ⟨Nat.zero_le _,by omega⟩ ?_;rintro j ⟨hj,hinw⟩;refine asr ?_;refine sS ?_;refine aops_nil ?_;refine awp_seq ?_;refine awp_cond rfl (fun h3=> ?_) (fun h3=> ?_)
   ·simp only [nf] at h3;have hjl:j<L.length:=by omega
    refine awp_skip ?_;refine awp_seq ?_;refine awp_block ?_;refine asr ?_;refine st_p (fun _=>by exact y_indexMap (.plain rfl) (.plain rfl) rfl (by refine⟨?_,?_⟩;(omega);rfl)) rfl ?_;refine sU ?_;refine sA ?_;refine aops_nil ?_;refine asr ?_;refine sM ?_;refine sN ?_;refine sG ?_;refine aops_nil ?_;refine awp_cond rfl (fun h4=> ?_) (fun h4=> ?_)
    ·simp only [nf] at h4;refine asr ?_;refine sA ?_;refine aops_nil ?_;refine awp_ret ?_;refine retG (.inr rfl) (.cons (.tmp rfl) .nil) (VShift.of1 (AV.Imp.refl _) (.nil _)) ⟨congrArg (fun x:(Bool)=>(AV.bool x)) (show _=(Pn.fineM z L) from ?_),rfl⟩;have hLt:(L.any fun m=>decide (60<m.length))=true:=List.any_eq_true.2 ⟨_,List.getElem_mem hjl,by simp;omega⟩;rw [Pn.fineM,hLt];simp
    ·simp only [nf] at h4;refine awp_skip ?_;refine awp_region ?_;refine sY ?_ (hb:=by omega);refine sM ?_;refine aops_nil ?_;refine⟨j+1,⟨by omega,fun i hi hik=> ?_⟩,by omega,?_⟩
     ·by_cases e:i=j
      ·subst e;omega
      ·exact hinw i hi (by omega)
     ·exact Weak.of2 (by (repeat (first|exact .nil _|refine .cons rfl (by exact AV.Imp.refl _) ?_));done) (by (repeat (exact .refl _));done)
   ·simp only [nf] at h3;have hLL:(L.any fun m=>decide (60<m.length))=false:=List.any_eq_false.2 fun y hy=>by
     obtain⟨i,hi,rfl⟩:=List.getElem_of_mem hy;have:=hinw i hi (by omega);simp;omega
    refine awp_exit ?_;refine asr ?_;refine sW .here ?_;refine aops_call (blt_lt rfl) (.plain rfl) (.cons (.imp (.plain rfl) (AV.Imp.agg (RowOf.imp (enc:=encPl)))) .nil) (ACalls.here (greatP_c z) ?_);refine sO ?_;refine sM ?_;refine gM ?_;refine gH0 ?_;refine sJ ?_;refine sM ?_;refine gF ?_;refine gL0 .here ?_;refine gN0 ?_;refine gH0 ?_;refine sJ ?_;refine sM ?_;refine gW .here ?_;refine st_g rfl rfl rfl SaysI.out (fun hc _=>by exact y_call (.plain rfl) (.cons (.imp (.opt rfl hc) (AV.Imp.agg (RowOf.imp (enc:=encPl)))) .nil) (ACalls.pure (pchk_c z))) rfl ?_;refine gQ0 ?_;refine sJ ?_;refine sA ?_;refine aops_nil ?_;refine awp_ret ?_;refine retG (.inr rfl) (.cons (.tmp rfl) .nil) (VShift.of1 (AV.Imp.refl _) (.nil _)) ⟨congrArg (fun x:(Bool)=>(AV.bool x)) (show _=(Pn.fineM z L) from ?_),rfl⟩;rw [Pn.fineM,hst,hLL,show decide (z.stages.length≤12)=decide ((z.stages.length:Int)≤12) from decide_eq_decide.2 (by omega)];simp
theorem same51_c (a b:List Int) (ha:a.length≤1000000):ACalls Tryz.prog 34 [(AV.sl 1 (List.map Go.Aw.encI a)),(AV.sl 1 (List.map Go.Aw.encI b))] [] (fun v st=>v=(AV.bool (decide (a=b)))∧st=[]):=by
  refine acalls_body Tryz.func34 (by kernel_rfl) rfl Tryz.ntmps34 (le_ rfl) ?_;rw [Tryz.results34];refine asr ?_;refine sA ?_;refine aops_nil ?_;refine awp_seq ?_;refine asr ?_;refine sM ?_;refine sN ?_;refine sM ?_;refine sN ?_;refine sR ?_;refine aops_nil ?_;refine awp_cond rfl (fun h1=> ?_) (fun h1=> ?_)
  ·simp only [nf] at h1;refine asr ?_;refine sA ?_;refine aops_nil ?_;refine awp_ret ?_;refine retG (.inr rfl) (.cons (.tmp rfl) .nil) (VShift.of1 (AV.Imp.refl _) (.nil _)) ⟨congrArg (fun x:(Bool)=>(AV.bool x)) (show _=(decide (a=b)) from ?_),rfl⟩;rw [eq_comm,decide_eq_false_iff_not];rintro rfl;exact h1 rfl
  ·simp only [nf] at h1;refine awp_skip ?_;refine awp_seq ?_;refine asr ?_;refine sA ?_;refine aops_nil ?_;refine awp_block ?_;refine awp_loop2 (X:=Nat) [0,1] (.cons rfl (.cons rfl .nil)) (fun σ x=>((5,.int (x:Int)):Nat×AV)::σ) (fun R x=>R) (fun x=>x≤a.length∧(∀ i (h:i<a.length) (h2:i<b.length),i<x→a[i]=b[i])) (fun x=>a.length - x) 0 (by exact Weak.of2 (by (repeat (first|exact .nil _|refine .cons rfl (by exact AV.Imp.refl _) ?_));done) (by (repeat (exact .refl _));done)) ⟨Nat.zero_le _,by omega⟩ ?_;rintro k ⟨hk,hinv⟩;try have hab:a.length=b.length:=by omega
   refine awp_seq ?_;refine asr ?_;refine sM ?_;refine sM ?_;refine sN ?_;refine sS ?_;refine aops_nil ?_;refine awp_cond rfl (fun h2=> ?_) (fun h2=> ?_)
   ·simp only [nf] at h2;refine awp_skip ?_;refine awp_seq ?_;refine awp_block ?_;refine awp_seq ?_;refine awp_any0 (ks:=[.free,.free,.free,.free,.free,.free,.free,.free,.free]) (by kernel_rfl) (fun K=> ?_) ?_
    ·have hkb:k<b.length:=by omega
     refine rM ?_;refine rM ?_;refine dr_p (fun _=>by exact y_indexMap (.plain rfl) (.plain rfl) rfl (by refine⟨?_,?_⟩;(omega);rfl)) rfl ?_;refine rU ?_;refine rM ?_;refine rM ?_;refine dr_p (fun _=>by exact y_indexMap (.plain rfl) (.plain rfl) rfl (by refine⟨?_,?_⟩;(omega);rfl)) rfl ?_;refine rU ?_;refine rR ?_;refine dr_nil ⟨rfl,?_⟩;refine awp_cond rfl (fun h3=> ?_) (fun h3=> ?_)
     ·simp only [nf] at h3;refine asr ?_;refine sA ?_;refine aops_nil ?_;refine awp_ret ?_;refine retG (.inr rfl) (.cons (.tmp rfl) .nil) (VShift.of1 (AV.Imp.refl _) (.nil _)) ⟨congrArg (fun x:(Bool)=>(AV.bool x)) (show _=(decide (a=b)) from ?_),rfl⟩;rw [eq_comm,decide_eq_false_iff_not];rintro rfl;exact h3 rfl
     ·simp only [nf] at h3;refine awp_skip ?_;refine awp_region ?_;refine sM ?_;refine sY ?_ (hb:=by omega);refine sA ?_;refine aops_nil ?_;refine⟨k+1,?_,?_,Weak.of2 (by (repeat (first|exact .nil _|refine .cons rfl (by exact AV.Imp.refl _) ?_));done) (by (repeat (exact .refl _));done)⟩
      ·refine⟨by omega,?_⟩;intro i hi hi2 hik;by_cases e:i=k
       ·subst e;exact h3
       ·exact hinv i hi hi2 (by omega)
      ·omega
    ·kernel_rfl
   ·simp only [nf] at h2;refine awp_exit ?_;refine asr ?_;refine sA ?_;refine aops_nil ?_;refine awp_ret ?_;refine retG (.inr rfl) (.cons (.tmp rfl) .nil) (VShift.of1 (AV.Imp.refl _) (.nil _)) ⟨congrArg (fun x:(Bool)=>(AV.bool x)) (show _=(decide (a=b)) from ?_),rfl⟩;rw [eq_comm,decide_eq_true_iff];exact List.ext_getElem (by omega) fun i p q=>hinv i p q (by omega)
theorem sameLL_c (a b:List (List Int)) (ha:a.length≤1000000) (hal: ∀ l∈a,l.length≤1000000):ACalls Tryz.prog 16 [(AV.sl 1 (List.map encLI a)),(AV.sl 1 (List.map encLI b))] [] (fun v st=>v=(AV.bool (decide (a=b)))∧st=[]):=by
  refine acalls_body Tryz.func16 (by kernel_rfl) rfl Tryz.ntmps16 (le_ rfl) ?_;rw [Tryz.results16];refine asr ?_;refine sA ?_;refine aops_nil ?_;refine awp_seq ?_;refine asr ?_;refine sM ?_;refine sN ?_;refine sM ?_;refine sN ?_;refine sR ?_;refine aops_nil ?_;refine awp_cond rfl (fun h1=> ?_) (fun h1=> ?_)
  ·simp only [nf] at h1;refine asr ?_;refine sA ?_;refine aops_nil ?_;refine awp_ret ?_;refine retG (.inr rfl) (.cons (.tmp rfl) .nil) (VShift.of1 (AV.Imp.refl _) (.nil _)) ⟨congrArg (fun x:(Bool)=>(AV.bool x)) (show _=(decide (a=b)) from ?_),rfl⟩;rw [eq_comm,decide_eq_false_iff_not];rintro rfl;exact h1 rfl
  ·simp only [nf] at h1;refine awp_skip ?_;refine awp_seq ?_;refine asr ?_;refine sA ?_;refine aops_nil ?_;refine awp_block ?_;refine awp_loop2 (X:=Nat) [0,1] (.cons rfl (.cons rfl .nil)) (fun σ x=>((5,.int (x:Int)):Nat×AV)::σ) (fun R x=>R) (fun x=>x≤a.length∧(∀ i (h:i<a.length) (h2:i<b.length),i<x→a[i]=b[i])) (fun x=>a.length - x) 0 (by exact Weak.of2 (by (repeat (first|exact .nil _|refine .cons rfl (by exact AV.Imp.refl _) ?_));done) (by (repeat (exact .refl _));done)) ⟨Nat.zero_le _,by omega⟩ ?_;rintro k ⟨hk,hinv⟩;try have hab:a.length=b.length:=by omega
   refine awp_seq ?_;refine asr ?_;refine sM ?_;refine sM ?_;refine sN ?_;refine sS ?_;refine aops_nil ?_;refine awp_cond rfl (fun h2=> ?_) (fun h2=> ?_)
   ·simp only [nf] at h2;refine awp_skip ?_;refine awp_seq ?_;refine awp_block ?_;refine awp_seq ?_;have hkb:k<b.length:=by omega
    refine awp_any0 (ks:=[.free,.free,.free,.free,.free,.free,.free,.free,.free,.free]) (by kernel_rfl) (fun K=> ?_) ?_
    ·refine rM ?_;refine rM ?_;refine dr_p (fun _=>by exact y_indexMap (.plain rfl) (.plain rfl) rfl (by refine⟨?_,?_⟩;(omega);rfl)) rfl ?_;refine rU ?_;refine rM ?_;refine rM ?_;refine dr_p (fun _=>by exact y_indexMap (.plain rfl) (.plain rfl) rfl (by refine⟨?_,?_⟩;(omega);rfl)) rfl ?_;refine rU ?_;refine dr_p (fun _=>by exact y_call (.plain rfl) (.cons (.imp (.plain rfl) (Sl.imp (enc:=Go.Aw.encI))) (.cons (.imp (.plain rfl) (Sl.imp (enc:=Go.Aw.encI))) .nil)) (ACalls.pure (same51_c a[k] b[k] (hal _ (List.getElem_mem h2))))) rfl ?_;refine rO ?_;refine dr_nil ⟨rfl,?_⟩;refine awp_cond rfl (fun h3=> ?_) (fun h3=> ?_)
     ·simp only [nf] at h3;refine asr ?_;refine sA ?_;refine aops_nil ?_;refine awp_ret ?_;refine retG (.inr rfl) (.cons (.tmp rfl) .nil) (VShift.of1 (AV.Imp.refl _) (.nil _)) ⟨congrArg (fun x:(Bool)=>(AV.bool x)) (show _=(decide (a=b)) from ?_),rfl⟩;rw [eq_comm,decide_eq_false_iff_not];rintro rfl;simp at h3
     ·simp only [nf] at h3;refine awp_skip ?_;refine awp_region ?_;refine sM ?_;refine sY ?_ (hb:=by omega);refine sA ?_;refine aops_nil ?_;refine⟨k+1,?_,?_,Weak.of2 (by (repeat (first|exact .nil _|refine .cons rfl (by exact AV.Imp.refl _) ?_));done) (by (repeat (exact .refl _));done)⟩
      ·refine⟨by omega,?_⟩;intro i hi hi2 hik;by_cases e:i=k
       ·subst e;simpa using h3
       ·exact hinv i hi hi2 (by omega)
      ·omega
    ·kernel_rfl
   ·simp only [nf] at h2;refine awp_exit ?_;refine asr ?_;refine sA ?_;refine aops_nil ?_;refine awp_ret ?_;refine retG (.inr rfl) (.cons (.tmp rfl) .nil) (VShift.of1 (AV.Imp.refl _) (.nil _)) ⟨congrArg (fun x:(Bool)=>(AV.bool x)) (show _=(decide (a=b)) from ?_),rfl⟩;rw [eq_comm,decide_eq_true_iff];exact List.ext_getElem (by omega) fun i p q=>hinv i p q (by omega)
theorem cloneSg_c (l:List Pn.Sg) (hn:l≠[]) (hl:l.length≤1000000):ACalls Tryz.prog 12 [.sl 8 (l.map encSg)] [] (fun v st=> ∃ j pad,v= .arr j 0 l.length∧st=[.cells j ((l.map encSg).flatten++pad)]):=by
  refine acalls_body Tryz.func12 (by kernel_rfl) rfl Tryz.ntmps12 (le_ rfl) ?_;rw [Tryz.results12];refine asr ?_;refine sA ?_;refine aops_nil ?_;refine awp_seq ?_;refine asr ?_;refine sM ?_;refine st_p (fun _=>by exact y_eqNilF (.plain rfl) (by simpa using hn)) rfl ?_;refine aops_nil ?_;refine awp_cond rfl (fun h1=> ?_) (fun h1=> ?_)
  ·cases h1
  ·simp only [nf] at h1;refine awp_skip ?_;refine asr ?_;refine st_p (fun _=>by exact y_buildSlice .nil rfl (le_ rfl)) rfl ?_;refine sM ?_;refine st_appendArr (by rfl) (by rfl) (.plain rfl) (.plain rfl) (by simpa using hn) (by simp;omega) rfl fun nj pad=> ?_;refine sA ?_;refine aops_nil ?_;refine awp_ret ?_;exact retG (.inr rfl) (.cons (.tmp rfl) .nil) VShift.refl ⟨nj,pad,by rw [List.length_map];rfl,rfl⟩
theorem rest_c (z:Pn.Pl) (s:Pn.Fs) (hx:Pn.Pok z) (hs:Pn.Fsz s):ACalls Tryz.prog 41 [(AV.agg (encPl z)),(AV.agg (encFs s))] [] (fun v st=>v=(AV.agg (encPl (Pn.prest z s)))∧st=[]):=by
  refine acalls_body Tryz.func41 (by kernel_rfl) rfl Tryz.ntmps41 (le_ rfl) ?_;rw [Tryz.results41];have hxn:=hx.n;have hs1:=hs.st;refine asr ?_;refine sB fun n2=> ?_;refine sB fun n3=> ?_;refine sC fun n4=> ?_;refine aops_nil ?_;refine asr ?_;refine sF ?_;refine sL k2 ?_;refine aops_call (blt_lt rfl) (.plain rfl) (.cons (.plain rfl) .nil) (ACalls.updP (its:=[]) (.nil _) (cloneSg_c z.stages (by rintro e9;rw [e9] at hxn;simp at hxn) (by omega)) ?_);rintro v st ⟨nj,pad,rfl,rfl⟩;refine sF ?_;refine st_storeN (cs':=[_,_]) (by rfl) rfl (.plain rfl) (.plain rfl) (by exact u3) (le_ rfl) (by rfl) ?_;refine aops_nil ?_;refine awp_seq ?_;refine asr ?_;refine sF ?_;refine sL k3 ?_;refine st_p (fun _=>by exact y_lenArr (.plain rfl)) rfl ?_;refine sM ?_;refine aops_nil ?_;refine awp_block ?_;refine awp_loop2 (X:=Nat) [2,3,4,12,13] (.cons rfl (.cons rfl (.cons rfl (.cons rfl (.cons rfl .nil))))) (fun σ x=>((14,.int (x:Int)):Nat×AV)::σ) (fun R x=> .cells nj (((Pn.restK z s x).map encSg).flatten++pad)::R) (fun x=>x≤z.stages.length) (fun x=>z.stages.length - x) 0 (by exact Weak.of2 (by (repeat (first|exact .nil _|refine .cons rfl (by exact AV.Imp.refl _) ?_));done) (by (repeat (exact .refl _));done)) (Nat.zero_le _) ?_;rintro k hk;refine asr ?_;refine sS ?_;refine aops_nil ?_;refine awp_seq ?_;refine awp_cond rfl (fun h1=> ?_) (fun h1=> ?_)
  ·simp only [nf] at h1;have hkl:k<z.stages.length:=by omega
   refine awp_skip ?_;refine awp_seq ?_;refine awp_block ?_;refine awp_seq ?_;have hkL:k<(Pn.restK z s k).length:=by rw [Pn.restK_len];exact hkl
   obtain⟨YK,hYK⟩: ∃ y,z.stages[k]=y:=⟨_,rfl⟩
   have hYl:YK.items.length≤200:=by rw [←hYK];exact (Pn.sgchk_ok (hx.sg _ (List.getElem_mem hkl))).len
   have hgd:(Pn.restK z s k).getD k default=YK:=by rw [Pn.restK_get z s k k (Nat.le_refl _),List.getD,List.getElem?_eq_getElem hkl,Option.getD_some,hYK]
   have hgL:(Pn.restK z s k)[k]=YK:=by rw [List.getD,List.getElem?_eq_getElem hkL,Option.getD_some] at hgd;exact hgd
   refine awp_region ?_;refine sM ?_;refine st_p (fun _=>by exact y_indexArr (.plain rfl) (.plain rfl) rfl (by omega)) rfl ?_;refine st_p (fun _=>by exact y_loadRow (f:=encSg) (L:=(Pn.restK z s k)) (e:=YK) (pad:=pad) (j:=nj) (fun _=>rfl) (.plain rfl) (by exact .here) ⟨hkL,hgL⟩) rfl ?_;refine sC fun n6=> ?_;refine sA ?_;refine st_s (fun _=>by exact y_storeW (by rfl) rfl (.plain rfl) (.plain rfl) (by exact .here) (by rfl)) ?_;refine aops_nil ?_;refine awp_seq ?_;refine awp_any0 (ks:=[.free,.free,.free,.free,.free,.free,.free,.free,.free,.free,.free,.free,.free,.free,.free,.free,.free,.free,.free,.free,.free,.free,.free,.free,.free,.free,.free,.free,.free,.free,.free]) (by kernel_rfl) (fun K=> ?_) ?_
   ·refine rF ?_;refine rL .here ?_;refine rQ ?_;refine rM ?_;refine qM ?_;refine qF ?_;refine qL0 k3 ?_;refine qN0 ?_;refine qS01 ?_;refine rJ ?_;refine rM ?_;refine qF ?_;refine qL0 k3 ?_;refine qM ?_;refine dr_g rfl rfl rfl SaysI.out (fun hc _=>by exact y_indexT (l:=s.stages) (.opt rfl hc) (.opt rfl hc) (by omega) (by simp at hc;omega)) rfl ?_;refine dr_g rfl rfl rfl SaysI.out (fun hc _=>by exact y_fieldE (.opt rfl hc) (le_ rfl)) rfl ?_;refine qU0 ?_;refine dr_g rfl rfl rfl SaysI.out (fun hc _=>by exact y_geq (.opt rfl hc) (.plain rfl)) rfl ?_;refine rJ ?_;refine rM ?_;refine qF ?_;refine qL0 k3 ?_;refine qM ?_;refine dr_g rfl rfl rfl SaysI.out (fun hc _=>by exact y_indexT (l:=s.stages) (.opt rfl hc) (.opt rfl hc) (by omega) (by simp at hc;omega)) rfl ?_;refine dr_g rfl rfl rfl SaysI.out (fun hc _=>by exact y_fieldE (.opt rfl hc) (le_ rfl)) rfl ?_;refine qU0 ?_;refine qF ?_;refine qL0 .here ?_;refine qN0 ?_;refine qH01 ?_;refine rJ ?_;refine dr_nil ⟨rfl,?_⟩;refine awp_cond rfl (fun h2=> ?_) (fun h2=> ?_)
    ·simp only [nf] at h2;have hcd:YK.kind=1∧k<s.stages.length∧0≤(Pn.sst s (k:Int)).count∧(Pn.sst s (k:Int)).count≤(YK.items.length:Int):=by simpa [Pn.sst,and_assoc] using h2
     refine awp_anyT (ks:=[.free,.free,.free,.free,.free,.free,.free,.free,.free,.free,.free,.free,.free,.free,.free,.write]) [.cells nj _] (by apply Takes.cons (by exact k1);exact .nil _) (by kernel_rfl) (fun K=> ?_) ?_
     ·refine rF ?_;refine rL k3 ?_;refine rM ?_;refine rF ?_;refine rL .here ?_;refine rF ?_;refine rL k2 ?_;refine rM ?_;refine dr_p (fun _=>by exact y_indexT (l:=s.stages) (.plain rfl) (.plain rfl) (by omega) (by omega)) rfl ?_;refine dr_p (fun _=>by exact y_fieldE (.plain rfl) (le_ rfl)) rfl ?_;refine rU ?_;refine dr_p (fun _=>by exact y_sliceLoM (l:=(Pn.sst s (k:Int)).count.toNat) (.plain rfl) (.plain rfl) (Int.toNat_of_nonneg hcd.2.2.1).symm (by omega)) rfl ?_;refine dr_p (fun _=>by exact y_call (.plain rfl) (.cons (.plain rfl) .nil) (ACalls.pure (cloneI_c (YK.items.drop (Pn.sst s (k:Int)).count.toNat) (by rw [List.length_drop];omega)))) rfl ?_;refine dr_p (fun _=>by exact y_indexArr (.plain rfl) (.plain rfl) rfl (by omega)) rfl ?_;refine rF ?_;refine dr_s (fun _=>by exact y_store (by rfl) rfl (.plain rfl) (.plain rfl) (by exact .here) (by rw [List.length_append,sgrow_len,Pn.restK_len];simp;omega)) ?_;refine dr_nil ?_;rw [sgrow_set _ hkL];refine awp_region ?_;refine sY ?_ (hb:=by omega);refine sM ?_;refine aops_nil ?_;refine⟨k+1,by omega,by omega,?_⟩;rw [Pn.restK_t (by rw [hgd];exact hcd),hgd];exact Weak.of2 (by (repeat (first|exact .nil _|refine .cons rfl (by exact AV.Imp.refl _) ?_));done) (by (repeat (first|exact .nil _|apply ItLe2.cons (by first|exact .here|exact k1)));done)
     ·kernel_rfl
    ·simp only [nf] at h2;have hcd: ¬ (YK.kind=1∧k<s.stages.length∧0≤(Pn.sst s (k:Int)).count∧(Pn.sst s (k:Int)).count≤(YK.items.length:Int)):=by
      rintro⟨a9,b9,c9,d9⟩;simp_all [Pn.sst];try omega
     refine awp_skip ?_;refine awp_region ?_;refine sY ?_ (hb:=by omega);refine sM ?_;refine aops_nil ?_;refine⟨k+1,by omega,by omega,?_⟩;rw [Pn.restK_f (by rw [hgd];exact hcd)];exact Weak.of2 (by (repeat (first|exact .nil _|refine .cons rfl (by exact AV.Imp.refl _) ?_));done) (by (repeat (first|exact .nil _|apply ItLe2.cons (by exact k1)));done)
   ·kernel_rfl
  ·simp only [nf] at h1;refine awp_exit ?_;refine awp_seq ?_;refine awp_weak (Weak.freezeC (a:=n2) (j:=nj) (i:=0) (sz:=8) (pad:=pad) ?fa1 ?fb1 (.cons (by exact .here) (.cons (by exact k2) (.nil _)))) ?fc1
   case fa1=>intro x hx;obtain⟨b,_,rfl⟩:=List.mem_map.1 hx;rfl
   case fb1=>simp [Pn.restK_len];done
   simp only [List.set_cons_zero,List.set_cons_succ];refine awp_region ?_;refine sW .here ?_;refine st_s (fun _=>by exact y_storeW (by rfl) rfl (.plain rfl) (.plain rfl) (by exact u1) (by rfl)) ?_;refine aops_nil ?_;refine awp_ret ?_;refine retG (.inr rfl) (.cons (res_cellW rfl (by exact k1) (by rfl)) .nil) (VShift.of1 (AV.Imp.agg (RowOf.imp (enc:=encPl))) (.nil _)) ⟨congrArg (fun x:(Pn.Pl)=>(AV.agg (encPl x))) (show _=(Pn.prest z s) from ?_),rfl⟩;obtain rfl:k=z.stages.length:=by omega
   rfl
instance {a b c d e:Int} {n:ByteArray} {u v:AV} {l:List Pn.Ex} {m:List Int} [h:Sl u 5 encE l] [k:Sl v 1 Go.Aw.encI m]:RowOf [.val (.int .i64 a),.val (.int .i64 b),.val (.int .i64 c),.val (.int .i64 d),.val (.string n),.val (.int .i64 e),u,v] encSg ⟨a,b,.mk c d n e l,m⟩:=
  ⟨.cons (AV.Imp.refl _) (.cons (AV.Imp.refl _) (.cons (AV.Imp.refl _) (.cons (AV.Imp.refl _) (.cons (AV.Imp.refl _) (.cons (AV.Imp.refl _) (.cons (h.imp.trans (AV.Imp.of_eq (by rw [←encExs_map];rfl))) (.cons k.imp .nil)))))))⟩
theorem split_c (z:Pn.Pl) (l m:List Int) (n:Int) (hz:z.stages.length≤1000000∧z.pipes.length≤1000000) (hl:l.length≤1000000) (hm:m.length≤1000000):ACalls Tryz.prog 19 [(AV.agg (encPl z)),(AV.sl 1 (List.map Go.Aw.encI l)),(AV.sl 1 (List.map Go.Aw.encI m)),(AV.int n)] [] (fun v st=>v=(AV.tup [(AV.sl 1 (List.map encLI ((Pn.psplit z l m n).1))),(AV.sl 1 (List.map encLI ((Pn.psplit z l m n).2.1))),(AV.bool ((Pn.psplit z l m n).2.2))])∧st=[]):=by
  refine acalls_body Tryz.func19 (by kernel_rfl) rfl Tryz.ntmps19 (le_ rfl) ?_;rw [Tryz.results19];have hs1:=Pn.prun_sz z (Pn.pnew z).1 l n;have hs2:=Pn.pbegin_sz (x:=z) hs1;have hs3:=Pn.prun_sz z (Pn.pbegin z (Pn.prun z (Pn.pnew z).1 l n).1).1 m 5000;have hs4:=Pn.pnew_sz (Pn.prest z (Pn.prun z (Pn.pnew z).1 l n).1);have hs5:=Pn.prun_sz (Pn.prest z (Pn.prun z (Pn.pnew z).1 l n).1) (Pn.pnew (Pn.prest z (Pn.prun z (Pn.pnew z).1 l n).1)).1 l 5000;have hyz:(Pn.prest z (Pn.prun z (Pn.pnew z).1 l n).1).stages.length≤1000000∧(Pn.prest z (Pn.prun z (Pn.pnew z).1 l n).1).pipes.length≤1000000:=⟨by show (Pn.restK z _ _).length≤_;rw [Pn.restK_len];exact hz.1,hz.2⟩
  refine asr ?_;refine sB fun n4=> ?_;refine sA ?_;refine sA ?_;refine sA ?_;refine aops_nil ?_;refine asr ?_;refine sW .here ?_;refine aops_call (blt_lt rfl) (.plain rfl) (.cons (.imp (.plain rfl) (AV.Imp.agg (RowOf.imp (enc:=encPl)))) .nil) (ACalls.here (pnew_c z hz) ?_);refine sM ?_;refine sE ?_;refine sE ?_;refine sC fun n11=> ?_;refine st_s (fun _=>by exact y_storeW (by rfl) rfl (.plain rfl) (.plain rfl) (by exact .here) (by rfl)) ?_;refine sA ?_;refine aops_nil ?_;refine asr ?_;refine sW k1 ?_;refine sW .here ?_;refine sM ?_;refine sM ?_;refine aops_call (blt_lt rfl) (.plain rfl) (.cons (.imp (.plain rfl) (AV.Imp.agg (RowOf.imp (enc:=encPl)))) (.cons (.imp (.plain rfl) (AV.Imp.agg (RowOf.imp (enc:=encFs)))) (.cons (.imp (.plain rfl) (Sl.imp (enc:=Go.Aw.encI))) (.cons (.plain rfl) .nil)))) (ACalls.here (run_c z (Pn.pnew z).1 l n hz (Pn.pnew_sz z) hl) ?_);refine sM ?_;refine sE ?_;refine sE ?_;refine sE ?_;refine st_s (fun _=>by exact y_storeW (by rfl) rfl (.plain rfl) (.plain rfl) (by exact .here) (by rfl)) ?_;refine sA ?_;refine sA ?_;refine aops_nil ?_;refine awp_seq ?_;refine asr ?_;refine sM ?_;refine sR ?_;refine sM ?_;refine gM ?_;refine gR0 ?_;refine sK ?_;refine aops_nil ?_;refine awp_cond rfl (fun h1=> ?_) (fun h1=> ?_)
  ·simp only [nf] at h1;have hc9:(Pn.pnew z).2≠0∨(Pn.prun z (Pn.pnew z).1 l n).2.2≠0:=h1;refine asr ?_;refine sA ?_;refine sA ?_;refine sA ?_;refine aops_nil ?_;refine awp_ret ?_;refine retG (.inr rfl) (.cons (.tmp rfl) (.cons (.tmp rfl) (.cons (.tmp rfl) .nil))) (VShift.of2 (AV.Imp.tup (.cons (Sl.imp (enc:=encLI)) (.cons (Sl.imp (enc:=encLI)) (.cons (AV.Imp.refl _) .nil)))) (.nil _)) ⟨congrArg (fun x:(List (List Int))×(List (List Int))×(Bool)=>(AV.tup [(AV.sl 1 (List.map encLI x.1)),(AV.sl 1 (List.map encLI x.2.1)),(AV.bool x.2.2)])) (show (_,_,_)=(Pn.psplit z l m n) from ?_),rfl⟩;rw [Pn.psplit];dsimp only;rw [if_pos hc9];all_goals rfl
  ·simp only [nf] at h1;have hc9: ¬ ((Pn.pnew z).2≠0∨(Pn.prun z (Pn.pnew z).1 l n).2.2≠0):=by
    rintro (e9|e9)
    ·exact e9 h1.1
    ·exact e9 h1.2
   have hxz:=Pn.pnew_pok (Classical.not_not.1 (fun e=>hc9 (.inl e)));refine awp_skip ?_;refine asr ?_;refine sW k1 ?_;refine sW .here ?_;refine aops_call (blt_lt rfl) (.plain rfl) (.cons (.imp (.plain rfl) (AV.Imp.agg (RowOf.imp (enc:=encPl)))) (.cons (.imp (.plain rfl) (AV.Imp.agg (RowOf.imp (enc:=encFs)))) .nil)) (ACalls.here (begin2_c z (Pn.prun z (Pn.pnew z).1 l n).1 hz hs1) ?_);refine sM ?_;refine sE ?_;refine sE ?_;refine sC fun n15=> ?_;refine st_s (fun _=>by exact y_storeW (by rfl) rfl (.plain rfl) (.plain rfl) (by exact .here) (by rfl)) ?_;refine sA ?_;refine aops_nil ?_;refine asr ?_;refine sW k2 ?_;refine sW .here ?_;refine sM ?_;refine aops_call (blt_lt rfl) (.plain rfl) (.cons (.imp (.plain rfl) (AV.Imp.agg (RowOf.imp (enc:=encPl)))) (.cons (.imp (.plain rfl) (AV.Imp.agg (RowOf.imp (enc:=encFs)))) (.cons (.imp (.plain rfl) (Sl.imp (enc:=Go.Aw.encI))) (.cons (.plain rfl) .nil)))) (ACalls.here (run_c z (Pn.pbegin z (Pn.prun z (Pn.pnew z).1 l n).1).1 m 5000 hz hs2 hm) ?_);refine sM ?_;refine sE ?_;refine sE ?_;refine sE ?_;refine st_s (fun _=>by exact y_storeW (by rfl) rfl (.plain rfl) (.plain rfl) (by exact .here) (by rfl)) ?_;refine sA ?_;refine sA ?_;refine aops_nil ?_;refine asr ?_;refine sW k2 ?_;refine sW k1 ?_;refine aops_call (blt_lt rfl) (.plain rfl) (.cons (.imp (.plain rfl) (AV.Imp.agg (RowOf.imp (enc:=encPl)))) (.cons (.imp (.plain rfl) (AV.Imp.agg (RowOf.imp (enc:=encFs)))) .nil)) (ACalls.here (rest_c z (Pn.prun z (Pn.pnew z).1 l n).1 hxz hs1) ?_);refine sC fun n19=> ?_;refine st_s (fun _=>by exact y_storeW (by rfl) rfl (.plain rfl) (.plain rfl) (by exact .here) (by rfl)) ?_;refine aops_nil ?_;refine asr ?_;refine sW .here ?_;refine aops_call (blt_lt rfl) (.plain rfl) (.cons (.imp (.plain rfl) (AV.Imp.agg (RowOf.imp (enc:=encPl)))) .nil) (ACalls.here (pnew_c (Pn.prest z (Pn.prun z (Pn.pnew z).1 l n).1) hyz) ?_);refine sM ?_;refine sE ?_;refine sE ?_;refine sC fun n20=> ?_;refine st_s (fun _=>by exact y_storeW (by rfl) rfl (.plain rfl) (.plain rfl) (by exact .here) (by rfl)) ?_;refine sA ?_;refine aops_nil ?_;refine asr ?_;refine sW k1 ?_;refine sW .here ?_;refine sM ?_;refine aops_call (blt_lt rfl) (.plain rfl) (.cons (.imp (.plain rfl) (AV.Imp.agg (RowOf.imp (enc:=encPl)))) (.cons (.imp (.plain rfl) (AV.Imp.agg (RowOf.imp (enc:=encFs)))) (.cons (.imp (.plain rfl) (Sl.imp (enc:=Go.Aw.encI))) (.cons (.plain rfl) .nil)))) (ACalls.here (run_c (Pn.prest z (Pn.prun z (Pn.pnew z).1 l n).1) (Pn.pnew (Pn.prest z (Pn.prun z (Pn.pnew z).1 l n).1)).1 l 5000 hyz hs4 hl) ?_);refine sM ?_;refine sE ?_;refine sE ?_;refine sE ?_;refine st_s (fun _=>by exact y_storeW (by rfl) rfl (.plain rfl) (.plain rfl) (by exact .here) (by rfl)) ?_;refine sA ?_;refine sA ?_;refine aops_nil ?_;refine asr ?_;refine sM ?_;refine sQ ?_;refine sM ?_;refine gM ?_;refine gQ0 ?_;refine sJ ?_;refine sM ?_;refine gM ?_;refine gQ0 ?_;refine sJ ?_;refine sM ?_;refine gM ?_;refine gQ0 ?_;refine sJ ?_;refine sM ?_;refine gW k4 ?_;refine gW k2 ?_;refine st_g rfl rfl rfl SaysI.out (fun hc _=>by exact y_call (.plain rfl) (.cons (.imp (.opt rfl hc) (AV.Imp.agg (RowOf.imp (enc:=encPl)))) (.cons (.imp (.opt rfl hc) (AV.Imp.agg (RowOf.imp (enc:=encFs)))) .nil)) (ACalls.pure (fin_c z (Pn.prun z (Pn.pbegin z (Pn.prun z (Pn.pnew z).1 l n).1).1 m 5000).1 hz hs3))) rfl ?_;refine sJ ?_;refine sM ?_;refine gW k1 ?_;refine gW .here ?_;refine st_g rfl rfl rfl SaysI.out (fun hc _=>by exact y_call (.plain rfl) (.cons (.imp (.opt rfl hc) (AV.Imp.agg (RowOf.imp (enc:=encPl)))) (.cons (.imp (.opt rfl hc) (AV.Imp.agg (RowOf.imp (enc:=encFs)))) .nil)) (ACalls.pure (fin_c (Pn.prest z (Pn.prun z (Pn.pnew z).1 l n).1) (Pn.prun (Pn.prest z (Pn.prun z (Pn.pnew z).1 l n).1) (Pn.pnew (Pn.prest z (Pn.prun z (Pn.pnew z).1 l n).1)).1 l 5000).1 hyz hs5))) rfl ?_;refine sJ ?_;refine sA ?_;refine aops_nil ?_;refine awp_seq ?_;refine awp_any0 (ks:=[.free,.free,.free,.free,.free,.free,.free,.free]) (by kernel_rfl) (fun K=> ?_) ?_
   ·refine rF ?_;refine rL k2 ?_;refine rF ?_;refine rL .here ?_;refine rM ?_;refine rA ?_;refine rA ?_;refine rA ?_;refine dr_nil ⟨rfl,?_⟩;refine awp_ret ?_;refine retG (.inr rfl) (.cons (.tmp rfl) (.cons (.tmp rfl) (.cons (.tmp rfl) .nil))) (VShift.of2 (AV.Imp.tup (.cons (Sl.imp (enc:=encLI)) (.cons (Sl.imp (enc:=encLI)) (.cons (AV.Imp.refl _) .nil)))) (.nil _)) ⟨congrArg (fun x:(List (List Int))×(List (List Int))×(Bool)=>(AV.tup [(AV.sl 1 (List.map encLI x.1)),(AV.sl 1 (List.map encLI x.2.1)),(AV.bool x.2.2)])) (show (_,_,_)=(Pn.psplit z l m n) from ?_),rfl⟩;rw [Pn.psplit];dsimp only;rw [if_neg hc9];all_goals rfl
   ·kernel_rfl
theorem split0_c:ACalls Tryz.prog 19 [.agg (encPl Pn.awX),.sl 1 (([]:List Int).map Go.Aw.encI),.sl 1 (([]:List Int).map Go.Aw.encI),.int 2] [] (fun v st=>v= .tup [.sl 1 (([[1,1,2,2]]:List (List Int)).map encLI),.sl 1 (([[3,3]]:List (List Int)).map encLI),.bool true]∧st=[]):=by
  have h:=split_c Pn.awX [] [] 2 (by decide) (by decide) (by decide);rw [Pn.awake] at h;exact h
theorem awake_c :ACalls Tryz.prog 6 [] [] (fun v st=>v=(AV.bool (true))∧st=[]):=by
  refine acalls_body Tryz.func6 (by kernel_rfl) rfl Tryz.ntmps6 (le_ rfl) ?_;rw [Tryz.results6];refine asr ?_;refine sA ?_;refine aops_nil ?_;refine asr ?_;refine st_p (fun _=>by exact y_buildSlice (.cons (.plain rfl) inferInstance (by rfl) (.cons (.plain rfl) inferInstance (by rfl) (.cons (.plain rfl) inferInstance (by rfl) .nil))) rfl (le_ rfl)) rfl ?_;refine st_p (fun _=>by exact y_build (out:=[_,_,_,_,_,_,_,_]) (.cons (.plain rfl) inferInstance rfl (.cons (.plain rfl) inferInstance rfl .nil)) rfl rfl) rfl ?_;refine st_p (fun _=>by exact y_build (out:=[_,_,_,_,_,_,_,_]) (.cons (.plain rfl) inferInstance rfl (.cons (.plain rfl) inferInstance rfl .nil)) rfl rfl) rfl ?_;refine st_p (fun _=>by exact y_build (out:=[_,_,_,_,_,_,_,_]) (.cons (.plain rfl) inferInstance rfl .nil) rfl rfl) rfl ?_;refine st_p (fun _=>by exact y_buildSlice (.cons (.plain rfl) inferInstance (by rfl) (.cons (.plain rfl) inferInstance (by rfl) (.cons (.plain rfl) inferInstance (by rfl) .nil))) rfl (le_ rfl)) rfl ?_;refine st_p (fun _=>by exact y_build (out:=[_,_,_,_,_]) (.cons (.plain rfl) inferInstance rfl (.cons (.plain rfl) inferInstance rfl (.cons (.plain rfl) inferInstance rfl .nil))) rfl rfl) rfl ?_;refine st_p (fun _=>by exact y_build (out:=[_,_,_,_,_]) (.cons (.plain rfl) inferInstance rfl (.cons (.plain rfl) inferInstance rfl (.cons (.plain rfl) inferInstance rfl .nil))) rfl rfl) rfl ?_;refine st_p (fun _=>by exact y_buildSlice (.cons (.plain rfl) inferInstance (by rfl) (.cons (.plain rfl) inferInstance (by rfl) .nil)) rfl (le_ rfl)) rfl ?_;refine st_p (fun _=>by exact y_build (out:=[_,_]) (.cons (.plain rfl) inferInstance rfl (.cons (.plain rfl) inferInstance rfl .nil)) rfl rfl) rfl ?_;refine sC fun n1=> ?_;refine st_s (fun _=>by exact y_storeW (by rfl) rfl (.plain rfl) (.plain rfl) (by exact .here) (by rfl)) ?_;refine aops_nil ?_;refine asr ?_;refine sW .here ?_;refine aops_call (blt_lt rfl) (.plain rfl) (.cons (.imp (.plain rfl) (AV.Imp.row_of (enc:=encPl) (a':=Pn.awX) rfl)) (.cons (.imp (.plain rfl) (Sl.imp (sz:=1) (enc:=Go.Aw.encI))) (.cons (.imp (.plain rfl) (Sl.imp (sz:=1) (enc:=Go.Aw.encI))) (.cons (.plain rfl) .nil)))) (ACalls.here split0_c ?_);refine sM ?_;refine sE ?_;refine sE ?_;refine sE ?_;refine sA ?_;refine sA ?_;refine sA ?_;refine aops_nil ?_;refine asr ?_;refine sM ?_;refine sM ?_;refine gM ?_;refine st_g rfl rfl rfl SaysI.out (fun hc _=>by exact y_buildSlice (.cons (.plain rfl) inferInstance (by rfl) (.cons (.plain rfl) inferInstance (by rfl) (.cons (.plain rfl) inferInstance (by rfl) (.cons (.plain rfl) inferInstance (by rfl) .nil)))) rfl (le_ rfl)) rfl ?_;refine st_g rfl rfl rfl SaysI.out (fun hc _=>by exact y_buildSlice (.cons (.opt rfl hc) inferInstance (by rfl) .nil) rfl (le_ rfl)) rfl ?_;refine st_g rfl rfl rfl SaysI.out (fun hc _=>by exact y_call (.plain rfl) (.cons (.imp (.opt rfl hc) (Sl.imp (enc:=encLI))) (.cons (.imp (.opt rfl hc) (Sl.imp (enc:=encLI))) .nil)) (ACalls.pure (sameLL_c [[1,1,2,2]] [[1,1,2,2]] (by decide) (by simp)))) rfl ?_;refine sJ ?_;refine sM ?_;refine gM ?_;refine st_g rfl rfl rfl SaysI.out (fun hc _=>by exact y_buildSlice (.cons (.plain rfl) inferInstance (by rfl) (.cons (.plain rfl) inferInstance (by rfl) .nil)) rfl (le_ rfl)) rfl ?_;refine st_g rfl rfl rfl SaysI.out (fun hc _=>by exact y_buildSlice (.cons (.opt rfl hc) inferInstance (by rfl) .nil) rfl (le_ rfl)) rfl ?_;refine st_g rfl rfl rfl SaysI.out (fun hc _=>by exact y_call (.plain rfl) (.cons (.imp (.opt rfl hc) (Sl.imp (enc:=encLI))) (.cons (.imp (.opt rfl hc) (Sl.imp (enc:=encLI))) .nil)) (ACalls.pure (sameLL_c [[3,3]] [[3,3]] (by decide) (by simp)))) rfl ?_;refine sJ ?_;refine sA ?_;refine aops_nil ?_;refine awp_ret ?_;refine retG (.inr rfl) (.cons (.tmp rfl) .nil) (VShift.of1 (AV.Imp.refl _) (.nil _)) ⟨congrArg (fun x:(Bool)=>(AV.bool x)) (show _=(true) from ?_),rfl⟩;decide
end Go.Proofs
namespace Go.Aw
open Go.RowKit (Below)
def RdN (P:Program) (N:Nat) (T:TypeId) {α:Type} (f:α→List AV) (ok:α→Prop):Prop:=
  ∀ (H:Type) (enc:TypeId×Value→H) (W:World) (fuel:Nat) (cs:List Value) (x:DataW H×List MemPlace),fuel≤N→DataW.trod enc P W 0 (fun _=>true) true fuel T cs=some x→
   ∃ a,ok a∧holdsL (g0 W) (f a) cs∧ ∀ u∈cs,u.oneCell'=true
theorem RdT.n {P:Program} {T:TypeId} {α:Type} {f:α→List AV} {ok:α→Prop} (h:RdT P T f ok) (N:Nat):RdN P N T f ok:=fun H enc W fuel cs x _ hx=>h H enc W fuel cs x hx
theorem RdT.of_n {P:Program} {T:TypeId} {α:Type} {f:α→List AV} {ok:α→Prop} (h: ∀ N,RdN P N T f ok):RdT P T f ok:=fun H enc W fuel cs x hx=>h fuel H enc W fuel cs x (Nat.le_refl _) hx
theorem RdN.map {P:Program} {N:Nat} {T:TypeId} {α β:Type} {f:α→List AV} {ok:α→Prop} (h:RdN P N T f ok) (φ:α→β) {f':β→List AV} {ok':β→Prop} (hf: ∀ a,f' (φ a)=f a) (hok: ∀ a,ok a→ok' (φ a)):RdN P N T f' ok':=by
  intro H enc W fuel cs x hN hx;obtain⟨a,h1,h2,h3⟩:=h H enc W fuel cs x hN hx;exact⟨φ a,hok a h1,by rw [hf];exact h2,h3⟩
theorem RdN.slice {P:Program} {N:Nat} {T E sz by_:Nat} {α:Type} {f:α→List AV} {ok:α→Prop} (h:RdN P N E f ok) (ht:SliceT P T E sz by_):RdN P N T (fun l:List α=>[.sl sz (l.map f)]) (fun l=>l.length≤9223372036854775807∧ ∀ a∈l,ok a):=by
  intro H enc W fuel cs x hN hx;have hcell:P.cellsOf E=sz:=by
   have:=ht.hsize;unfold sizeB at this;unfold Program.cellsOf;rw [this];rfl
  rcases DataW.trod_slice ht.und hx with ⟨rfl,_⟩|⟨a,len,cap,elems,rest,n,hfu,rfl,_,_,hl,hm,hlen,hel0,_,_⟩
  ·exact⟨[],⟨by simp,by simp⟩,⟨(inferInstance:Rd (.val (.slice none 0 0)) sz []).imp _ _ (AV.val_self _),trivial⟩,by simp;rfl⟩
  ·rw [hcell] at hel0;have hel: ∀ i,i<len→ ∃ cs' x',W.cells? 0 (a.add (i*sz)) sz=some cs'∧DataW.trod enc P W 0 (fun _=>true) true n E cs'=some x':=by
    intro i hi;have:=hel0 i hi;rw [List.getElem?_eq_getElem (by omega),Option.bind_eq_some_iff] at this;obtain⟨cs',h1,h2⟩:=this;exact⟨cs',_,h1,h2⟩
   have key: ∀ k,k≤len→ ∃ l:List α,l.length=k∧(∀ a∈l,ok a)∧(∀ x∈l.map f,x.length=sz)∧(0<k→ ∃ b o,a=⟨b,o,none⟩∧comRow (g0 W) b (o+(len - k)*sz) (l.map f).flatten):=by
    intro k;induction k with
    |zero=>intro _;exact⟨[],rfl,by simp,by simp,by omega⟩
    |succ k ih=>
     intro hk;obtain⟨l,h1,h2,h3,h4⟩:=ih (by omega);obtain⟨cs',x',hc,htr⟩:=hel (len - (k+1)) (by omega);obtain⟨a0,k1,k2,k3⟩:=h H enc W n cs' _ (by omega) htr;unfold World.cells? at hc;rw [if_pos (Nat.zero_le _)] at hc;obtain⟨c1,c2⟩:=mapM_range_some hc;have hlen:(f a0).length=sz:=by rw [k2.length,c1]
     have hsp: ∃ b o,a=⟨b,o,none⟩:=by
      obtain⟨b,o,s⟩:=a;refine⟨b,o,?_⟩;obtain⟨cs0,x0,hc0,_⟩:=hel 0 (by omega);unfold World.cells? at hc0;rw [if_pos (Nat.zero_le _)] at hc0;obtain⟨e1,e2⟩:=mapM_range_some hc0;have:=e2 0 ht.pos;rw [List.getElem?_eq_getElem (by have:=ht.pos;omega)] at this;simp only [Nat.zero_mul,Addr.add,if_pos] at this;cases s with
      |none=>rfl
      |some s=>
       unfold World.cell? at this;split at this<;>simp at this
     obtain⟨b,o,rfl⟩:=hsp;refine⟨a0::l,by simp [h1],fun x hx=>(List.mem_cons.1 hx).elim (fun e=>e ▸ k1) (h2 x),fun x hx=> ?_,fun _=>⟨b,o,rfl,?_⟩⟩
     ·rw [List.map_cons] at hx;exact (List.mem_cons.1 hx).elim (fun e=>e ▸ hlen) (h3 x)
     ·rw [List.map_cons,List.flatten_cons];refine comRow.append (comRow.of k2 k3 (fun i v hv=> ?_)) ?_
      ·have hi:i<sz:=by
        rcases Nat.lt_or_ge i cs'.length with hh|hh
        ·omega
        ·rw [List.getElem?_eq_none hh] at hv;cases hv
       have:=c2 i hi;rw [hv] at this;simp only [Addr.add_mk] at this;exact this
      ·rw [hlen];rcases Nat.eq_zero_or_pos k with hk0|hk0
       ·subst hk0;have:l=[]:=List.eq_nil_of_length_eq_zero h1;subst this;exact trivial
       ·obtain⟨b',o',e,hr⟩:=h4 hk0;cases e;have e2:o+(len - (k+1))*sz+sz=o+(len - k)*sz:=by
         rw [show len - k=(len - (k+1))+1 by omega,Nat.add_mul,Nat.one_mul];omega
        rw [e2];exact hr
   obtain⟨l,h1,h2,h3,h4⟩:=key len (Nat.le_refl _);refine⟨l,⟨by
    have:maxLen=9223372036854775807:=by decide
    omega,h2⟩,⟨?_,trivial⟩,by simp;rfl⟩
   rw [AV.sl_holds];refine⟨some a,cap,by simp [h1],by simp [h1,hl],h3,fun hne=> ?_⟩;have hpos:0<len:=by
    rcases Nat.eq_zero_or_pos len with h0|h0
    ·rw [h0] at h1;have:l=[]:=List.eq_nil_of_length_eq_zero h1;subst this;exact absurd rfl hne
    ·exact h0
   obtain⟨b,o,rfl,hr⟩:=h4 hpos;exact⟨b,o,rfl,by simpa using hr⟩
theorem RdT.sliceL {P:Program} {T E sz by_:Nat} {α:Type} {f:α→List AV} {ok:α→Prop} (h:RdT P E f ok) (ht:SliceT P T E sz by_):RdT P T (fun l:List α=>[.sl sz (l.map f)]) (fun l=>l.length≤9223372036854775807∧ ∀ a∈l,ok a):=
  RdT.of_n fun N=>(h.n N).slice ht
inductive RdSN (P:Program) (N:Nat):List Field→Nat→(α:Type)→(α→List AV)→(α→Prop)→Nat→Prop
  |nil {o:Nat}:RdSN P N [] o Unit (fun _=>[]) (fun _=>True) o
  |cons {fl:Field} {fs:List Field} {o s e:Nat} {α β:Type} {f:α→List AV} {ok:α→Prop} {F:β→List AV} {ok':β→Prop} (h:RdN P N fl.type f ok) (ho:fl.offset=o) (hs:P.cellsOf fl.type=s) (r:RdSN P N fs (o+s) β F ok' e):
   RdSN P N (fl::fs) o (α×β) (fun x=>f x.1++F x.2) (fun x=>ok x.1∧ok' x.2) e
theorem RdSN.read {P:Program} {N:Nat} {fs:List Field} {o e:Nat} {α:Type} {F:α→List AV} {ok:α→Prop} (h:RdSN P N fs o α F ok e): ∀ {H:Type} {enc:TypeId×Value→H} {W:World} {n:Nat} {cs:List Value},n≤N→cs.length=e→
  (∀ (i:Nat) (fl:Field),fs[i]?=some fl→ ∃ x,DataW.trod enc P W 0 (fun _=>true) true n fl.type ((cs.drop fl.offset).take (P.cellsOf fl.type))=some x)→ ∃ a,ok a∧holdsL (g0 W) (F a) (cs.drop o)∧ ∀ u∈cs.drop o,u.oneCell'=true:=by
  induction h with
  |nil=>intro H enc W n cs hN hl _;exact⟨(),trivial,by rw [List.drop_of_length_le (by omega)];trivial,by rw [List.drop_of_length_le (by omega)];simp⟩
  | @cons fl fs o s e α β f ok F ok' h ho hs _ ih=>
   intro H enc W n cs hN hl hf;obtain⟨x,hx⟩:=hf 0 fl rfl;rw [ho,hs] at hx;obtain⟨a,k1,k2,k3⟩:=h H enc W n _ _ hN hx;obtain⟨b,m1,m2,m3⟩:=ih (enc:=enc) (W:=W) (n:=n) hN hl (fun i fl' hfl=>hf (i+1) fl' (by simpa using hfl));have hsplit:cs.drop o=(cs.drop o).take s++cs.drop (o+s):=by rw [←List.drop_drop,List.take_append_drop]
   refine⟨(a,b),⟨k1,m1⟩,?_,?_⟩
   ·rw [hsplit];exact k2.append m2
   ·rw [hsplit];exact fun u hu=>(List.mem_append.1 hu).elim (k3 u) (m3 u)
theorem RdN.struct {P:Program} {N T e:Nat} {fs:Array Field} {α:Type} {F:α→List AV} {ok:α→Prop} (hu:P.underlying T=some (.struct fs)) (h:RdSN P N fs.toList 0 α F ok e) (he:P.cellsOf T=e):RdN P (N+1) T F ok:=by
  intro H enc W fuel cs x hN hx;obtain⟨xs,n,hn,_,hl,hlen,hf⟩:=DataW.trod_struct hu hx;have:=h.read (enc:=enc) (W:=W) (n:=n) (cs:=cs) (by omega) (by rw [hl,he]) (fun i fl hfl=>by
   have h1:=hf i fl (by simpa using hfl);have hi:i<fs.size:=by
    rcases Nat.lt_or_ge i fs.toList.length with h|h
    ·simpa using h
    ·rw [List.getElem?_eq_none h] at hfl;cases hfl
   exact⟨xs[i]'(by omega),by rw [h1,List.getElem?_eq_getElem (by omega)]⟩)
  simpa using this
theorem RdN.zero {P:Program} {T:TypeId} {fs:Array Field} {α:Type} {f:α→List AV} {ok:α→Prop} (hu:P.underlying T=some (.struct fs)):RdN P 0 T f ok:=by
  intro H enc W fuel cs x hN hx;obtain⟨xs,n,hn,_⟩:=DataW.trod_struct hu hx;omega
end Go.Aw
set_option maxRecDepth 10000
namespace Go.Proofs
open Go.Aw Wl Pn
theorem ownK:ownKnob Tryz.prog.godebug=none:=by kernel_rfl
theorem laidK:laidOutB Tryz.prog=true:=by kernel_rfl
theorem rdExN: ∀ N,RdN Tryz.prog N 51 encE (fun _=>True)
  |0=>RdN.zero Tryz.underlying51
  |N+1=>RdN.map (RdN.struct Tryz.underlying51 (.cons (s:=1) (RdT.n (RdT.i64 Tryz.underlying3) N) rfl (by kernel_rfl) (.cons (s:=1) (RdT.n (RdT.i64 Tryz.underlying3) N) rfl (by kernel_rfl) (.cons (s:=1) (RdT.n (RdT.string Tryz.underlying9) N) rfl (by kernel_rfl) (.cons (s:=1) (RdT.n (RdT.i64 Tryz.underlying3) N) rfl (by kernel_rfl) (.cons (s:=1) ((rdExN N).slice inferInstance) rfl (by kernel_rfl) .nil))))) (by kernel_rfl)) (fun x=>Pn.Ex.mk x.1 x.2.1 x.2.2.1 x.2.2.2.1 x.2.2.2.2.1) (fun x=>by show [_,_,_,_,AV.sl 5 (encExs x.2.2.2.2.1)]=[_,_,_,_,AV.sl 5 (x.2.2.2.2.1.map encE)];rw [encExs_map];rfl) (fun _ _=>trivial)
theorem rdEx:RdT Tryz.prog 51 encE (fun _=>True):=RdT.of_n rdExN
theorem rdLI0:RdT Tryz.prog 26 (fun l:List Int=>[AV.sl 1 (l.map Go.Aw.encI)]) (fun _=>True):=RdT.map (RdT.slice (RdT.i64 Tryz.underlying3) inferInstance) (fun l=>l) (fun _=>rfl) (fun _ _=>trivial)
theorem rdSg:RdT Tryz.prog 53 encSg (fun _=>True):=RdT.map (RdT.struct Tryz.underlying53 (.cons (s:=1) (RdT.i64 Tryz.underlying3) rfl (by kernel_rfl) (.cons (s:=1) (RdT.i64 Tryz.underlying3) rfl (by kernel_rfl) (.cons (s:=5) (rdEx) rfl (by kernel_rfl) (.cons (s:=1) (rdLI0) rfl (by kernel_rfl) .nil)))) (by kernel_rfl)) (fun x=>(⟨x.1,x.2.1,x.2.2.1,x.2.2.2.1⟩:Pn.Sg)) (fun _=>rfl) (fun _ _=>trivial)
theorem rdPp:RdT Tryz.prog 43 encPp (fun _=>True):=RdT.map (RdT.struct Tryz.underlying43 (.cons (s:=1) (RdT.i64 Tryz.underlying3) rfl (by kernel_rfl) (.cons (s:=1) (RdT.i64 Tryz.underlying3) rfl (by kernel_rfl) (.cons (s:=1) (RdT.i64 Tryz.underlying3) rfl (by kernel_rfl) (.cons (s:=1) (RdT.i64 Tryz.underlying3) rfl (by kernel_rfl) (.cons (s:=1) (RdT.i64 Tryz.underlying3) rfl (by kernel_rfl) .nil))))) (by kernel_rfl)) (fun x=>(⟨x.1,x.2.1,x.2.2.1,x.2.2.2.1,x.2.2.2.2.1⟩:Pn.Pp)) (fun _=>rfl) (fun _ _=>trivial)
theorem rdPl:RdT Tryz.prog 25 encPl (fun z=>z.stages.length≤9223372036854775807):=RdT.map (RdT.struct Tryz.underlying25 (.cons (s:=1) (RdT.sliceL rdSg inferInstance) rfl (by kernel_rfl) (.cons (s:=1) (RdT.slice rdPp inferInstance) rfl (by kernel_rfl) .nil)) (by kernel_rfl)) (fun x=>(⟨x.1,x.2.1⟩:Pn.Pl)) (fun _=>rfl) (fun _ h=>h.1.1)
theorem rdU:RdT Tryz.prog 5 (fun n:Int=>[AV.val (.int .u8 n)]) (fun n=>0≤n∧n≤255):=RdT.u8 Tryz.underlying5
theorem rdB:RdT Tryz.prog 4 (fun b:Bool=>[AV.bool b]) (fun _=>True):=RdT.bool Tryz.underlying4
end Go.Proofs
namespace Pn
def mrg:List Int→List Int→List Int
  | [],b=>b
  |x::a,b=>x::mrg b a
termination_by a b=>a.length+b.length
theorem mrg_nil (b:List Int):mrg [] b=b:=by rw [mrg]
theorem mrg_cons (x:Int) (a b:List Int):mrg (x::a) b=x::mrg b a:=by rw [mrg]
def rzipK (y:Sg) (a b:List Int) (r:Rn):Nat→Rn
  |0=>r
  |k+1=>rsend (reval y (rzipK y a b r k) (a.getD k default) (b.getD k default)).1 0 (reval y (rzipK y a b r k) (a.getD k default) (b.getD k default)).2
def rall (y:Sg) (r:Rn) (l:List Int):Rn:=l.foldl (fun r v=>rtake y r 0 v) r
def swhole (y:Sg) (l:List (List Int)) (r:Rn):Rn:=
  if y.kind=1 then {r with out:=r.out.set 0 y.items}
  else if y.kind=8 then {r with out:=r.out.set 0 (mrg (l.getD 0 []) (l.getD 1 []))}
  else if y.kind=9 then rzipK y (l.getD 0 []) (l.getD 1 []) r (min (l.getD 0 []).length (l.getD 1 []).length)
  else rfin y (rall y r (l.getD 0 [])) 0
def lchk (l:List Int):Int:=if 200<l.length then 4 else if l.any (fun n=> !num n)=true then 2 else 0
def lchks:List (List Int)→Int
  | []=>0
  |l::r=>if lchk l≠0 then lchk l else lchks r
def smean (y:Sg) (l:List (List Int)):List (List Int)×Int:=
  if sgchk y≠0 then ([],sgchk y)
  else if (l.length:Int)≠hin y.kind then ([],10)
  else if lchks l≠0 then ([],lchks l)
  else if (swhole y l (rnew y S0)).err≠0 then ([],(swhole y l (rnew y S0)).err)
  else if (swhole y l (rnew y S0)).out.any (fun l=>decide (200<l.length))=true then ([],4)
  else ((swhole y l (rnew y S0)).out,0)
theorem lchks_bad {l:List (List Int)} {k:Nat} (hk:k<l.length) (h: ∀ i (hi:i<l.length),i<k→lchk l[i]=0) (hb:lchk l[k]≠0):lchks l=lchk l[k]:=by
  induction l generalizing k with
  |nil=>cases hk
  |cons a l ih=>
   cases k with
   |zero=>rw [lchks];exact if_pos hb
   |succ k=>
    have h0:lchk a=0:=h 0 (by simp) (by omega);rw [lchks,if_neg (by omega)];exact ih (by simpa using hk) (fun i hi hik=>h (i+1) (by simpa using hi) (by omega)) hb
theorem lchks_good {l:List (List Int)} (h: ∀ i (hi:i<l.length),lchk l[i]=0):lchks l=0:=by
  induction l with
  |nil=>rfl
  |cons a l ih=>
   have h0:lchk a=0:=h 0 (by simp);rw [lchks,if_neg (by omega)];exact ih (fun i hi=>h (i+1) (by simpa using hi))
theorem lchks_mem {l:List (List Int)} (h:lchks l=0): ∀ x∈l,lchk x=0:=by
  induction l with
  |nil=>intro x hx;cases hx
  |cons a l ih=>
   rw [lchks] at h;split at h
   ·rename_i h1;exact absurd h h1
   ·rename_i h1;intro x hx;rcases List.mem_cons.1 hx with e|e
    ·subst e;omega
    ·exact ih h x e
theorem lchk_ok {l:List Int} (h:lchk l=0):l.length≤200∧ ∀ n∈l,num n=true:=by
  unfold lchk at h;split at h
  ·cases h
  ·split at h
   ·cases h
   ·rename_i h1 h2;refine⟨by omega,fun n hn=> ?_⟩;cases hq:num n with
    |true=>rfl
    |false=>exact absurd (List.any_eq_true.2 ⟨n,hn,by rw [hq];rfl⟩) h2
structure Wk (y:Sg) (n:Nat) (rn:Rn):Prop where
  out:rn.out.length=(hout y.kind).toNat
  len: ∀ l∈rn.out,l.length≤4*n
  num: ∀ m∈rn.s.held,num m=true
  held:y.kind=4→(rn.s.held.length:Int)<y.size
  held0:y.kind≠4→rn.s.held=[]
  count:0≤rn.s.count
theorem Wk.new {y:Sg} (h:Sgok y):Wk y 0 (rnew y S0):=by
  obtain⟨h1,h2⟩:=rnew_out y S0;refine⟨h1,fun l hl=>by have:=h2 l hl;omega,fun m hm=>(by cases hm),fun hk=> ?_,fun _=>rfl,Int.le_refl _⟩;have:=h.size.1;rw [hk] at this;show (0:Int)<y.size;have e:hleast 4=1:=by decide
  omega
theorem Wk.rok {y:Sg} {n:Nat} {rn:Rn} (h:Wk y n rn) (hy:Sgok y) (hk:y.kind≠10) (hn:n≤200):Rok y rn:=by
  have h1:=rnew_ok hy hk S0;have h2:=(rnew_out y S0).1;exact⟨hy,by rw [h.out,←h2];exact h1.pos,by rw [h.out,←h2];exact h1.two,fun l hl=>by have:=h.len l hl;omega⟩
theorem Wk.send {y:Sg} {n:Nat} {r r':Rn} (h:Wk y n r) (ho:r'.out=r.out) (hs:r'.s.held=r.s.held) (hc:0≤r'.s.count) (q:Nat) (v:Int):Wk y (n+1) (rsend r' q v):=by
  have hl: ∀ l∈r'.out,l.length≤4*n:=by rw [ho];exact h.len
  refine⟨by rw [(rsend_s r' q v).2.2,ho,h.out],fun l hl2=>by have:=rsend_len hl l hl2;omega,?_,?_,?_,?_⟩
  ·rw [rsend_s1,hs];exact h.num
  ·rw [rsend_s1,hs];exact h.held
  ·rw [rsend_s1,hs];exact h.held0
  ·rw [rsend_s1];exact hc
theorem Wk.keep {y:Sg} {n:Nat} {r r':Rn} (h:Wk y n r) (ho:r'.out=r.out) (hs:r'.s=r.s):Wk y (n+1) r':=
  ⟨by rw [ho,h.out],fun l hl=>by rw [ho] at hl;have:=h.len l hl;omega,by rw [hs];exact h.num,by rw [hs];exact h.held,by rw [hs];exact h.held0,by rw [hs];exact h.count⟩
theorem Wk.take {y:Sg} {n:Nat} {r:Rn} (h:Wk y n r) (hy:Sgok y) (hr:y.kind=5→y.size≤4) (hk:y.kind≠1∧y.kind≠8∧y.kind≠9) (v:Int) (hv:Pn.num v=true):Wk y (n+1) (rtake y r 0 v):=by
  unfold rtake;rw [if_neg hk.1];split
  ·exact h.send (r':=(reval y r v 0).1) rfl rfl h.count 0 _
  split
  ·split
   ·exact h.send (r':=(reval y r v 0).1) rfl rfl h.count 0 _
   ·exact h.keep rfl rfl
  split
  ·rename_i h4;unfold rbatch;dsimp only;have hz:=hy.size.1;split
   ·have:=h.send (r':={r with err:=(sumK (r.s.held++[v]) r.err (r.s.held++[v]).length).2}) rfl rfl h.count 0 (sumK (r.s.held++[v]) r.err (r.s.held++[v]).length).1;have e:hleast 4=1:=by decide
    refine⟨?_,?_,fun m hm=>(by cases hm),fun _=> ?_,fun h9=>absurd h4 h9,?_⟩
    ·have h2:=this.out;rw [(rsend_s _ _ _).2.2] at h2;unfold rsum;dsimp only;rw [(rsend_s _ _ _).2.2];exact h2
    ·intro l hl;refine rsend_len (m:=4*n) (r:={r with s:={r.s with held:=r.s.held++[v]},err:=(sumK (r.s.held++[v]) r.err (r.s.held++[v]).length).2}) (n:=0) (v:=(sumK (r.s.held++[v]) r.err (r.s.held++[v]).length).1) h.len l hl|>fun h9=>Nat.le_trans h9 (by omega)
    ·rw [h4,e] at hz;show ((0:Nat):Int)<y.size;omega
    ·unfold rsum;dsimp only;rw [rsend_s1];exact h.count
   ·rename_i h5;refine⟨h.out,fun l hl=>by have:=h.len l hl;omega,?_,fun h4=> ?_,fun h9=>absurd h4 h9,h.count⟩
    ·intro m hm;rcases List.mem_append.1 hm with e|e
     ·exact h.num m e
     ·rw [List.mem_singleton.1 e];exact hv
    ·have:=h.held h4;dsimp only at h5 ⊢;rw [List.length_append,List.length_singleton] at h5 ⊢;push_cast at h5 ⊢;omega
  split
  ·rename_i h5;have h6:=hr h5;have hs:=rrep_s r v y.size.toNat;have hz:=hy.size2;exact⟨by rw [hs.2.2,h.out],fun l hl=>by have:=rrep_len h.len y.size.toNat l hl;omega,by rw [hs.1];exact h.num,by rw [hs.1];exact h.held,by rw [hs.1];exact h.held0,by rw [hs.1];exact h.count⟩
  split
  ·split
   ·exact h.send (r':=rcount r (r.s.count+1)) rfl rfl (by show 0≤r.s.count+1;have:=h.count;omega) 0 _
   ·exact h.keep rfl rfl
  split
  ·exact h.send (r':=(reval y r v 0).1) rfl rfl h.count _ _
  rw [if_neg hk.2.1,if_neg hk.2.2];exact h.keep rfl rfl
theorem rall_take (y:Sg) (r:Rn) (l:List Int) (k:Nat) (hk:k<l.length):rall y r (l.take (k+1))=rtake y (rall y r (l.take k)) 0 (l.getD k default):=by
  have e:l.getD k default=l[k]:=by rw [List.getD,List.getElem?_eq_getElem hk,Option.getD_some]
  rw [e,List.take_succ_eq_append_getElem hk,rall,List.foldl_append];rfl
theorem Wk.all {y:Sg} {n:Nat} {r:Rn} (h:Wk y n r) (hy:Sgok y) (hr:y.kind=5→y.size≤4) (hk:y.kind≠1∧y.kind≠8∧y.kind≠9) (l:List Int) (hl: ∀ v∈l,Pn.num v=true): ∀ k,k≤l.length→Wk y (n+k) (rall y r (l.take k))
  |0,_=>by rw [List.take_zero];exact h
  |k+1,hk2=>by
   rw [rall_take y r l k hk2];refine (Wk.all h hy hr hk l hl k (by omega)).take hy hr hk _ ?_;rw [List.getD,List.getElem?_eq_getElem hk2,Option.getD_some];exact hl _ (List.getElem_mem _)
theorem rzipK_s (y:Sg) (a b:List Int) (r:Rn): ∀ k,(rzipK y a b r k).s=r.s∧(rzipK y a b r k).out.length=r.out.length∧ ∀ m,(∀ l∈r.out,l.length≤m)→ ∀ l∈(rzipK y a b r k).out,l.length≤m+k
  |0=>⟨rfl,rfl,fun m h l hl=>h l hl⟩
  |k+1=>by
   obtain⟨h1,h2,h3⟩:=rzipK_s y a b r k;rw [rzipK];refine⟨by rw [rsend_s1];exact h1,by rw [(rsend_s _ _ _).2.2];exact h2,fun m h=> ?_⟩;exact rsend_len (m:=m+k) (h3 m h)
theorem reval_zero {y:Sg} {rn:Rn} {a b:Int} (h:(reval y rn a b).1.err=0):(evalE y.expr (bindM (hnames y.kind) [a,b])).2=0:=by
  unfold reval at h;dsimp only at h;split at h
  ·exact h
  ·rename_i h1;exact absurd h h1
end Pn
namespace Go.Aw
open Pn
def RQ (r o:Nat) (y:Sg) (rn:Rn) (st:List Item):Prop:= ∃ cs its,st= .cells r (encRn y rn.s o rn.out.length rn.err):: .cells o cs::its∧ImpL cs (rn.out.map fun l=>AV.sl 1 (l.map encI))
theorem RS.rq {r o:Nat} {y:Sg} {rn:Rn} {st:List Item} (h:RS r o y rn st):RQ r o y rn st:=by
  obtain⟨os,rfl,hos⟩:=h;refine⟨_,_,by unfold RNI ROI;rw [show os.length=rn.out.length by rw [hos,List.length_map]],?_⟩;rw [hos];exact roi_imp os
theorem Weak.outsQ {n:Nat} {σ:Fr} {r o:Nat} {y:Sg} {rn:Rn} {st own:List Item} (h:RQ r o y rn st):Weak n σ (own++st) σ (.cells r ((encRn y rn.s o rn.out.length rn.err).set 11 (.sl 1 (rn.out.map encLI)))::own):=by
  obtain⟨cs,its,rfl,hi⟩:=h;have h1:Weak n σ (own++(.cells r (encRn y rn.s o rn.out.length rn.err):: .cells o cs::its)) σ (.cells o (rn.out.map fun l=>AV.sl 1 (l.map encI)):: .cells r (encRn y rn.s o rn.out.length rn.err)::own):=by
   refine Weak.trans (Weak.perm (List.perm_append_comm)) ?_;exact Weak.items2 (.cells (.there .here) hi (.cons .here (.sub (List.sublist_append_right _ _))))
  exact Weak.trans h1 (Weak.freezeC (n:=n) (σ:=σ) (a:=r) (i:=11) (j:=o) (sz:=1) (cs:=encRn y rn.s o rn.out.length rn.err) (xs:=rn.out.map encLI) (pad:=[]) (by intro x hx;obtain⟨b,_,rfl⟩:=List.mem_map.1 hx;rfl) (by rw [List.length_map];rfl) (.cons (by rw [out_flat,List.append_nil];exact .here) (.cons .here (.nil own))))
end Go.Aw
namespace Pn
theorem hin1 {k:Int} (h:1≤k∧k≤10):(k=1→hin k=0)∧(k=8→hin k=2)∧(k=9→hin k=2)∧(k≠1∧k≠8∧k≠9→hin k=1)∧(k=1∨k=8∨k=9→(hout k).toNat=1):=by
  rcases kinds h with h|h|h|h|h|h|h|h|h|h<;>subst h<;>decide
theorem len1 {α:Type} {l:List α} (h:l.length=1): ∃ a,l=[a]:=by
  match l,h with
  | [a],_=>exact⟨a,rfl⟩
theorem len2 {α:Type} {l:List α} (h:l.length=2): ∃ a b,l=[a,b]:=by
  match l,h with
  | [a,b],_=>exact⟨a,b,rfl⟩
theorem swhole_1 {y:Sg} {rn:Rn} {l:List (List Int)} (h:y.kind=1):swhole y l rn={rn with out:=rn.out.set 0 y.items}:=by unfold swhole;rw [if_pos h]
theorem swhole_8 {y:Sg} {rn:Rn} {a b:List Int} (h:y.kind=8):swhole y [a,b] rn={rn with out:=rn.out.set 0 (mrg a b)}:=by unfold swhole;rw [if_neg (by omega),if_pos h];rfl
theorem swhole_9 {y:Sg} {rn:Rn} {a b:List Int} (h:y.kind=9):swhole y [a,b] rn=rzipK y a b rn (min a.length b.length):=by unfold swhole;rw [if_neg (by omega),if_neg (by omega),if_pos h];rfl
theorem swhole_x {y:Sg} {rn:Rn} {a:List Int} (h:y.kind≠1∧y.kind≠8∧y.kind≠9):swhole y [a] rn=rfin y (rall y rn a) 0:=by unfold swhole;rw [if_neg h.1,if_neg h.2.1,if_neg h.2.2];rfl
end Pn
namespace Go.Aw
open Pn
theorem RQ.mk1 {r o:Nat} {y:Sg} {rn:Rn} {v l1:List Int} (h:rn.out=[l1]):RQ r o y {rn with out:=rn.out.set 0 v} [.cells r (encRn y rn.s o 1 rn.err),.cells o [.sl 1 (v.map encI)]]:=
  ⟨_,[],by rw [h];rfl,by rw [h];exact .cons (AV.Imp.refl _) .nil⟩
end Go.Aw
namespace Pn
theorem swhole_two {y:Sg} {l:List (List Int)} (h:Sgok y) (hr:y.kind=5→y.size≤4) (hl: ∀ a∈l,a.length≤200∧ ∀ n∈a,num n=true):(swhole y l (rnew y S0)).out.length≤2:=by
  have h1:=Wk.new h;have h2:(rnew y S0).out.length≤2:=by
   have:=(hio h.kind).2.1;rw [h1.out];omega
  have hg: ∀ v∈l.getD 0 [],num v=true:=by
   intro v hv;cases l with
   |nil=>cases hv
   |cons a l=>exact (hl a (List.mem_cons_self ..)).2 v hv
  unfold swhole;split
  ·simpa using h2
  split
  ·simpa using h2
  split
  ·rw [(rzipK_s y _ _ _ _).2.1];exact h2
  rename_i h1' h2' h3';have h4:=h1.all h hr ⟨h1',h2',h3'⟩ (l.getD 0 []) hg (l.getD 0 []).length (Nat.le_refl _);rw [List.take_length] at h4;have h5:(rall y (rnew y S0) (l.getD 0 [])).out.length≤2:=by rw [h4.out,←h1.out];exact h2
  unfold rfin;split
  ·unfold rend;dsimp only;split
   ·unfold rsum;dsimp only;rw [(rsend_s _ _ _).2.2];exact h5
   ·exact h5
  ·exact h5
end Pn
