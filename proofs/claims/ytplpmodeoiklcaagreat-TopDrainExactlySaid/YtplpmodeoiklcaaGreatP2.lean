/- A part of the proof. No condition. -/
import Derived.Test.YtplpmodeoiklcaaGreatP1
import Derived.Sort.Grow
import Derived.Sort.EncStr
import Derived.Lib.SlicesCompact
import Derived.Shelf.Sort.Plain
import Derived.Shelf.Slices.CompactS
import Derived.Shelf.Slices.In.SortNone
set_option linter.unusedVariables false
set_option linter.unusedSimpArgs false
set_option maxRecDepth 10000
namespace Go.Proofs
open Go.Aw Wl Pn
theorem abs_c (a:Int) (ha: -9223372036854775807≤a∧a≤9223372036854775807):ACalls Tryz.prog 175 [(AV.int a)] [] (fun v st=>v=(AV.int (Pn.iabs a))∧st=[]):=by
  refine acalls_body Tryz.func175 (by kernel_rfl) rfl Tryz.ntmps175 (le_ rfl) ?_;rw [Tryz.results175];refine asr ?_;refine sA ?_;refine aops_nil ?_;refine asr ?_;refine sM ?_;refine sM ?_;refine st_p (fun _=>by exact y_neg (.plain rfl) (by omega)) rfl ?_;refine st_p (fun _=>by exact y_max (.plain rfl) (.plain rfl)) rfl ?_;refine sA ?_;refine aops_nil ?_;refine awp_ret ?_;refine retG (.inr rfl) (.cons (.tmp rfl) .nil) (VShift.of1 (AV.Imp.refl _) (.nil _)) ⟨congrArg (fun x:(Int)=>(AV.int x)) (show _=(Pn.iabs a) from ?_),rfl⟩;rfl
theorem times_c (a b:Int) (ha: -1099511627776≤a∧a≤1099511627776) (hb: -1099511627776≤b∧b≤1099511627776):ACalls Tryz.prog 179 [.int a,.int b] [] (fun v st=>v= .tup [.int (Pn.timesF a b).1,.int (Pn.timesF a b).2]∧st=[]):=by
  refine acalls_body Tryz.func179 (by kernel_rfl) rfl Tryz.ntmps179 (le_ rfl) ?_;rw [Tryz.results179];refine asr ?_;refine sA ?_;refine sA ?_;refine aops_nil ?_;refine awp_seq ?_;refine asr ?_;refine sM ?_;refine sR ?_;refine sM ?_;refine gM ?_;refine st_g rfl rfl rfl SaysI.out (fun hc _=>by exact y_call (.plain rfl) (.cons (.opt rfl hc) .nil) (ACalls.pure (abs_c a ⟨by omega,by omega⟩))) rfl ?_;refine gM ?_;refine st_g rfl rfl rfl SaysI.out (fun hc _=>by exact y_call (.plain rfl) (.cons (.opt rfl hc) .nil) (ACalls.pure (abs_c b ⟨by omega,by omega⟩))) rfl ?_;refine st_g rfl rfl rfl SaysI.out (fun hc _=>by exact y_quo (.plain rfl) (.opt rfl hc) (by unfold Pn.iabs;simp at hc;omega) (by have h9:=Int.natAbs_tdiv_le_natAbs 1099511627776 (Pn.iabs b);omega)) rfl ?_;refine gG01 ?_;refine sJ ?_;refine aops_nil ?_;refine awp_cond rfl (fun h1=> ?_) (fun h1=> ?_)
  ·simp only [nf] at h1;refine asr ?_;refine sA ?_;refine sA ?_;refine aops_nil ?_;refine awp_ret ?_;refine retG (.inr rfl) (.cons (.tmp rfl) (.cons (.tmp rfl) .nil)) (VShift.drop) ⟨?_,rfl⟩;rw [Pn.timesF,if_pos (by simpa using h1)];all_goals rfl
  ·simp only [nf] at h1;have htb:=Pn.times_bd (a:=a) (b:=b) (by rintro⟨h8,h9⟩;simp_all);refine awp_skip ?_;refine asr ?_;refine sM ?_;refine sM ?_;refine st_p (fun _=>by exact y_mul (.plain rfl) (.plain rfl) (by omega)) rfl ?_;refine sA ?_;refine sA ?_;refine aops_nil ?_;refine awp_ret ?_;refine retG (.inr rfl) (.cons (.tmp rfl) (.cons (.tmp rfl) .nil)) (VShift.drop) ⟨?_,rfl⟩;rw [Pn.timesF,if_neg (by rintro⟨h8,h9⟩;simp_all)];all_goals rfl
theorem op1_c (a b:Int) (ha: -1099511627776≤a∧a≤1099511627776) (hb: -1099511627776≤b∧b≤1099511627776):ACalls Tryz.prog 177 [.int a,.int b] [] (fun v st=>v= .int (a+b)∧st=[]):=by
  refine acalls_body Tryz.func177 (by kernel_rfl) rfl Tryz.ntmps177 (le_ rfl) ?_;rw [Tryz.results177];refine asr ?_;refine sA ?_;refine aops_nil ?_;refine asr ?_;refine sM ?_;refine sM ?_;refine sY ?_ (hb:=by omega);refine sA ?_;refine aops_nil ?_;refine awp_ret ?_;refine retG (.inr rfl) (.cons (.tmp rfl) .nil) (VShift.drop) ⟨?_,rfl⟩;all_goals rfl
theorem op2_c (a b:Int) (ha: -1099511627776≤a∧a≤1099511627776) (hb: -1099511627776≤b∧b≤1099511627776):ACalls Tryz.prog 178 [.int a,.int b] [] (fun v st=>v= .int (a - b)∧st=[]):=by
  refine acalls_body Tryz.func178 (by kernel_rfl) rfl Tryz.ntmps178 (le_ rfl) ?_;rw [Tryz.results178];refine asr ?_;refine sA ?_;refine aops_nil ?_;refine asr ?_;refine sM ?_;refine sM ?_;refine st_p (fun _=>by exact y_sub (.plain rfl) (.plain rfl) (by omega)) rfl ?_;refine sA ?_;refine aops_nil ?_;refine awp_ret ?_;refine retG (.inr rfl) (.cons (.tmp rfl) .nil) (VShift.drop) ⟨?_,rfl⟩;all_goals rfl
theorem op3_c (a b:Int) (ha: -1099511627776≤a∧a≤1099511627776) (hb: -1099511627776≤b∧b≤1099511627776) (hz:b≠0):ACalls Tryz.prog 181 [.int a,.int b] [] (fun v st=>v= .int (a.tdiv b)∧st=[]):=by
  refine acalls_body Tryz.func181 (by kernel_rfl) rfl Tryz.ntmps181 (le_ rfl) ?_;rw [Tryz.results181];have h9:=Int.natAbs_tdiv_le_natAbs a b;refine asr ?_;refine sA ?_;refine aops_nil ?_;refine asr ?_;refine sM ?_;refine sM ?_;refine st_p (fun _=>by exact y_quo (.plain rfl) (.plain rfl) hz (by omega)) rfl ?_;refine sA ?_;refine aops_nil ?_;refine awp_ret ?_;refine retG (.inr rfl) (.cons (.tmp rfl) .nil) (VShift.drop) ⟨?_,rfl⟩;all_goals rfl
theorem op4_c (a b:Int) (ha: -1099511627776≤a∧a≤1099511627776) (hb: -1099511627776≤b∧b≤1099511627776) (hz:b≠0):ACalls Tryz.prog 182 [.int a,.int b] [] (fun v st=>v= .int (a.tmod b)∧st=[]):=by
  refine acalls_body Tryz.func182 (by kernel_rfl) rfl Tryz.ntmps182 (le_ rfl) ?_;rw [Tryz.results182];have h9:=Int.natAbs_tdiv_le_natAbs a b;refine asr ?_;refine sA ?_;refine aops_nil ?_;refine asr ?_;refine sM ?_;refine sM ?_;refine st_p (fun _=>by exact y_rem (.plain rfl) (.plain rfl) hz) rfl ?_;refine sA ?_;refine aops_nil ?_;refine awp_ret ?_;refine retG (.inr rfl) (.cons (.tmp rfl) .nil) (VShift.drop) ⟨?_,rfl⟩;all_goals rfl
theorem op5_c (a b:Int):ACalls Tryz.prog 184 [.int a,.int b] [] (fun v st=>v= .bool (decide (a=b))∧st=[]):=by
  refine acalls_body Tryz.func184 (by kernel_rfl) rfl Tryz.ntmps184 (le_ rfl) ?_;rw [Tryz.results184];refine asr ?_;refine sA ?_;refine aops_nil ?_;refine asr ?_;refine sM ?_;refine sM ?_;refine sQ ?_;refine sA ?_;refine aops_nil ?_;refine awp_ret ?_;refine retG (.inr rfl) (.cons (.tmp rfl) .nil) (VShift.drop) ⟨?_,rfl⟩;all_goals rfl
theorem op6_c (a b:Int):ACalls Tryz.prog 185 [.int a,.int b] [] (fun v st=>v= .bool (!decide (a=b))∧st=[]):=by
  refine acalls_body Tryz.func185 (by kernel_rfl) rfl Tryz.ntmps185 (le_ rfl) ?_;rw [Tryz.results185];refine asr ?_;refine sA ?_;refine aops_nil ?_;refine asr ?_;refine sM ?_;refine sM ?_;refine sR ?_;refine sA ?_;refine aops_nil ?_;refine awp_ret ?_;refine retG (.inr rfl) (.cons (.tmp rfl) .nil) (VShift.drop) ⟨?_,rfl⟩;all_goals rfl
theorem op7_c (a b:Int):ACalls Tryz.prog 186 [.int a,.int b] [] (fun v st=>v= .bool (decide (a<b))∧st=[]):=by
  refine acalls_body Tryz.func186 (by kernel_rfl) rfl Tryz.ntmps186 (le_ rfl) ?_;rw [Tryz.results186];refine asr ?_;refine sA ?_;refine aops_nil ?_;refine asr ?_;refine sM ?_;refine sM ?_;refine sS ?_;refine sA ?_;refine aops_nil ?_;refine awp_ret ?_;refine retG (.inr rfl) (.cons (.tmp rfl) .nil) (VShift.drop) ⟨?_,rfl⟩;all_goals rfl
theorem op8_c (a b:Int):ACalls Tryz.prog 187 [.int a,.int b] [] (fun v st=>v= .bool (decide (a≤b))∧st=[]):=by
  refine acalls_body Tryz.func187 (by kernel_rfl) rfl Tryz.ntmps187 (le_ rfl) ?_;rw [Tryz.results187];refine asr ?_;refine sA ?_;refine aops_nil ?_;refine asr ?_;refine sM ?_;refine sM ?_;refine sH ?_;refine sA ?_;refine aops_nil ?_;refine awp_ret ?_;refine retG (.inr rfl) (.cons (.tmp rfl) .nil) (VShift.drop) ⟨?_,rfl⟩;all_goals rfl
theorem op9_c (a b:Int):ACalls Tryz.prog 188 [.int a,.int b] [] (fun v st=>v= .bool (decide (b<a))∧st=[]):=by
  refine acalls_body Tryz.func188 (by kernel_rfl) rfl Tryz.ntmps188 (le_ rfl) ?_;rw [Tryz.results188];refine asr ?_;refine sA ?_;refine aops_nil ?_;refine asr ?_;refine sM ?_;refine sM ?_;refine sG ?_;refine sA ?_;refine aops_nil ?_;refine awp_ret ?_;refine retG (.inr rfl) (.cons (.tmp rfl) .nil) (VShift.drop) ⟨?_,rfl⟩;all_goals rfl
theorem op10_c (a b:Int):ACalls Tryz.prog 189 [.int a,.int b] [] (fun v st=>v= .bool (decide (b≤a))∧st=[]):=by
  refine acalls_body Tryz.func189 (by kernel_rfl) rfl Tryz.ntmps189 (le_ rfl) ?_;rw [Tryz.results189];refine asr ?_;refine sA ?_;refine aops_nil ?_;refine asr ?_;refine sM ?_;refine sM ?_;refine st_p (fun _=>by exact y_geq (.plain rfl) (.plain rfl)) rfl ?_;refine sA ?_;refine aops_nil ?_;refine awp_ret ?_;refine retG (.inr rfl) (.cons (.tmp rfl) .nil) (VShift.drop) ⟨?_,rfl⟩;all_goals rfl
theorem op11_c (a b:Int):ACalls Tryz.prog 190 [.int a,.int b] [] (fun v st=>v= .bool (!decide (a=0) && !decide (b=0))∧st=[]):=by
  refine acalls_body Tryz.func190 (by kernel_rfl) rfl Tryz.ntmps190 (le_ rfl) ?_;rw [Tryz.results190];refine asr ?_;refine sA ?_;refine aops_nil ?_;refine asr ?_;refine sM ?_;refine sR ?_;refine sM ?_;refine gM ?_;refine gR0 ?_;refine sJ ?_;refine sA ?_;refine aops_nil ?_;refine awp_ret ?_;refine retG (.inr rfl) (.cons (.tmp rfl) .nil) (VShift.drop) ⟨?_,rfl⟩;all_goals rfl
theorem op12_c (a b:Int):ACalls Tryz.prog 191 [.int a,.int b] [] (fun v st=>v= .bool (!decide (a=0)|| !decide (b=0))∧st=[]):=by
  refine acalls_body Tryz.func191 (by kernel_rfl) rfl Tryz.ntmps191 (le_ rfl) ?_;rw [Tryz.results191];refine asr ?_;refine sA ?_;refine aops_nil ?_;refine asr ?_;refine sM ?_;refine sR ?_;refine sM ?_;refine gM ?_;refine gR0 ?_;refine sK ?_;refine sA ?_;refine aops_nil ?_;refine awp_ret ?_;refine retG (.inr rfl) (.cons (.tmp rfl) .nil) (VShift.drop) ⟨?_,rfl⟩;all_goals rfl
theorem numberK_c (f:Nat) (caps:List AV) (a b:Int) (r:Int) (h:ACalls Tryz.prog f ([.int a,.int b]++caps) [] (fun v st=>v= .int (r)∧st=[])):ACalls Tryz.prog 213 [.int a,.int b,.eptr [.clo f caps]] [] (fun v st=>v= .tup [.int r,.int 0]∧st=[]):=by
  refine acalls_body Tryz.func213 (by kernel_rfl) rfl Tryz.ntmps213 (le_ rfl) ?_;rw [Tryz.results213];refine asr ?_;refine sA ?_;refine sA ?_;refine aops_nil ?_;refine asr ?_;refine sU ?_;refine sM ?_;refine sM ?_;refine aops_call (blt_lt rfl) (.plain rfl) (.cons (.plain rfl) (.cons (.plain rfl) .nil)) (ACalls.here h ?_);refine sA ?_;refine sA ?_;refine aops_nil ?_;refine awp_ret ?_;refine retG (.inr rfl) (.cons (.tmp rfl) (.cons (.tmp rfl) .nil)) (VShift.drop) ⟨?_,rfl⟩;all_goals rfl
theorem divideK_c (f:Nat) (caps:List AV) (a b:Int) (r:Int) (h:b≠0→ACalls Tryz.prog f ([.int a,.int b]++caps) [] (fun v st=>v= .int (r)∧st=[])):ACalls Tryz.prog 214 [.int a,.int b,.eptr [.clo f caps]] [] (fun v st=>v= .tup [.int ((if b=0 then (0,24) else (r,0):Int×Int)).1,.int ((if b=0 then (0,24) else (r,0):Int×Int)).2]∧st=[]):=by
  refine acalls_body Tryz.func214 (by kernel_rfl) rfl Tryz.ntmps214 (le_ rfl) ?_;rw [Tryz.results214];refine asr ?_;refine sA ?_;refine sA ?_;refine aops_nil ?_;refine awp_seq ?_;refine asr ?_;refine sM ?_;refine sQ ?_;refine aops_nil ?_;refine awp_cond rfl (fun h1=> ?_) (fun h1=> ?_)
  ·simp only [nf] at h1;refine asr ?_;refine sA ?_;refine sA ?_;refine aops_nil ?_;refine awp_ret ?_;refine retG (.inr rfl) (.cons (.tmp rfl) (.cons (.tmp rfl) .nil)) (VShift.drop) ⟨?_,rfl⟩;rw [if_pos (by assumption)];all_goals rfl
  ·simp only [nf] at h1;refine awp_skip ?_;refine asr ?_;refine sU ?_;refine sM ?_;refine sM ?_;refine aops_call (blt_lt rfl) (.plain rfl) (.cons (.plain rfl) (.cons (.plain rfl) .nil)) (ACalls.here (h (by assumption)) ?_);refine sA ?_;refine sA ?_;refine aops_nil ?_;refine awp_ret ?_;refine retG (.inr rfl) (.cons (.tmp rfl) (.cons (.tmp rfl) .nil)) (VShift.drop) ⟨?_,rfl⟩;rw [if_neg (by assumption)];all_goals rfl
theorem truthK_c (f:Nat) (caps:List AV) (a b:Int) (r:Bool) (h:ACalls Tryz.prog f ([.int a,.int b]++caps) [] (fun v st=>v= .bool (r)∧st=[])):ACalls Tryz.prog 215 [.int a,.int b,.eptr [.clo f caps]] [] (fun v st=>v= .int (Pn.b2i r)∧st=[]):=by
  refine acalls_body Tryz.func215 (by kernel_rfl) rfl Tryz.ntmps215 (le_ rfl) ?_;rw [Tryz.results215];refine asr ?_;refine sA ?_;refine aops_nil ?_;refine awp_seq ?_;refine asr ?_;refine sU ?_;refine sM ?_;refine sM ?_;refine aops_call (blt_lt rfl) (.plain rfl) (.cons (.plain rfl) (.cons (.plain rfl) .nil)) (ACalls.here h ?_);refine aops_nil ?_;refine awp_cond rfl (fun h1=> ?_) (fun h1=> ?_)
  ·refine asr ?_;refine sA ?_;refine aops_nil ?_;refine awp_ret ?_;refine retG (.inr rfl) (.cons (.tmp rfl) .nil) (VShift.drop) ⟨?_,rfl⟩;rw [show r=true by assumption];all_goals rfl
  ·refine awp_skip ?_;refine asr ?_;refine sA ?_;refine aops_nil ?_;refine awp_ret ?_;refine retG (.inr rfl) (.cons (.tmp rfl) .nil) (VShift.drop) ⟨?_,rfl⟩;rw [show r=false by assumption];all_goals rfl
theorem number_c (f:Nat) (caps:List AV):ACalls Tryz.prog 176 [.clo f caps] [] (fun v st=>v= .clo 213 [.eptr [.clo f caps]]∧st=[]):=by
  refine acalls_body Tryz.func176 (by kernel_rfl) rfl Tryz.ntmps176 (le_ rfl) ?_;rw [Tryz.results176];refine asr ?_;refine sB fun n1=> ?_;refine sA ?_;refine aops_nil ?_;refine asr ?_;refine st_p (fun _=>by exact y_makeFunc (.cons (.plain rfl) .nil)) rfl ?_;refine sA ?_;refine aops_nil ?_;refine awp_ret ?_;exact retG (.inr rfl) (.cons (.tmp rfl) .nil) (VShift.freezeClo .here) ⟨rfl,rfl⟩
theorem divide_c (f:Nat) (caps:List AV):ACalls Tryz.prog 180 [.clo f caps] [] (fun v st=>v= .clo 214 [.eptr [.clo f caps]]∧st=[]):=by
  refine acalls_body Tryz.func180 (by kernel_rfl) rfl Tryz.ntmps180 (le_ rfl) ?_;rw [Tryz.results180];refine asr ?_;refine sB fun n1=> ?_;refine sA ?_;refine aops_nil ?_;refine asr ?_;refine st_p (fun _=>by exact y_makeFunc (.cons (.plain rfl) .nil)) rfl ?_;refine sA ?_;refine aops_nil ?_;refine awp_ret ?_;exact retG (.inr rfl) (.cons (.tmp rfl) .nil) (VShift.freezeClo .here) ⟨rfl,rfl⟩
theorem truth_c (f:Nat) (caps:List AV):ACalls Tryz.prog 183 [.clo f caps] [] (fun v st=>v= .clo 213 [.eptr [.clo 215 [.eptr [.clo f caps]]]]∧st=[]):=by
  refine acalls_body Tryz.func183 (by kernel_rfl) rfl Tryz.ntmps183 (le_ rfl) ?_;rw [Tryz.results183];refine asr ?_;refine sB fun n1=> ?_;refine sA ?_;refine aops_nil ?_;refine awp_seq ?_;refine awp_weak (Weak.freezeP (t:=1) (cs:=[.clo f caps]) rfl .here) ?_;refine awp_region ?_;refine st_p (fun _=>by exact y_makeFunc (.cons (.plain rfl) .nil)) rfl ?_;refine aops_call (blt_lt rfl) (.plain rfl) (.cons (.plain rfl) .nil) (ACalls.here (number_c _ _) ?_);refine sA ?_;refine aops_nil ?_;refine awp_ret ?_;exact retG (.inr rfl) (.cons (.tmp rfl) .nil) (VShift.drop) ⟨rfl,rfl⟩
def opTab:List (Int×AV):=[(3,.agg [.val (.string ⟨#[43]⟩),.int 4,.int 1,.int 1,.clo 213 [.eptr [.clo 177 []]]]),(4,.agg [.val (.string ⟨#[45]⟩),.int 4,.int 1,.int 1,.clo 213 [.eptr [.clo 178 []]]]),(5,.agg [.val (.string ⟨#[42]⟩),.int 5,.int 1,.int 1,.val (.func (.func 179) #[] #[])]),(6,.agg [.val (.string ⟨#[47]⟩),.int 5,.int 1,.int 1,.clo 214 [.eptr [.clo 181 []]]]),(7,.agg [.val (.string ⟨#[37]⟩),.int 5,.int 1,.int 1,.clo 214 [.eptr [.clo 182 []]]]),(8,.agg [.val (.string ⟨#[61,61]⟩),.int 3,.int 0,.int 2,.clo 213 [.eptr [.clo 215 [.eptr [.clo 184 []]]]]]),(9,.agg [.val (.string ⟨#[33,61]⟩),.int 3,.int 0,.int 2,.clo 213 [.eptr [.clo 215 [.eptr [.clo 185 []]]]]]),(10,.agg [.val (.string ⟨#[60]⟩),.int 3,.int 1,.int 2,.clo 213 [.eptr [.clo 215 [.eptr [.clo 186 []]]]]]),(11,.agg [.val (.string ⟨#[60,61]⟩),.int 3,.int 1,.int 2,.clo 213 [.eptr [.clo 215 [.eptr [.clo 187 []]]]]]),(12,.agg [.val (.string ⟨#[62]⟩),.int 3,.int 1,.int 2,.clo 213 [.eptr [.clo 215 [.eptr [.clo 188 []]]]]]),(13,.agg [.val (.string ⟨#[62,61]⟩),.int 3,.int 1,.int 2,.clo 213 [.eptr [.clo 215 [.eptr [.clo 189 []]]]]]),(14,.agg [.val (.string ⟨#[38,38]⟩),.int 2,.int 2,.int 2,.clo 213 [.eptr [.clo 215 [.eptr [.clo 190 []]]]]]),(15,.agg [.val (.string ⟨#[124,124]⟩),.int 1,.int 2,.int 2,.clo 213 [.eptr [.clo 215 [.eptr [.clo 191 []]]]]])]
theorem operators_c:ACalls Tryz.prog 166 [] [] (fun v st=> ∃ j,v= .mapv j∧st=[.map j opTab]):=by
  refine acalls_body Tryz.func166 (by kernel_rfl) rfl Tryz.ntmps166 (le_ rfl) ?_;rw [Tryz.results166];refine asr ?_;refine sA ?_;refine aops_nil ?_;refine asr ?_;refine sA ?_;refine sA ?_;refine aops_nil ?_;refine asr ?_;refine st_n (fun _=>by exact y_makeMap) rfl fun nM=> ?_;refine sM ?_;refine sM ?_;refine aops_call (blt_lt rfl) (.plain rfl) (.cons (.imp (.plain rfl) Fun.imp) .nil) (ACalls.here (number_c _ _) ?_);refine st_p (fun _=>by exact y_build (out:=[_,_,_,_,_]) (.cons (.plain rfl) inferInstance rfl (.cons (.plain rfl) inferInstance rfl (.cons (.plain rfl) inferInstance rfl (.cons (.plain rfl) inferInstance rfl (.cons (.plain rfl) inferInstance rfl .nil))))) rfl rfl) rfl ?_;refine st_s (fun _=>by exact y_mapSet (.plain rfl) (.plain rfl) (.plain rfl) (.inr rfl) (by exact .here)) ?_;refine sM ?_;refine sM ?_;refine aops_call (blt_lt rfl) (.plain rfl) (.cons (.imp (.plain rfl) Fun.imp) .nil) (ACalls.here (number_c _ _) ?_);refine st_p (fun _=>by exact y_build (out:=[_,_,_,_,_]) (.cons (.plain rfl) inferInstance rfl (.cons (.plain rfl) inferInstance rfl (.cons (.plain rfl) inferInstance rfl (.cons (.plain rfl) inferInstance rfl (.cons (.plain rfl) inferInstance rfl .nil))))) rfl rfl) rfl ?_;refine st_s (fun _=>by exact y_mapSet (.plain rfl) (.plain rfl) (.plain rfl) (.inr rfl) (by exact .here)) ?_;refine sM ?_;refine sM ?_;refine st_p (fun _=>by exact y_build (out:=[_,_,_,_,_]) (.cons (.plain rfl) inferInstance rfl (.cons (.plain rfl) inferInstance rfl (.cons (.plain rfl) inferInstance rfl (.cons (.plain rfl) inferInstance rfl (.cons (.plain rfl) inferInstance rfl .nil))))) rfl rfl) rfl ?_;refine st_s (fun _=>by exact y_mapSet (.plain rfl) (.plain rfl) (.plain rfl) (.inr rfl) (by exact .here)) ?_;refine sM ?_;refine sM ?_;refine aops_call (blt_lt rfl) (.plain rfl) (.cons (.imp (.plain rfl) Fun.imp) .nil) (ACalls.here (divide_c _ _) ?_);refine st_p (fun _=>by exact y_build (out:=[_,_,_,_,_]) (.cons (.plain rfl) inferInstance rfl (.cons (.plain rfl) inferInstance rfl (.cons (.plain rfl) inferInstance rfl (.cons (.plain rfl) inferInstance rfl (.cons (.plain rfl) inferInstance rfl .nil))))) rfl rfl) rfl ?_;refine st_s (fun _=>by exact y_mapSet (.plain rfl) (.plain rfl) (.plain rfl) (.inr rfl) (by exact .here)) ?_;refine sM ?_;refine sM ?_;refine aops_call (blt_lt rfl) (.plain rfl) (.cons (.imp (.plain rfl) Fun.imp) .nil) (ACalls.here (divide_c _ _) ?_);refine st_p (fun _=>by exact y_build (out:=[_,_,_,_,_]) (.cons (.plain rfl) inferInstance rfl (.cons (.plain rfl) inferInstance rfl (.cons (.plain rfl) inferInstance rfl (.cons (.plain rfl) inferInstance rfl (.cons (.plain rfl) inferInstance rfl .nil))))) rfl rfl) rfl ?_;refine st_s (fun _=>by exact y_mapSet (.plain rfl) (.plain rfl) (.plain rfl) (.inr rfl) (by exact .here)) ?_;refine sM ?_;refine aops_call (blt_lt rfl) (.plain rfl) (.cons (.imp (.plain rfl) Fun.imp) .nil) (ACalls.here (truth_c _ _) ?_);refine st_p (fun _=>by exact y_build (out:=[_,_,_,_,_]) (.cons (.plain rfl) inferInstance rfl (.cons (.plain rfl) inferInstance rfl (.cons (.plain rfl) inferInstance rfl (.cons (.plain rfl) inferInstance rfl (.cons (.plain rfl) inferInstance rfl .nil))))) rfl rfl) rfl ?_;refine st_s (fun _=>by exact y_mapSet (.plain rfl) (.plain rfl) (.plain rfl) (.inr rfl) (by exact .here)) ?_;refine sM ?_;refine aops_call (blt_lt rfl) (.plain rfl) (.cons (.imp (.plain rfl) Fun.imp) .nil) (ACalls.here (truth_c _ _) ?_);refine st_p (fun _=>by exact y_build (out:=[_,_,_,_,_]) (.cons (.plain rfl) inferInstance rfl (.cons (.plain rfl) inferInstance rfl (.cons (.plain rfl) inferInstance rfl (.cons (.plain rfl) inferInstance rfl (.cons (.plain rfl) inferInstance rfl .nil))))) rfl rfl) rfl ?_;refine st_s (fun _=>by exact y_mapSet (.plain rfl) (.plain rfl) (.plain rfl) (.inr rfl) (by exact .here)) ?_;refine sM ?_;refine sM ?_;refine aops_call (blt_lt rfl) (.plain rfl) (.cons (.imp (.plain rfl) Fun.imp) .nil) (ACalls.here (truth_c _ _) ?_);refine st_p (fun _=>by exact y_build (out:=[_,_,_,_,_]) (.cons (.plain rfl) inferInstance rfl (.cons (.plain rfl) inferInstance rfl (.cons (.plain rfl) inferInstance rfl (.cons (.plain rfl) inferInstance rfl (.cons (.plain rfl) inferInstance rfl .nil))))) rfl rfl) rfl ?_;refine st_s (fun _=>by exact y_mapSet (.plain rfl) (.plain rfl) (.plain rfl) (.inr rfl) (by exact .here)) ?_;refine sM ?_;refine sM ?_;refine aops_call (blt_lt rfl) (.plain rfl) (.cons (.imp (.plain rfl) Fun.imp) .nil) (ACalls.here (truth_c _ _) ?_);refine st_p (fun _=>by exact y_build (out:=[_,_,_,_,_]) (.cons (.plain rfl) inferInstance rfl (.cons (.plain rfl) inferInstance rfl (.cons (.plain rfl) inferInstance rfl (.cons (.plain rfl) inferInstance rfl (.cons (.plain rfl) inferInstance rfl .nil))))) rfl rfl) rfl ?_;refine st_s (fun _=>by exact y_mapSet (.plain rfl) (.plain rfl) (.plain rfl) (.inr rfl) (by exact .here)) ?_;refine sM ?_;refine sM ?_;refine aops_call (blt_lt rfl) (.plain rfl) (.cons (.imp (.plain rfl) Fun.imp) .nil) (ACalls.here (truth_c _ _) ?_);refine st_p (fun _=>by exact y_build (out:=[_,_,_,_,_]) (.cons (.plain rfl) inferInstance rfl (.cons (.plain rfl) inferInstance rfl (.cons (.plain rfl) inferInstance rfl (.cons (.plain rfl) inferInstance rfl (.cons (.plain rfl) inferInstance rfl .nil))))) rfl rfl) rfl ?_;refine st_s (fun _=>by exact y_mapSet (.plain rfl) (.plain rfl) (.plain rfl) (.inr rfl) (by exact .here)) ?_;refine sM ?_;refine sM ?_;refine aops_call (blt_lt rfl) (.plain rfl) (.cons (.imp (.plain rfl) Fun.imp) .nil) (ACalls.here (truth_c _ _) ?_);refine st_p (fun _=>by exact y_build (out:=[_,_,_,_,_]) (.cons (.plain rfl) inferInstance rfl (.cons (.plain rfl) inferInstance rfl (.cons (.plain rfl) inferInstance rfl (.cons (.plain rfl) inferInstance rfl (.cons (.plain rfl) inferInstance rfl .nil))))) rfl rfl) rfl ?_;refine st_s (fun _=>by exact y_mapSet (.plain rfl) (.plain rfl) (.plain rfl) (.inr rfl) (by exact .here)) ?_;refine sM ?_;refine sM ?_;refine aops_call (blt_lt rfl) (.plain rfl) (.cons (.imp (.plain rfl) Fun.imp) .nil) (ACalls.here (truth_c _ _) ?_);refine st_p (fun _=>by exact y_build (out:=[_,_,_,_,_]) (.cons (.plain rfl) inferInstance rfl (.cons (.plain rfl) inferInstance rfl (.cons (.plain rfl) inferInstance rfl (.cons (.plain rfl) inferInstance rfl (.cons (.plain rfl) inferInstance rfl .nil))))) rfl rfl) rfl ?_;refine st_s (fun _=>by exact y_mapSet (.plain rfl) (.plain rfl) (.plain rfl) (.inr rfl) (by exact .here)) ?_;refine sM ?_;refine sM ?_;refine aops_call (blt_lt rfl) (.plain rfl) (.cons (.imp (.plain rfl) Fun.imp) .nil) (ACalls.here (truth_c _ _) ?_);refine st_p (fun _=>by exact y_build (out:=[_,_,_,_,_]) (.cons (.plain rfl) inferInstance rfl (.cons (.plain rfl) inferInstance rfl (.cons (.plain rfl) inferInstance rfl (.cons (.plain rfl) inferInstance rfl (.cons (.plain rfl) inferInstance rfl .nil))))) rfl rfl) rfl ?_;refine st_s (fun _=>by exact y_mapSet (.plain rfl) (.plain rfl) (.plain rfl) (.inr rfl) (by exact .here)) ?_;refine sM ?_;refine sA ?_;refine aops_nil ?_;refine awp_ret ?_;exact retG (.inr rfl) (.cons (.tmp rfl) .nil) VShift.refl ⟨nM,rfl,by simp [setM,opTab]⟩
theorem opTab_known {op:Int} (h:Pn.known op=true): ∃ s p a r f,getM opTab op=some (.agg [.val (.string s),.int p,.int a,.int r,f]):=by
  unfold Pn.known at h;rw [Bool.and_eq_true,decide_eq_true_eq,decide_eq_true_eq] at h;have:op=3∨op=4∨op=5∨op=6∨op=7∨op=8∨op=9∨op=10∨op=11∨op=12∨op=13∨op=14∨op=15:=by omega
  rcases this with rfl|rfl|rfl|rfl|rfl|rfl|rfl|rfl|rfl|rfl|rfl|rfl|rfl<;>exact⟨_,_,_,_,_,rfl⟩
theorem opTab_none {op:Int} (h:Pn.known op=false):getM opTab op=none:=by
  unfold Pn.known at h;rw [Bool.and_eq_false_iff,decide_eq_false_iff_not,decide_eq_false_iff_not] at h;have hne: ∀ k:Int,3≤k→k≤15→ ¬ op=k:=fun k h1 h2 e=>by subst e;rcases h with h|h<;>omega
  simp [opTab,getM,hne 3,hne 4,hne 5,hne 6,hne 7,hne 8,hne 9,hne 10,hne 11,hne 12,hne 13,hne 14,hne 15]
theorem opTab_get {op:Int} (h:Pn.known op=true): ∃ s p fv,getM opTab op=some (.agg [.val (.string s),.int p,.int (Pn.argT op),.int (Pn.resT op),fv])∧ ∃ (f:Nat) (caps:List AV),Fun fv f caps∧ ∀ a b:Int,-1099511627776≤a∧a≤1099511627776→ -1099511627776≤b∧b≤1099511627776→ACalls Tryz.prog f ([.int a,.int b]++caps) [] (fun v st=>v= .tup [.int (Pn.opV op a b).1,.int (Pn.opV op a b).2]∧st=[]):=by
  unfold Pn.known at h;rw [Bool.and_eq_true,decide_eq_true_eq,decide_eq_true_eq] at h;have:op=3∨op=4∨op=5∨op=6∨op=7∨op=8∨op=9∨op=10∨op=11∨op=12∨op=13∨op=14∨op=15:=by omega
  rcases this with rfl|rfl|rfl|rfl|rfl|rfl|rfl|rfl|rfl|rfl|rfl|rfl|rfl
  ·exact⟨_,_,_,rfl,_,_,inferInstance,fun a b ha hb=>numberK_c _ [] a b _ (op1_c a b ha hb)⟩
  ·exact⟨_,_,_,rfl,_,_,inferInstance,fun a b ha hb=>numberK_c _ [] a b _ (op2_c a b ha hb)⟩
  ·exact⟨_,_,_,rfl,_,_,inferInstance,fun a b ha hb=>times_c a b ha hb⟩
  ·exact⟨_,_,_,rfl,_,_,inferInstance,fun a b ha hb=>divideK_c _ [] a b _ (fun hz=>op3_c a b ha hb hz)⟩
  ·exact⟨_,_,_,rfl,_,_,inferInstance,fun a b ha hb=>divideK_c _ [] a b _ (fun hz=>op4_c a b ha hb hz)⟩
  ·exact⟨_,_,_,rfl,_,_,inferInstance,fun a b ha hb=>numberK_c _ _ a b _ (truthK_c _ [] a b _ (op5_c a b))⟩
  ·exact⟨_,_,_,rfl,_,_,inferInstance,fun a b ha hb=>numberK_c _ _ a b _ (truthK_c _ [] a b _ (op6_c a b))⟩
  ·exact⟨_,_,_,rfl,_,_,inferInstance,fun a b ha hb=>numberK_c _ _ a b _ (truthK_c _ [] a b _ (op7_c a b))⟩
  ·exact⟨_,_,_,rfl,_,_,inferInstance,fun a b ha hb=>numberK_c _ _ a b _ (truthK_c _ [] a b _ (op8_c a b))⟩
  ·exact⟨_,_,_,rfl,_,_,inferInstance,fun a b ha hb=>numberK_c _ _ a b _ (truthK_c _ [] a b _ (op9_c a b))⟩
  ·exact⟨_,_,_,rfl,_,_,inferInstance,fun a b ha hb=>numberK_c _ _ a b _ (truthK_c _ [] a b _ (op10_c a b))⟩
  ·exact⟨_,_,_,rfl,_,_,inferInstance,fun a b ha hb=>numberK_c _ _ a b _ (truthK_c _ [] a b _ (op11_c a b))⟩
  ·exact⟨_,_,_,rfl,_,_,inferInstance,fun a b ha hb=>numberK_c _ _ a b _ (truthK_c _ [] a b _ (op12_c a b))⟩
theorem chk1_c (e:Pn.Ex) :ACalls Tryz.prog 141 [(AV.agg (encE e))] [] (fun v st=>v=(AV.int (Pn.chk1 e))∧st=[]):=by
  refine acalls_body Tryz.func141 (by kernel_rfl) rfl Tryz.ntmps141 (le_ rfl) ?_;rw [Tryz.results141];refine asr ?_;refine sB fun n1=> ?_;refine sA ?_;refine aops_nil ?_;refine awp_seq ?_;refine asr ?_;refine sF ?_;refine sL .here ?_;refine sS ?_;refine sM ?_;refine gF ?_;refine gL0 .here ?_;refine gG0 ?_;refine sK ?_;refine aops_nil ?_;refine awp_cond rfl (fun h1=> ?_) (fun h1=> ?_)
  ·simp only [nf] at h1;refine asr ?_;refine sA ?_;refine aops_nil ?_;refine awp_ret ?_;refine retG (.inr rfl) (.cons (.tmp rfl) .nil) (VShift.of1 (AV.Imp.refl _) (.nil _)) ⟨congrArg (fun x:(Int)=>(AV.int x)) (show _=(Pn.chk1 e) from ?_),rfl⟩;rw [Pn.chk1,if_pos (by omega)]
  ·simp only [nf] at h1;refine awp_skip ?_;refine awp_seq ?_;refine awp_anyT (ks:=[.free,.free,.free,.free,.free,.free,.new,.write,.free]) [] (.nil _) (by kernel_rfl) (fun K=> ?_) ?_
   ·refine rW .here ?_;refine dr_p (fun _=>by exact y_buildSlice (.cons (.plain rfl) inferInstance (by rfl) (.cons (.plain rfl) inferInstance (by rfl) (.cons (.plain rfl) inferInstance (by rfl) (.cons (.plain rfl) inferInstance (by rfl) (.cons (.plain rfl) inferInstance (by rfl) .nil))))) rfl (le_ rfl)) rfl ?_;refine rF ?_;refine rL .here ?_;refine dr_p (fun _=>by exact y_indexT (l:=([0,0,0,1,2]:List Int)) (f:=Go.Aw.encI) (.plain rfl) (.plain rfl) (by omega) (by simp;omega)) rfl ?_;refine rU ?_;refine dr_new (fun _ _=>by exact y_alloc) rfl fun n3=> ?_;refine dr_s (fun _=>by exact y_storeW (by rfl) rfl (.plain rfl) (.plain rfl) (by exact .here) (by rfl)) ?_;refine rA ?_;refine dr_nil ?_;refine awp_seq ?_;refine asr ?_;refine sF ?_;refine sL k1 ?_;refine aops_nil ?_;refine awp_block ?_;refine asr ?_;refine sQ ?_;refine sA ?_;refine aops_nil ?_;refine awp_cond rfl (fun h2=> ?_) (fun h2=> ?_)
    ·simp only [nf] at h2;refine awp_region ?_;refine sF ?_;refine st_storeN (cs':=[_,_,_,_,_]) (by rfl) rfl (.plain rfl) (.plain rfl) (by exact .here) (le_ rfl) (by rfl) ?_;refine aops_nil ?_;refine awp_seq ?_;refine asr ?_;refine sF ?_;refine sL .here ?_;refine sR ?_;refine sM ?_;refine gF ?_;refine gL0 .here ?_;refine st_g rfl rfl rfl SaysI.out (fun hc _=>by exact y_strNe (.opt rfl hc) (.plain rfl)) rfl ?_;refine sK ?_;refine sM ?_;refine gF ?_;refine gL0 .here ?_;refine gR0 ?_;refine sK ?_;refine sM ?_;refine gF ?_;refine gL0 k1 ?_;refine gN0 ?_;refine gM ?_;refine gR01 ?_;refine sK ?_;refine aops_nil ?_;refine awp_cond rfl (fun h3=> ?_) (fun h3=> ?_)
     ·simp only [nf] at h3;have hr:Pn.rest1 e=true∨(e.args.length:Int)≠Pn.arity e:=by
       simp only [Pn.nil_nil,Sv.same_nil] at h3;unfold Pn.rest1 Pn.arity;simp_all [show ({data:= #[]}:ByteArray)=ByteArray.empty from rfl]
      refine asr ?_;refine sA ?_;refine aops_nil ?_;refine awp_ret ?_;refine retG (.inr rfl) (.cons (.tmp rfl) .nil) (VShift.of1 (AV.Imp.refl _) (.nil _)) ⟨congrArg (fun x:(Int)=>(AV.int x)) (show _=(Pn.chk1 e) from ?_),rfl⟩;rw [Pn.chk1,if_neg (by omega),if_pos hr]
     ·simp only [nf] at h3;have hr: ¬ (Pn.rest1 e=true∨(e.args.length:Int)≠Pn.arity e):=by
       simp only [Pn.nil_nil,Sv.same_nil] at h3;unfold Pn.rest1 Pn.arity;simp_all [show ({data:= #[]}:ByteArray)=ByteArray.empty from rfl]
      refine awp_skip ?_;refine awp_seq ?_;have hkc:Pn.known e.op=true∨Pn.known e.op=false:=by cases Pn.known e.op<;>simp
      rcases hkc with hkn|hkn
      ·refine awp_anyT (ks:=[.new,.free,.free,.read,.free,.free,.free,.new,.write,.free]) [] (.nil _) (by kernel_rfl) (fun K=> ?_) ?_
       ·refine dr_new (fun _ _=>by exact y_callMap (.plain rfl) .nil operators_c) rfl fun nM=> ?_;refine rF ?_;refine rL k1 ?_;obtain⟨s9,p9,a9,r9,f9,hget⟩:=opTab_known hkn;refine dr_r (fun _=>by exact y_lookupOk (.plain rfl) (.plain rfl) (by exact .here) hget) rfl ?_;refine rM ?_;refine rE ?_;refine rE ?_;refine dr_new (fun _ _=>by exact y_alloc) rfl fun n5=> ?_;refine dr_s (fun _=>by exact y_storeW (by rfl) rfl (.plain rfl) (.plain rfl) (by exact .here) (by rfl)) ?_;refine rA ?_;refine dr_nil ?_;refine awp_seq ?_;refine awp_block ?_;refine asr ?_;refine sF ?_;refine sL k3 ?_;refine sQ ?_;refine sM ?_;refine gF ?_;refine gL0 k3 ?_;refine gS0 ?_;refine gM0 ?_;refine gF ?_;refine gL0 k3 ?_;refine gG0 ?_;refine st_g rfl rfl rfl SaysI.out (fun hc _=>by exact y_or' hc (.opt rfl hc) rfl rfl) rfl ?_;refine sJ ?_;refine sA ?_;refine aops_nil ?_;refine awp_cond rfl (fun h4=> ?_) (fun h4=> ?_)
        ·simp only [nf] at h4;refine asr ?_;refine sA ?_;refine aops_nil ?_;refine awp_ret ?_;refine retG (.inr rfl) (.cons (.tmp rfl) .nil) (VShift.of1 (AV.Imp.refl _) (.nil _)) ⟨congrArg (fun x:(Int)=>(AV.int x)) (show _=(Pn.chk1 e) from ?_),rfl⟩;rw [Pn.chk1,if_neg (by omega),if_neg hr,if_pos (by omega)]
        ·simp only [nf] at h4;refine asr ?_;refine sF ?_;refine sL k3 ?_;refine sQ ?_;refine sM ?_;refine gF ?_;refine gL0 k3 ?_;refine st_g rfl rfl rfl SaysI.out (fun hc _=>by exact y_call (.plain rfl) (.cons (.opt rfl hc) .nil) (ACalls.pure (isName_c e.name))) rfl ?_;refine gO0 ?_;refine sJ ?_;refine sA ?_;refine aops_nil ?_;refine awp_cond rfl (fun h5=> ?_) (fun h5=> ?_)
         ·simp only [nf] at h5;refine asr ?_;refine sA ?_;refine aops_nil ?_;refine awp_ret ?_;refine retG (.inr rfl) (.cons (.tmp rfl) .nil) (VShift.of1 (AV.Imp.refl _) (.nil _)) ⟨congrArg (fun x:(Int)=>(AV.int x)) (show _=(Pn.chk1 e) from ?_),rfl⟩;rw [Pn.chk1,if_neg (by omega),if_neg hr,if_neg (by omega),if_pos (by assumption)]
         ·simp only [nf] at h5;refine asr ?_;refine sF ?_;refine sL k3 ?_;refine sQ ?_;refine sM ?_;refine gF ?_;refine gL0 k3 ?_;refine gR0 ?_;refine sJ ?_;refine sM ?_;refine gF ?_;refine gL0 k3 ?_;refine gR0 ?_;refine sJ ?_;refine sM ?_;refine gF ?_;refine gL0 k3 ?_;refine gQ0 ?_;refine gM0 ?_;refine gM ?_;refine gO0 ?_;refine st_g rfl rfl rfl SaysI.out (fun hc _=>by exact y_and' hc (.opt rfl hc) rfl rfl) rfl ?_;refine sK ?_;refine sA ?_;refine aops_nil ?_;refine awp_cond rfl (fun h6=> ?_) (fun h6=> ?_)
          ·simp only [nf] at h6;refine asr ?_;refine sA ?_;refine aops_nil ?_;refine awp_ret ?_;refine retG (.inr rfl) (.cons (.tmp rfl) .nil) (VShift.of1 (AV.Imp.refl _) (.nil _)) ⟨congrArg (fun x:(Int)=>(AV.int x)) (show _=(Pn.chk1 e) from ?_),rfl⟩;rw [Pn.chk1,if_neg (by omega),if_neg hr,if_neg (by omega),if_neg (by rintro⟨a,b⟩;simp_all),if_pos (by omega)]
          ·simp only [nf] at h6;refine awp_skip ?_;refine asr ?_;refine sA ?_;refine aops_nil ?_;refine awp_ret ?_;refine retG (.inr rfl) (.cons (.tmp rfl) .nil) (VShift.of1 (AV.Imp.refl _) (.nil _)) ⟨congrArg (fun x:(Int)=>(AV.int x)) (show _=(Pn.chk1 e) from ?_),rfl⟩;rw [Pn.chk1,if_neg (by omega),if_neg hr,if_neg (by omega),if_neg (by rintro⟨a,b⟩;simp_all),if_neg (by rintro (⟨a,b,c⟩|⟨a,b⟩)<;>simp_all)]
       ·kernel_rfl
      ·refine awp_anyT (ks:=[.new,.free,.free,.read,.free,.free,.free,.new,.write,.free]) [] (.nil _) (by kernel_rfl) (fun K=> ?_) ?_
       ·refine dr_new (fun _ _=>by exact y_callMap (.plain rfl) .nil operators_c) rfl fun nM=> ?_;refine rF ?_;refine rL k1 ?_;refine dr_r (fun _=>by exact y_lookupNoA (cs:=[.string ⟨#[]⟩,.int .i64 0,.int .i64 0,.int .i64 0,.nilFunc]) (by kernel_rfl) (by rfl) (.plain rfl) (.plain rfl) (by exact .here) (opTab_none hkn)) rfl ?_;refine rM ?_;refine rE ?_;refine rE ?_;refine dr_new (fun _ _=>by exact y_alloc) rfl fun n5=> ?_;refine dr_s (fun _=>by exact y_storeW (by rfl) rfl (.plain rfl) (.plain rfl) (by exact .here) (by rfl)) ?_;refine rA ?_;refine dr_nil ?_;refine awp_seq ?_;refine awp_block ?_;refine asr ?_;refine sF ?_;refine sL k3 ?_;refine sQ ?_;refine sM ?_;refine gF ?_;refine gL0 k3 ?_;refine gS0 ?_;refine gM0 ?_;refine gF ?_;refine gL0 k3 ?_;refine gG0 ?_;refine st_g rfl rfl rfl SaysI.out (fun hc _=>by exact y_or' hc (.opt rfl hc) rfl rfl) rfl ?_;refine sJ ?_;refine sA ?_;refine aops_nil ?_;refine awp_cond rfl (fun h7=> ?_) (fun h7=> ?_)
        ·simp only [nf] at h7;refine asr ?_;refine sA ?_;refine aops_nil ?_;refine awp_ret ?_;refine retG (.inr rfl) (.cons (.tmp rfl) .nil) (VShift.of1 (AV.Imp.refl _) (.nil _)) ⟨congrArg (fun x:(Int)=>(AV.int x)) (show _=(Pn.chk1 e) from ?_),rfl⟩;rw [Pn.chk1,if_neg (by omega),if_neg hr,if_pos (by omega)]
        ·simp only [nf] at h7;refine asr ?_;refine sF ?_;refine sL k3 ?_;refine sQ ?_;refine sM ?_;refine gF ?_;refine gL0 k3 ?_;refine st_g rfl rfl rfl SaysI.out (fun hc _=>by exact y_call (.plain rfl) (.cons (.opt rfl hc) .nil) (ACalls.pure (isName_c e.name))) rfl ?_;refine gO0 ?_;refine sJ ?_;refine sA ?_;refine aops_nil ?_;refine awp_cond rfl (fun h8=> ?_) (fun h8=> ?_)
         ·simp only [nf] at h8;refine asr ?_;refine sA ?_;refine aops_nil ?_;refine awp_ret ?_;refine retG (.inr rfl) (.cons (.tmp rfl) .nil) (VShift.of1 (AV.Imp.refl _) (.nil _)) ⟨congrArg (fun x:(Int)=>(AV.int x)) (show _=(Pn.chk1 e) from ?_),rfl⟩;rw [Pn.chk1,if_neg (by omega),if_neg hr,if_neg (by omega),if_pos (by assumption)]
         ·simp only [nf] at h8;refine asr ?_;refine sF ?_;refine sL k3 ?_;refine sQ ?_;refine sM ?_;refine gF ?_;refine gL0 k3 ?_;refine gR0 ?_;refine sJ ?_;refine sM ?_;refine gF ?_;refine gL0 k3 ?_;refine gR0 ?_;refine sJ ?_;refine sM ?_;refine gF ?_;refine gL0 k3 ?_;refine gQ0 ?_;refine gM0 ?_;refine gM ?_;refine gO0 ?_;refine st_g rfl rfl rfl SaysI.out (fun hc _=>by exact y_and' hc (.opt rfl hc) rfl rfl) rfl ?_;refine sK ?_;refine sA ?_;refine aops_nil ?_;refine awp_cond rfl (fun h9=> ?_) (fun h9=> ?_)
          ·simp only [nf] at h9;refine asr ?_;refine sA ?_;refine aops_nil ?_;refine awp_ret ?_;refine retG (.inr rfl) (.cons (.tmp rfl) .nil) (VShift.of1 (AV.Imp.refl _) (.nil _)) ⟨congrArg (fun x:(Int)=>(AV.int x)) (show _=(Pn.chk1 e) from ?_),rfl⟩;rw [Pn.chk1,if_neg (by omega),if_neg hr,if_neg (by omega),if_neg (by rintro⟨a,b⟩;simp_all),if_pos (by omega)]
          ·simp only [nf] at h9;refine awp_skip ?_;refine asr ?_;refine sA ?_;refine aops_nil ?_;refine awp_ret ?_;refine retG (.inr rfl) (.cons (.tmp rfl) .nil) (VShift.of1 (AV.Imp.refl _) (.nil _)) ⟨congrArg (fun x:(Int)=>(AV.int x)) (show _=(Pn.chk1 e) from ?_),rfl⟩;rw [Pn.chk1,if_neg (by omega),if_neg hr,if_neg (by omega),if_neg (by rintro⟨a,b⟩;simp_all),if_neg (by rintro (⟨a,b,c⟩|⟨a,b⟩)<;>simp_all)]
       ·kernel_rfl
    ·simp only [nf] at h2;refine asr ?_;refine sQ ?_;refine sA ?_;refine aops_nil ?_;refine awp_cond rfl (fun h10=> ?_) (fun h10=> ?_)
     ·simp only [nf] at h10;refine awp_region ?_;refine sF ?_;refine st_storeN (cs':=[_,_,_,_,_]) (by rfl) rfl (.plain rfl) (.plain rfl) (by exact .here) (le_ rfl) (by rfl) ?_;refine aops_nil ?_;refine awp_seq ?_;refine asr ?_;refine sF ?_;refine sL .here ?_;refine sR ?_;refine sM ?_;refine gF ?_;refine gL0 .here ?_;refine st_g rfl rfl rfl SaysI.out (fun hc _=>by exact y_strNe (.opt rfl hc) (.plain rfl)) rfl ?_;refine sK ?_;refine sM ?_;refine gF ?_;refine gL0 .here ?_;refine gR0 ?_;refine sK ?_;refine sM ?_;refine gF ?_;refine gL0 k1 ?_;refine gN0 ?_;refine gM ?_;refine gR01 ?_;refine sK ?_;refine aops_nil ?_;refine awp_cond rfl (fun h11=> ?_) (fun h11=> ?_)
      ·simp only [nf] at h11;have hr:Pn.rest1 e=true∨(e.args.length:Int)≠Pn.arity e:=by
        simp only [Pn.nil_nil,Sv.same_nil] at h11;unfold Pn.rest1 Pn.arity;simp_all [show ({data:= #[]}:ByteArray)=ByteArray.empty from rfl]
       refine asr ?_;refine sA ?_;refine aops_nil ?_;refine awp_ret ?_;refine retG (.inr rfl) (.cons (.tmp rfl) .nil) (VShift.of1 (AV.Imp.refl _) (.nil _)) ⟨congrArg (fun x:(Int)=>(AV.int x)) (show _=(Pn.chk1 e) from ?_),rfl⟩;rw [Pn.chk1,if_neg (by omega),if_pos hr]
      ·simp only [nf] at h11;have hr: ¬ (Pn.rest1 e=true∨(e.args.length:Int)≠Pn.arity e):=by
        simp only [Pn.nil_nil,Sv.same_nil] at h11;unfold Pn.rest1 Pn.arity;simp_all [show ({data:= #[]}:ByteArray)=ByteArray.empty from rfl]
       refine awp_skip ?_;refine awp_seq ?_;have hkc:Pn.known e.op=true∨Pn.known e.op=false:=by cases Pn.known e.op<;>simp
       rcases hkc with hkn|hkn
       ·refine awp_anyT (ks:=[.new,.free,.free,.read,.free,.free,.free,.new,.write,.free]) [] (.nil _) (by kernel_rfl) (fun K=> ?_) ?_
        ·refine dr_new (fun _ _=>by exact y_callMap (.plain rfl) .nil operators_c) rfl fun nM=> ?_;refine rF ?_;refine rL k1 ?_;obtain⟨s9,p9,a9,r9,f9,hget⟩:=opTab_known hkn;refine dr_r (fun _=>by exact y_lookupOk (.plain rfl) (.plain rfl) (by exact .here) hget) rfl ?_;refine rM ?_;refine rE ?_;refine rE ?_;refine dr_new (fun _ _=>by exact y_alloc) rfl fun n5=> ?_;refine dr_s (fun _=>by exact y_storeW (by rfl) rfl (.plain rfl) (.plain rfl) (by exact .here) (by rfl)) ?_;refine rA ?_;refine dr_nil ?_;refine awp_seq ?_;refine awp_block ?_;refine asr ?_;refine sF ?_;refine sL k3 ?_;refine sQ ?_;refine sM ?_;refine gF ?_;refine gL0 k3 ?_;refine gS0 ?_;refine gM0 ?_;refine gF ?_;refine gL0 k3 ?_;refine gG0 ?_;refine st_g rfl rfl rfl SaysI.out (fun hc _=>by exact y_or' hc (.opt rfl hc) rfl rfl) rfl ?_;refine sJ ?_;refine sA ?_;refine aops_nil ?_;refine awp_cond rfl (fun h12=> ?_) (fun h12=> ?_)
         ·simp only [nf] at h12;refine asr ?_;refine sA ?_;refine aops_nil ?_;refine awp_ret ?_;refine retG (.inr rfl) (.cons (.tmp rfl) .nil) (VShift.of1 (AV.Imp.refl _) (.nil _)) ⟨congrArg (fun x:(Int)=>(AV.int x)) (show _=(Pn.chk1 e) from ?_),rfl⟩;rw [Pn.chk1,if_neg (by omega),if_neg hr,if_pos (by omega)]
         ·simp only [nf] at h12;refine asr ?_;refine sF ?_;refine sL k3 ?_;refine sQ ?_;refine sM ?_;refine gF ?_;refine gL0 k3 ?_;refine st_g rfl rfl rfl SaysI.out (fun hc _=>by exact y_call (.plain rfl) (.cons (.opt rfl hc) .nil) (ACalls.pure (isName_c e.name))) rfl ?_;refine gO0 ?_;refine sJ ?_;refine sA ?_;refine aops_nil ?_;refine awp_cond rfl (fun h13=> ?_) (fun h13=> ?_)
          ·simp only [nf] at h13;refine asr ?_;refine sA ?_;refine aops_nil ?_;refine awp_ret ?_;refine retG (.inr rfl) (.cons (.tmp rfl) .nil) (VShift.of1 (AV.Imp.refl _) (.nil _)) ⟨congrArg (fun x:(Int)=>(AV.int x)) (show _=(Pn.chk1 e) from ?_),rfl⟩;rw [Pn.chk1,if_neg (by omega),if_neg hr,if_neg (by omega),if_pos (by assumption)]
          ·simp only [nf] at h13;refine asr ?_;refine sF ?_;refine sL k3 ?_;refine sQ ?_;refine sM ?_;refine gF ?_;refine gL0 k3 ?_;refine gR0 ?_;refine sJ ?_;refine sM ?_;refine gF ?_;refine gL0 k3 ?_;refine gR0 ?_;refine sJ ?_;refine sM ?_;refine gF ?_;refine gL0 k3 ?_;refine gQ0 ?_;refine gM0 ?_;refine gM ?_;refine gO0 ?_;refine st_g rfl rfl rfl SaysI.out (fun hc _=>by exact y_and' hc (.opt rfl hc) rfl rfl) rfl ?_;refine sK ?_;refine sA ?_;refine aops_nil ?_;refine awp_cond rfl (fun h14=> ?_) (fun h14=> ?_)
           ·simp only [nf] at h14;refine asr ?_;refine sA ?_;refine aops_nil ?_;refine awp_ret ?_;refine retG (.inr rfl) (.cons (.tmp rfl) .nil) (VShift.of1 (AV.Imp.refl _) (.nil _)) ⟨congrArg (fun x:(Int)=>(AV.int x)) (show _=(Pn.chk1 e) from ?_),rfl⟩;rw [Pn.chk1,if_neg (by omega),if_neg hr,if_neg (by omega),if_neg (by rintro⟨a,b⟩;simp_all),if_pos (by omega)]
           ·simp only [nf] at h14;refine awp_skip ?_;refine asr ?_;refine sA ?_;refine aops_nil ?_;refine awp_ret ?_;refine retG (.inr rfl) (.cons (.tmp rfl) .nil) (VShift.of1 (AV.Imp.refl _) (.nil _)) ⟨congrArg (fun x:(Int)=>(AV.int x)) (show _=(Pn.chk1 e) from ?_),rfl⟩;rw [Pn.chk1,if_neg (by omega),if_neg hr,if_neg (by omega),if_neg (by rintro⟨a,b⟩;simp_all),if_neg (by rintro (⟨a,b,c⟩|⟨a,b⟩)<;>simp_all)]
        ·kernel_rfl
       ·refine awp_anyT (ks:=[.new,.free,.free,.read,.free,.free,.free,.new,.write,.free]) [] (.nil _) (by kernel_rfl) (fun K=> ?_) ?_
        ·refine dr_new (fun _ _=>by exact y_callMap (.plain rfl) .nil operators_c) rfl fun nM=> ?_;refine rF ?_;refine rL k1 ?_;refine dr_r (fun _=>by exact y_lookupNoA (cs:=[.string ⟨#[]⟩,.int .i64 0,.int .i64 0,.int .i64 0,.nilFunc]) (by kernel_rfl) (by rfl) (.plain rfl) (.plain rfl) (by exact .here) (opTab_none hkn)) rfl ?_;refine rM ?_;refine rE ?_;refine rE ?_;refine dr_new (fun _ _=>by exact y_alloc) rfl fun n5=> ?_;refine dr_s (fun _=>by exact y_storeW (by rfl) rfl (.plain rfl) (.plain rfl) (by exact .here) (by rfl)) ?_;refine rA ?_;refine dr_nil ?_;refine awp_seq ?_;refine awp_block ?_;refine asr ?_;refine sF ?_;refine sL k3 ?_;refine sQ ?_;refine sM ?_;refine gF ?_;refine gL0 k3 ?_;refine gS0 ?_;refine gM0 ?_;refine gF ?_;refine gL0 k3 ?_;refine gG0 ?_;refine st_g rfl rfl rfl SaysI.out (fun hc _=>by exact y_or' hc (.opt rfl hc) rfl rfl) rfl ?_;refine sJ ?_;refine sA ?_;refine aops_nil ?_;refine awp_cond rfl (fun h15=> ?_) (fun h15=> ?_)
         ·simp only [nf] at h15;refine asr ?_;refine sA ?_;refine aops_nil ?_;refine awp_ret ?_;refine retG (.inr rfl) (.cons (.tmp rfl) .nil) (VShift.of1 (AV.Imp.refl _) (.nil _)) ⟨congrArg (fun x:(Int)=>(AV.int x)) (show _=(Pn.chk1 e) from ?_),rfl⟩;rw [Pn.chk1,if_neg (by omega),if_neg hr,if_pos (by omega)]
         ·simp only [nf] at h15;refine asr ?_;refine sF ?_;refine sL k3 ?_;refine sQ ?_;refine sM ?_;refine gF ?_;refine gL0 k3 ?_;refine st_g rfl rfl rfl SaysI.out (fun hc _=>by exact y_call (.plain rfl) (.cons (.opt rfl hc) .nil) (ACalls.pure (isName_c e.name))) rfl ?_;refine gO0 ?_;refine sJ ?_;refine sA ?_;refine aops_nil ?_;refine awp_cond rfl (fun h16=> ?_) (fun h16=> ?_)
          ·simp only [nf] at h16;refine asr ?_;refine sA ?_;refine aops_nil ?_;refine awp_ret ?_;refine retG (.inr rfl) (.cons (.tmp rfl) .nil) (VShift.of1 (AV.Imp.refl _) (.nil _)) ⟨congrArg (fun x:(Int)=>(AV.int x)) (show _=(Pn.chk1 e) from ?_),rfl⟩;rw [Pn.chk1,if_neg (by omega),if_neg hr,if_neg (by omega),if_pos (by assumption)]
          ·simp only [nf] at h16;refine asr ?_;refine sF ?_;refine sL k3 ?_;refine sQ ?_;refine sM ?_;refine gF ?_;refine gL0 k3 ?_;refine gR0 ?_;refine sJ ?_;refine sM ?_;refine gF ?_;refine gL0 k3 ?_;refine gR0 ?_;refine sJ ?_;refine sM ?_;refine gF ?_;refine gL0 k3 ?_;refine gQ0 ?_;refine gM0 ?_;refine gM ?_;refine gO0 ?_;refine st_g rfl rfl rfl SaysI.out (fun hc _=>by exact y_and' hc (.opt rfl hc) rfl rfl) rfl ?_;refine sK ?_;refine sA ?_;refine aops_nil ?_;refine awp_cond rfl (fun h17=> ?_) (fun h17=> ?_)
           ·simp only [nf] at h17;refine asr ?_;refine sA ?_;refine aops_nil ?_;refine awp_ret ?_;refine retG (.inr rfl) (.cons (.tmp rfl) .nil) (VShift.of1 (AV.Imp.refl _) (.nil _)) ⟨congrArg (fun x:(Int)=>(AV.int x)) (show _=(Pn.chk1 e) from ?_),rfl⟩;rw [Pn.chk1,if_neg (by omega),if_neg hr,if_neg (by omega),if_neg (by rintro⟨a,b⟩;simp_all),if_pos (by omega)]
           ·simp only [nf] at h17;refine awp_skip ?_;refine asr ?_;refine sA ?_;refine aops_nil ?_;refine awp_ret ?_;refine retG (.inr rfl) (.cons (.tmp rfl) .nil) (VShift.of1 (AV.Imp.refl _) (.nil _)) ⟨congrArg (fun x:(Int)=>(AV.int x)) (show _=(Pn.chk1 e) from ?_),rfl⟩;rw [Pn.chk1,if_neg (by omega),if_neg hr,if_neg (by omega),if_neg (by rintro⟨a,b⟩;simp_all),if_neg (by rintro (⟨a,b,c⟩|⟨a,b⟩)<;>simp_all)]
        ·kernel_rfl
     ·simp only [nf] at h10;refine awp_region ?_;refine sF ?_;refine st_storeN (cs':=[_,_,_,_,_]) (by rfl) rfl (.plain rfl) (.plain rfl) (by exact .here) (le_ rfl) (by rfl) ?_;refine aops_nil ?_;refine awp_seq ?_;refine asr ?_;refine sF ?_;refine sL .here ?_;refine sR ?_;refine sM ?_;refine gF ?_;refine gL0 .here ?_;refine st_g rfl rfl rfl SaysI.out (fun hc _=>by exact y_strNe (.opt rfl hc) (.plain rfl)) rfl ?_;refine sK ?_;refine sM ?_;refine gF ?_;refine gL0 .here ?_;refine gR0 ?_;refine sK ?_;refine sM ?_;refine gF ?_;refine gL0 k1 ?_;refine gN0 ?_;refine gM ?_;refine gR01 ?_;refine sK ?_;refine aops_nil ?_;refine awp_cond rfl (fun h18=> ?_) (fun h18=> ?_)
      ·simp only [nf] at h18;have hr:Pn.rest1 e=true∨(e.args.length:Int)≠Pn.arity e:=by
        simp only [Pn.nil_nil,Sv.same_nil] at h18;unfold Pn.rest1 Pn.arity;simp_all [show ({data:= #[]}:ByteArray)=ByteArray.empty from rfl]
       refine asr ?_;refine sA ?_;refine aops_nil ?_;refine awp_ret ?_;refine retG (.inr rfl) (.cons (.tmp rfl) .nil) (VShift.of1 (AV.Imp.refl _) (.nil _)) ⟨congrArg (fun x:(Int)=>(AV.int x)) (show _=(Pn.chk1 e) from ?_),rfl⟩;rw [Pn.chk1,if_neg (by omega),if_pos hr]
      ·simp only [nf] at h18;have hr: ¬ (Pn.rest1 e=true∨(e.args.length:Int)≠Pn.arity e):=by
        simp only [Pn.nil_nil,Sv.same_nil] at h18;unfold Pn.rest1 Pn.arity;simp_all [show ({data:= #[]}:ByteArray)=ByteArray.empty from rfl]
       refine awp_skip ?_;refine awp_seq ?_;have hkc:Pn.known e.op=true∨Pn.known e.op=false:=by cases Pn.known e.op<;>simp
       rcases hkc with hkn|hkn
       ·refine awp_anyT (ks:=[.new,.free,.free,.read,.free,.free,.free,.new,.write,.free]) [] (.nil _) (by kernel_rfl) (fun K=> ?_) ?_
        ·refine dr_new (fun _ _=>by exact y_callMap (.plain rfl) .nil operators_c) rfl fun nM=> ?_;refine rF ?_;refine rL k1 ?_;obtain⟨s9,p9,a9,r9,f9,hget⟩:=opTab_known hkn;refine dr_r (fun _=>by exact y_lookupOk (.plain rfl) (.plain rfl) (by exact .here) hget) rfl ?_;refine rM ?_;refine rE ?_;refine rE ?_;refine dr_new (fun _ _=>by exact y_alloc) rfl fun n5=> ?_;refine dr_s (fun _=>by exact y_storeW (by rfl) rfl (.plain rfl) (.plain rfl) (by exact .here) (by rfl)) ?_;refine rA ?_;refine dr_nil ?_;refine awp_seq ?_;refine awp_block ?_;refine asr ?_;refine sF ?_;refine sL k3 ?_;refine sQ ?_;refine sM ?_;refine gF ?_;refine gL0 k3 ?_;refine gS0 ?_;refine gM0 ?_;refine gF ?_;refine gL0 k3 ?_;refine gG0 ?_;refine st_g rfl rfl rfl SaysI.out (fun hc _=>by exact y_or' hc (.opt rfl hc) rfl rfl) rfl ?_;refine sJ ?_;refine sA ?_;refine aops_nil ?_;refine awp_cond rfl (fun h19=> ?_) (fun h19=> ?_)
         ·simp only [nf] at h19;refine asr ?_;refine sA ?_;refine aops_nil ?_;refine awp_ret ?_;refine retG (.inr rfl) (.cons (.tmp rfl) .nil) (VShift.of1 (AV.Imp.refl _) (.nil _)) ⟨congrArg (fun x:(Int)=>(AV.int x)) (show _=(Pn.chk1 e) from ?_),rfl⟩;rw [Pn.chk1,if_neg (by omega),if_neg hr,if_pos (by omega)]
         ·simp only [nf] at h19;refine asr ?_;refine sF ?_;refine sL k3 ?_;refine sQ ?_;refine sM ?_;refine gF ?_;refine gL0 k3 ?_;refine st_g rfl rfl rfl SaysI.out (fun hc _=>by exact y_call (.plain rfl) (.cons (.opt rfl hc) .nil) (ACalls.pure (isName_c e.name))) rfl ?_;refine gO0 ?_;refine sJ ?_;refine sA ?_;refine aops_nil ?_;refine awp_cond rfl (fun h20=> ?_) (fun h20=> ?_)
          ·simp only [nf] at h20;refine asr ?_;refine sA ?_;refine aops_nil ?_;refine awp_ret ?_;refine retG (.inr rfl) (.cons (.tmp rfl) .nil) (VShift.of1 (AV.Imp.refl _) (.nil _)) ⟨congrArg (fun x:(Int)=>(AV.int x)) (show _=(Pn.chk1 e) from ?_),rfl⟩;rw [Pn.chk1,if_neg (by omega),if_neg hr,if_neg (by omega),if_pos (by assumption)]
          ·simp only [nf] at h20;refine asr ?_;refine sF ?_;refine sL k3 ?_;refine sQ ?_;refine sM ?_;refine gF ?_;refine gL0 k3 ?_;refine gR0 ?_;refine sJ ?_;refine sM ?_;refine gF ?_;refine gL0 k3 ?_;refine gR0 ?_;refine sJ ?_;refine sM ?_;refine gF ?_;refine gL0 k3 ?_;refine gQ0 ?_;refine gM0 ?_;refine gM ?_;refine gO0 ?_;refine st_g rfl rfl rfl SaysI.out (fun hc _=>by exact y_and' hc (.opt rfl hc) rfl rfl) rfl ?_;refine sK ?_;refine sA ?_;refine aops_nil ?_;refine awp_cond rfl (fun h21=> ?_) (fun h21=> ?_)
           ·simp only [nf] at h21;refine asr ?_;refine sA ?_;refine aops_nil ?_;refine awp_ret ?_;refine retG (.inr rfl) (.cons (.tmp rfl) .nil) (VShift.of1 (AV.Imp.refl _) (.nil _)) ⟨congrArg (fun x:(Int)=>(AV.int x)) (show _=(Pn.chk1 e) from ?_),rfl⟩;rw [Pn.chk1,if_neg (by omega),if_neg hr,if_neg (by omega),if_neg (by rintro⟨a,b⟩;simp_all),if_pos (by (simp_all;done))]
           ·simp only [nf] at h21;refine awp_skip ?_;refine asr ?_;refine sA ?_;refine aops_nil ?_;refine awp_ret ?_;refine retG (.inr rfl) (.cons (.tmp rfl) .nil) (VShift.of1 (AV.Imp.refl _) (.nil _)) ⟨congrArg (fun x:(Int)=>(AV.int x)) (show _=(Pn.chk1 e) from ?_),rfl⟩;rw [Pn.chk1,if_neg (by omega),if_neg hr,if_neg (by omega),if_neg (by rintro⟨a,b⟩;simp_all),if_neg (by rintro (⟨a,b,c⟩|⟨a,b⟩)<;>simp_all)]
        ·kernel_rfl
       ·refine awp_anyT (ks:=[.new,.free,.free,.read,.free,.free,.free,.new,.write,.free]) [] (.nil _) (by kernel_rfl) (fun K=> ?_) ?_
        ·refine dr_new (fun _ _=>by exact y_callMap (.plain rfl) .nil operators_c) rfl fun nM=> ?_;refine rF ?_;refine rL k1 ?_;refine dr_r (fun _=>by exact y_lookupNoA (cs:=[.string ⟨#[]⟩,.int .i64 0,.int .i64 0,.int .i64 0,.nilFunc]) (by kernel_rfl) (by rfl) (.plain rfl) (.plain rfl) (by exact .here) (opTab_none hkn)) rfl ?_;refine rM ?_;refine rE ?_;refine rE ?_;refine dr_new (fun _ _=>by exact y_alloc) rfl fun n5=> ?_;refine dr_s (fun _=>by exact y_storeW (by rfl) rfl (.plain rfl) (.plain rfl) (by exact .here) (by rfl)) ?_;refine rA ?_;refine dr_nil ?_;refine awp_seq ?_;refine awp_block ?_;refine asr ?_;refine sF ?_;refine sL k3 ?_;refine sQ ?_;refine sM ?_;refine gF ?_;refine gL0 k3 ?_;refine gS0 ?_;refine gM0 ?_;refine gF ?_;refine gL0 k3 ?_;refine gG0 ?_;refine st_g rfl rfl rfl SaysI.out (fun hc _=>by exact y_or' hc (.opt rfl hc) rfl rfl) rfl ?_;refine sJ ?_;refine sA ?_;refine aops_nil ?_;refine awp_cond rfl (fun h22=> ?_) (fun h22=> ?_)
         ·simp only [nf] at h22;refine asr ?_;refine sA ?_;refine aops_nil ?_;refine awp_ret ?_;refine retG (.inr rfl) (.cons (.tmp rfl) .nil) (VShift.of1 (AV.Imp.refl _) (.nil _)) ⟨congrArg (fun x:(Int)=>(AV.int x)) (show _=(Pn.chk1 e) from ?_),rfl⟩;rw [Pn.chk1,if_neg (by omega),if_neg hr,if_pos (by omega)]
         ·simp only [nf] at h22;refine asr ?_;refine sF ?_;refine sL k3 ?_;refine sQ ?_;refine sM ?_;refine gF ?_;refine gL0 k3 ?_;refine st_g rfl rfl rfl SaysI.out (fun hc _=>by exact y_call (.plain rfl) (.cons (.opt rfl hc) .nil) (ACalls.pure (isName_c e.name))) rfl ?_;refine gO0 ?_;refine sJ ?_;refine sA ?_;refine aops_nil ?_;refine awp_cond rfl (fun h23=> ?_) (fun h23=> ?_)
          ·simp only [nf] at h23;refine asr ?_;refine sA ?_;refine aops_nil ?_;refine awp_ret ?_;refine retG (.inr rfl) (.cons (.tmp rfl) .nil) (VShift.of1 (AV.Imp.refl _) (.nil _)) ⟨congrArg (fun x:(Int)=>(AV.int x)) (show _=(Pn.chk1 e) from ?_),rfl⟩;rw [Pn.chk1,if_neg (by omega),if_neg hr,if_neg (by omega),if_pos (by assumption)]
          ·simp only [nf] at h23;refine asr ?_;refine sF ?_;refine sL k3 ?_;refine sQ ?_;refine sM ?_;refine gF ?_;refine gL0 k3 ?_;refine gR0 ?_;refine sJ ?_;refine sM ?_;refine gF ?_;refine gL0 k3 ?_;refine gR0 ?_;refine sJ ?_;refine sM ?_;refine gF ?_;refine gL0 k3 ?_;refine gQ0 ?_;refine gM0 ?_;refine gM ?_;refine gO0 ?_;refine st_g rfl rfl rfl SaysI.out (fun hc _=>by exact y_and' hc (.opt rfl hc) rfl rfl) rfl ?_;refine sK ?_;refine sA ?_;refine aops_nil ?_;refine awp_cond rfl (fun h24=> ?_) (fun h24=> ?_)
           ·simp only [nf] at h24;refine asr ?_;refine sA ?_;refine aops_nil ?_;refine awp_ret ?_;refine retG (.inr rfl) (.cons (.tmp rfl) .nil) (VShift.of1 (AV.Imp.refl _) (.nil _)) ⟨congrArg (fun x:(Int)=>(AV.int x)) (show _=(Pn.chk1 e) from ?_),rfl⟩;rw [Pn.chk1,if_neg (by omega),if_neg hr,if_neg (by omega),if_neg (by rintro⟨a,b⟩;simp_all),if_pos (by (simp_all;omega))]
           ·simp only [nf] at h24;refine awp_skip ?_;refine asr ?_;refine sA ?_;refine aops_nil ?_;refine awp_ret ?_;refine retG (.inr rfl) (.cons (.tmp rfl) .nil) (VShift.of1 (AV.Imp.refl _) (.nil _)) ⟨congrArg (fun x:(Int)=>(AV.int x)) (show _=(Pn.chk1 e) from ?_),rfl⟩;rw [Pn.chk1,if_neg (by omega),if_neg hr,if_neg (by omega),if_neg (by rintro⟨a,b⟩;simp_all),if_neg (by rintro (⟨a,b,c⟩|⟨a,b⟩)<;>simp_all)]
        ·kernel_rfl
   ·kernel_rfl
end Go.Proofs
set_option maxRecDepth 10000
namespace Go.Proofs
open Go.Aw Wl Pn
theorem visit_step (L:List Pn.Ex) (yv:AV) (SP:Nat→List Aw.Item→Prop) (SE:List Aw.Item→Prop) (h: ∀ k (hk:k<L.length) st,SP k st→AYields Tryz.prog yv [.agg (encE L[k])] st (fun v st'=> ∃ b,v= .bool b∧(b=true→SP (k+1) st')∧(b=false→SE st'))) (e:Pn.Ex) (hl:e.args.length≤100) (ih: ∀ x∈e.args,∀ (o:Nat) (st0:List Aw.Item),Pn.At L o x→SP o st0→ACalls Tryz.prog 165 [.agg (encE x),yv] st0 (fun v st=> ∃ b,v= .bool b∧(b=true→SP (o+(Pn.ptE x).length) st)∧(b=false→SE st))) (o:Nat) (st0:List Aw.Item) (hat:Pn.At L o e) (h0:SP o st0):ACalls Tryz.prog 165 [.agg (encE e),yv] st0 (fun v st=> ∃ b,v= .bool b∧(b=true→SP (o+(Pn.ptE e).length) st)∧(b=false→SE st)):=by
  refine acallsX_body Tryz.func165 (by kernel_rfl) rfl Tryz.ntmps165 (le_ rfl) ?_;rw [Tryz.results165];obtain⟨ho,hoe⟩:=hat.head;refine awx_seq ?_;refine awx_region rfl ?_;refine sB fun n2=> ?_;refine sA ?_;refine aops_nil ?_;refine awx_seq ?_;refine awx_seq ?_;refine awx_regionYk 2 rfl rfl rfl ?_;dsimp only [List.take,List.drop];refine sM ?_;refine sW .here ?_;refine aops_nil ?_;refine⟨_,_,rfl,.cons (.imp (.plain rfl) (AV.Imp.of_eq (by rw [←hoe]))) .nil,AYields.frame (st1:=st0) (st2:=[Aw.Item.cells n2 _]) (h o ho st0 h0) (List.perm_append_comm (l₁:=[Aw.Item.cells n2 _])) ?_⟩;rintro v st' ⟨b,rfl,hb1,hb2⟩;refine aops_weak (Weak.perm (st':=Aw.Item.cells n2 _::st') (List.perm_append_comm (l₂:=[Aw.Item.cells n2 _]))) ?_;refine sO ?_;refine aops_nil ?_;refine awx_cond rfl (fun h1=> ?_) (fun h1=> ?_)
  ·simp only [nf] at h1;refine awx_seq ?_;refine awx_region rfl ?_;refine sA ?_;refine aops_nil ?_;refine awx_ret ?_;exact retX (.inr rfl) (List.Perm.refl _) (.cons (.tmp rfl) .nil) (VShift.sub (AV.Imp.refl _) (List.sublist_cons_self _ _)) ⟨false,rfl,fun e9=>(by cases e9),fun _=>hb2 (by simpa using h1)⟩
  ·simp only [nf] at h1;refine awx_skip ?_;refine awx_seq ?_;refine awx_seq ?_;refine awx_region rfl ?_;refine sF ?_;refine sL .here ?_;refine sN ?_;refine sM ?_;refine aops_nil ?_;refine awx_block ?_;refine awx_loop2 (X:=Nat×List Aw.Item) (rest:=[]) [1,12,13] (.cons rfl (.cons rfl (.cons rfl .nil))) (fun σ x=>((14,.int (x.1:Int)):Nat×AV)::σ) (fun R x=> .cells n2 (encE e)::x.2) (fun x=>x.1≤e.args.length∧SP (o+1+(Pn.ptL (e.args.take x.1)).length) x.2) (fun x=>e.args.length - x.1) (0,st') (by exact Weak.of2 (by (repeat (first|exact .nil _|refine .cons rfl (by exact AV.Imp.refl _) ?_));done) (by (repeat (exact .refl _));done)) ⟨Nat.zero_le _,by have:=hb1 (by simpa using h1);simpa [Pn.ptL] using this⟩ ?_;rintro⟨k,st⟩ ⟨hk,hsp⟩;simp only at hk hsp;dsimp only;refine awx_seq ?_;refine awx_region rfl ?_;refine sS ?_;refine aops_nil ?_;refine awx_seq ?_;refine awx_cond rfl (fun h2=> ?_) (fun h2=> ?_)
   ·simp only [nf] at h2;have hkl:k<e.args.length:=by omega
    refine awx_skip ?_;refine awx_seq ?_;refine awx_block ?_;refine awx_seq ?_;refine awx_region rfl ?_;refine st_p (fun _=>by exact y_indexMap (.plain rfl) (.plain rfl) rfl (by refine⟨?_,?_⟩;(omega);rfl)) rfl ?_;refine sV ?_;refine sC fun n6=> ?_;refine st_s (fun _=>by exact y_storeW (by rfl) rfl (.plain rfl) (.plain rfl) (by exact .here) (by rfl)) ?_;refine aops_nil ?_;refine awx_seq ?_;refine awx_region rfl ?_;refine sW .here ?_;refine sM ?_;refine aops_call (blt_lt rfl) (.plain rfl) (.cons (.plain rfl) (.cons (.plain rfl) .nil)) (ACalls.frame (st1:=st) (st2:=[Aw.Item.cells n6 _,Aw.Item.cells n2 _]) (ih _ (List.getElem_mem hkl) _ st (hat.arg hkl) hsp) (List.perm_append_comm (l₁:=[Aw.Item.cells n6 _,Aw.Item.cells n2 _])) ?_);rintro v st'' ⟨c,rfl,hc1,hc2⟩;refine aops_weak (Weak.perm (st':=Aw.Item.cells n2 _::Aw.Item.cells n6 _::st'') ((List.perm_append_comm (l₂:=[Aw.Item.cells n6 _,Aw.Item.cells n2 _])).trans (List.Perm.swap _ _ _))) ?_;refine sO ?_;refine aops_nil ?_;refine awx_cond rfl (fun h3=> ?_) (fun h3=> ?_)
    ·simp only [nf] at h3;refine awx_seq ?_;refine awx_region rfl ?_;refine sA ?_;refine aops_nil ?_;refine awx_ret ?_;exact retX (.inr rfl) (List.Perm.refl _) (.cons (.tmp rfl) .nil) (VShift.sub (AV.Imp.refl _) ((List.sublist_cons_self _ _).trans (List.sublist_cons_self _ _))) ⟨false,rfl,fun e9=>(by cases e9),fun _=>hc2 (by simpa using h3)⟩
    ·simp only [nf] at h3;refine awx_skip ?_;refine awx_region rfl ?_;refine sY ?_ (hb:=by omega);refine sM ?_;refine aops_nil ?_;refine⟨rfl,?_⟩;refine⟨(k+1,st''),⟨by show k+1≤_;omega,?_⟩,by show e.args.length - (k+1)<e.args.length - k;omega,Weak.of2 (by (repeat (first|exact .nil _|refine .cons rfl (by exact AV.Imp.refl _) ?_));done) (by exact .cons .here (.sub (List.sublist_cons_self _ _)))⟩;have hs9:=hc1 (by simpa using h3);show SP (o+1+_) st'';rw [(Pn.ptL_take e.args k hkl).2,List.length_append,←Nat.add_assoc];exact hs9
   ·simp only [nf] at h2;refine awx_exit ?_;refine awx_seq ?_;refine awx_region rfl ?_;refine sA ?_;refine aops_nil ?_;refine awx_ret ?_;refine retX (.inr rfl) (List.Perm.refl _) (.cons (.tmp rfl) .nil) (VShift.sub (AV.Imp.refl _) (List.sublist_cons_self _ _)) ⟨true,rfl,fun _=> ?_,fun e9=>(by cases e9)⟩;obtain rfl:k=e.args.length:=by omega
    rw [List.take_length] at hsp;rw [Pn.ptE_eq,List.length_cons,show o+((Pn.ptL e.args).length+1)=o+1+(Pn.ptL e.args).length by omega];exact hsp
theorem visit_c (L:List Pn.Ex) (yv:AV) (SP:Nat→List Aw.Item→Prop) (SE:List Aw.Item→Prop) (h: ∀ k (hk:k<L.length) st,SP k st→AYields Tryz.prog yv [.agg (encE L[k])] st (fun v st'=> ∃ b,v= .bool b∧(b=true→SP (k+1) st')∧(b=false→SE st'))) (e:Pn.Ex):Pn.Sm e→ ∀ (o:Nat) (st0:List Aw.Item),Pn.At L o e→SP o st0→ACalls Tryz.prog 165 [.agg (encE e),yv] st0 (fun v st=> ∃ b,v= .bool b∧(b=true→SP (o+(Pn.ptE e).length) st)∧(b=false→SE st)):=by
  induction e using Pn.Ex.ind with
  |h e ih=>exact fun hs=>visit_step L yv SP SE h e hs.len fun x hx=>ih x hx (hs.arg hx)
theorem parts_c (e:Pn.Ex):ACalls Tryz.prog 140 [.agg (encE e)] [] (fun v st=> ∃ i,v= .clo 164 [.ptr i 0]∧st=[.cells i (encE e)]):=by
  refine acalls_body Tryz.func140 (by kernel_rfl) rfl Tryz.ntmps140 (le_ rfl) ?_;rw [Tryz.results140];refine asr ?_;refine sB fun n1=> ?_;refine sA ?_;refine aops_nil ?_;refine asr ?_;refine st_p (fun _=>by exact y_makeFunc (.cons (.plain rfl) .nil)) rfl ?_;refine sA ?_;refine aops_nil ?_;refine awp_ret ?_;exact retG (.inr rfl) (.cons (.tmp rfl) .nil) VShift.refl ⟨n1,rfl,rfl⟩
theorem partsK_c (e:Pn.Ex) (hs:Pn.Sm e) (i:Nat) (yv:AV) (SP:Nat→List Aw.Item→Prop) (SE:List Aw.Item→Prop) (st0:List Aw.Item) (h0:SP 0 st0) (h: ∀ k (hk:k<(Pn.ptE e).length) st,SP k st→AYields Tryz.prog yv [.agg (encE (Pn.ptE e)[k])] st (fun v st'=> ∃ b,v= .bool b∧(b=true→SP (k+1) st')∧(b=false→SE st'))):ACalls Tryz.prog 164 [yv,.ptr i 0] (.cells i (encE e)::st0) (fun v st=> ∃ stx,st= .cells i (encE e)::stx∧(SP (Pn.ptE e).length stx∨SE stx)):=by
  refine acalls_body Tryz.func164 (by kernel_rfl) rfl Tryz.ntmps164 (le_ rfl) ?_;rw [Tryz.results164];refine awp_region ?_;refine sW .here ?_;refine sM ?_;refine aops_call (blt_lt rfl) (.plain rfl) (.cons (.plain rfl) (.cons (.plain rfl) .nil)) (ACalls.frame (st1:=st0) (st2:=[Aw.Item.cells i _]) (visit_c (Pn.ptE e) yv SP SE h e hs 0 st0 (Pn.At.self e) h0) (List.perm_append_comm (l₁:=[Aw.Item.cells i _])) ?_);rintro v st' ⟨c,rfl,hc1,hc2⟩;refine aops_weak (Weak.perm (st':=Aw.Item.cells i _::st') (List.perm_append_comm (l₂:=[Aw.Item.cells i _]))) ?_;refine aops_nil ?_;refine retG (.inl rfl) .nil VShift.refl ⟨_,rfl,?_⟩;cases c with
  |true=>exact .inl (by simpa using hc1 rfl)
  |false=>exact .inr (hc2 rfl)
theorem chkE_c (e:Pn.Ex) :ACalls Tryz.prog 95 [(AV.agg (encE e))] [] (fun v st=>v=(AV.int (Pn.chkE e))∧st=[]):=by
  refine acallsX_body Tryz.func95 (by kernel_rfl) rfl Tryz.ntmps95 (le_ rfl) ?_;rw [Tryz.results95];refine awx_seq ?_;refine awx_region rfl ?_;refine sB fun n1=> ?_;refine sC fun n2=> ?_;refine aops_nil ?_;refine awx_seq ?_;refine awx_region rfl ?_;refine sC fun n3=> ?_;refine st_s (fun _=>by exact y_storeW (by rfl) rfl (.plain rfl) (.plain rfl) (by exact .here) (by rfl)) ?_;refine aops_nil ?_;refine awx_seq ?_;refine awx_region rfl ?_;refine sW k2 ?_;refine aops_call (blt_lt rfl) (.plain rfl) (.cons (.plain rfl) (.cons (.plain rfl) (.cons (.plain rfl) .nil))) (ACalls.upd (its:=[.cells n3 _]) (by apply Takes.cons (by exact .here);exact .nil _) (measure_c e n3 1 0 (by decide) (by decide)) ?_);refine sA ?_;refine aops_nil ?_;refine awx_seq ?_;refine awx_seq ?_;refine awx_region rfl ?_;refine sL .here ?_;refine sG ?_;refine aops_nil ?_;refine awx_cond rfl (fun h1=> ?_) (fun h1=> ?_)
  ·simp only [nf] at h1;refine awx_seq ?_;refine awx_region rfl ?_;refine st_s (fun _=>by exact y_storeW (by rfl) rfl (.plain rfl) (.plain rfl) (by exact u1) (by rfl)) ?_;refine aops_nil ?_;refine awx_ret ?_;refine retX (.inr rfl) (List.Perm.refl _) (.cons (res_cellS rfl (by exact k1) rfl) .nil) (VShift.of1 (AV.Imp.refl _) (.nil _)) ⟨congrArg (fun x:(Int)=>(AV.int x)) (show _=(Pn.chkE e) from ?_),rfl⟩;rw [Pn.chkE,if_pos h1]
  ·simp only [nf] at h1;refine awx_skip ?_;refine awx_seq ?_;refine awx_seq ?_;refine awx_region rfl ?_;refine sM ?_;refine sG ?_;refine aops_nil ?_;refine awx_cond rfl (fun h2=> ?_) (fun h2=> ?_)
   ·simp only [nf] at h2;refine awx_seq ?_;refine awx_region rfl ?_;refine st_s (fun _=>by exact y_storeW (by rfl) rfl (.plain rfl) (.plain rfl) (by exact u1) (by rfl)) ?_;refine aops_nil ?_;refine awx_ret ?_;refine retX (.inr rfl) (List.Perm.refl _) (.cons (res_cellS rfl (by exact k1) rfl) .nil) (VShift.of1 (AV.Imp.refl _) (.nil _)) ⟨congrArg (fun x:(Int)=>(AV.int x)) (show _=(Pn.chkE e) from ?_),rfl⟩;rw [Pn.chkE,if_neg h1,if_pos h2]
   ·simp only [nf] at h2;refine awx_skip ?_;refine awx_seq ?_;refine awx_seq ?_;have hsm:Pn.Sm e:=Pn.msE_sm e 1 0 (by decide) (by omega) (by omega);refine awx_region rfl ?_;refine sW k2 ?_;refine aops_call (blt_lt rfl) (.plain rfl) (.cons (.plain rfl) .nil) (ACalls.frame (st1:=[]) (parts_c e) (List.Perm.refl _) ?_);rintro v st ⟨bi,rfl,rfl⟩;refine aops_nil ?_;refine awx_block ?_;refine awx_rangeFunc rfl fun iL iD T fn D RS hRS=> ?_;refine ACalls.frame (partsK_c e hsm bi (.yld iL _ _ T) (fun k st=>st=Aw.Item.raw iL (RS .ready none)::[.cells n2 [.int 0]]∧Pn.firstE (Pn.ptE e)=Pn.firstE ((Pn.ptE e).drop k)) (fun st=>st=Aw.Item.raw iL (RS .done (some .ret))::[.cells n2 [.int (Pn.firstE (Pn.ptE e))]]) _ ⟨rfl,rfl⟩ ?_) (Takes.perm (by apply Takes.cons (by exact k2);apply Takes.cons (by exact .here);apply Takes.cons (by exact k2);exact .nil _)) ?_
    ·rintro k hk st ⟨rfl,hno⟩;refine AYields.round hRS (by decide) rfl (fun lb=> ?_);refine awx_region rfl ?_;refine sC fun n5=> ?_;refine st_s (fun _=>by exact y_storeW (by rfl) rfl (.plain rfl) (.plain rfl) (by exact .here) (by rfl)) ?_;refine aops_nil ?_;refine⟨rfl,?_⟩;refine awx_block ?_;refine awx_seq ?_;refine awx_region rfl ?_;refine sW .here ?_;refine aops_call (blt_lt rfl) (.plain rfl) (.cons (.imp (.plain rfl) (AV.Imp.agg (RowOf.imp (enc:=encE)))) .nil) (ACalls.here (chk1_c _) ?_);refine sA ?_;refine aops_weak (Weak.sub (List.sublist_cons_self _ _)) ?_;refine aops_nil ?_;refine awx_seq ?_;refine awx_region rfl ?_;refine sM ?_;refine sR ?_;refine aops_nil ?_;refine awx_cond rfl (fun h3=> ?_) (fun h3=> ?_)
     ·simp only [nf] at h3;have hc1:Pn.chk1 (Pn.ptE e)[k]≠0:=by omega
      refine awx_seq ?_;refine awx_region rfl ?_;refine sM ?_;refine st_s (fun _=>by exact y_storeW (by rfl) rfl (.plain rfl) (.plain rfl) (by exact .here) (by rfl)) ?_;refine aops_nil ?_;refine awx_ret ?_;refine Exists.intro false ?_;refine⟨rfl,fun h=>(by cases h),fun _=> ?_⟩;rw [hno,Pn.firstE_t hk hc1];all_goals rfl
     ·simp only [nf] at h3;have hc1: ¬ Pn.chk1 (Pn.ptE e)[k]≠0:=by omega
      refine awx_skip ?_;refine⟨true,rfl,fun _=>⟨rfl,?_⟩,fun h=>by cases h⟩;rw [hno,Pn.firstE_f hk hc1]
    rintro v st' ⟨stx,rfl,hx⟩;rcases hx with ⟨rfl,hno⟩|rfl;rotate_left
    ·refine⟨.done,some .ret,_,Take.perm (.there .here),by simp,?_⟩;refine awx_ret ?_;refine retX (.inr rfl) (Takes.perm (by apply Takes.cons (by exact k2);exact .nil _)) (.cons (res_cellS rfl (by exact k1) rfl) .nil) (VShift.of1 (AV.Imp.refl _) (.nil _)) ⟨congrArg (fun x:(Int)=>(AV.int x)) (show _=(Pn.chkE e) from ?_),rfl⟩;rw [Pn.chkE,if_neg (by omega),if_neg (by omega)]
    refine⟨.ready,none,_,Take.perm (.there .here),by simp,?_⟩;refine awx_seq ?_;refine awx_region rfl ?_;refine st_s (fun _=>by exact y_storeW (by rfl) rfl (.plain rfl) (.plain rfl) (by exact u1) (by rfl)) ?_;refine aops_nil ?_;refine awx_ret ?_;refine retX (.inr rfl) (Takes.perm (by apply Takes.cons (by exact k2);exact .nil _)) (.cons (res_cellS rfl (by exact k1) rfl) .nil) (VShift.of1 (AV.Imp.refl _) (.nil _)) ⟨congrArg (fun x:(Int)=>(AV.int x)) (show _=(Pn.chkE e) from ?_),rfl⟩;rw [Pn.chkE,if_neg (by omega),if_neg (by omega),hno,List.drop_length,Pn.firstE]
end Go.Proofs
namespace Pn
open Go.Aw (strGe)
structure Bd where
  name:ByteArray
  type:Int
  value:Int
  deriving Inhabited
def Bd0:Bd:=⟨⟨#[]⟩,0,0⟩
def lowB (b:Bd):Int:=if b.type=2 then 0 else -1099511627776
def highB (b:Bd):Int:=if b.type=2 then 1 else 1099511627776
def badB (l:List Bd) (k:Nat):Bool:=
  !Sv.isName (l.getD k default).name|| (decide (0<(k:Int)) && strGe (l.getD (k - 1) default).name (l.getD k default).name)|| (!decide ((l.getD k default).type=1) && !decide ((l.getD k default).type=2))||decide ((l.getD k default).value<lowB (l.getD k default))||decide (highB (l.getD k default)<(l.getD k default).value)
def bound (l:List Bd):Bool:=(List.range l.length).all (fun k=> !badB l k) && decide ((l.length:Int)≤64)
theorem bound_bad {l:List Bd} {k:Nat} (hk:k<l.length) (h:badB l k=true):bound l=false:=by
  unfold bound;have:(List.range l.length).all (fun k=> !badB l k)=false:=by
   rw [List.all_eq_false];exact⟨k,List.mem_range.2 hk,by simp [h]⟩
  rw [this,Bool.false_and]
theorem bound_good {l:List Bd} (h: ∀ i,i<l.length→badB l i=false):bound l=decide ((l.length:Int)≤64):=by
  unfold bound;have:(List.range l.length).all (fun k=> !badB l k)=true:=by
   rw [List.all_eq_true];exact fun i hi=>by rw [h i (List.mem_range.1 hi)];rfl
  rw [this,Bool.true_and]
def findI (l:List Bd) (n:ByteArray):Int:=Wl.idxF (fun b:Bd=>Sv.same b.name n) l
def findB (l:List Bd) (n:ByteArray):Bd×Bool:=if findI l n<0 then (Bd0,false) else (l.getD (findI l n).toNat default,true)
mutual
def tyE:Ex→List Bd→Int×Int
  | .mk k o n v as0,l=>
   if (tyL as0 l).2≠0 then (0,(tyL as0 l).2)
   else if k=1 then (1,0)
   else if k=2 then (if (findB l n).2=false then (0,7) else ((findB l n).1.type,0))
   else if k=3 then (if (tyL as0 l).1.getD 0 default≠(if o=2 then 2 else 1) then (0,15) else ((if o=2 then 2 else 1),0))
   else if (tyL as0 l).1.getD 0 default≠(tyL as0 l).1.getD 1 default∨(argT o≠0∧(tyL as0 l).1.getD 0 default≠argT o) then (0,15) else (resT o,0)
def tyL:List Ex→List Bd→List Int×Int
  | [],_=>([],0)
  |e::r,l=>if (tyE e l).2≠0 then ([],(tyE e l).2) else ((tyE e l).1::(tyL r l).1,(tyL r l).2)
end
theorem tyE_eq (e:Ex) (l:List Bd):tyE e l=
  if (tyL e.args l).2≠0 then (0,(tyL e.args l).2)
  else if e.kind=1 then (1,0)
  else if e.kind=2 then (if (findB l e.name).2=false then (0,7) else ((findB l e.name).1.type,0))
  else if e.kind=3 then (if (tyL e.args l).1.getD 0 default≠(if e.op=2 then 2 else 1) then (0,15) else ((if e.op=2 then 2 else 1),0))
  else if (tyL e.args l).1.getD 0 default≠(tyL e.args l).1.getD 1 default∨(argT e.op≠0∧(tyL e.args l).1.getD 0 default≠argT e.op) then (0,15) else (resT e.op,0):=by
  cases e;rw [tyE];rfl
def tyK (as0:List Ex) (l:List Bd) (k:Nat):List Int:=(as0.take k).map (fun x=>(tyE x l).1)
theorem tyL_err: ∀ (as0:List Ex) (l:List Bd) (k:Nat) (hk:k<as0.length),(∀ i (h:i<as0.length),i<k→(tyE as0[i] l).2=0)→(tyE as0[k] l).2≠0→(tyL as0 l).2=(tyE as0[k] l).2
  |e::r,l,0,_,_,h=>by
   have h':(tyE e l).2≠0:=h;rw [tyL,if_pos h'];rfl
  |e::r,l,k+1,hk,h0,h=>by
   have h1:=h0 0 (by simp) (by omega);rw [tyL,if_neg (by simpa using h1)];exact tyL_err r l k (by simpa using hk) (fun i hi hik=>h0 (i+1) (by simpa using hi) (by omega)) h
theorem tyL_ok: ∀ (as0:List Ex) (l:List Bd),(∀ i (h:i<as0.length),(tyE as0[i] l).2=0)→tyL as0 l=(as0.map (fun x=>(tyE x l).1),0)
  | [],l,_=>by rw [tyL];rfl
  |e::r,l,h0=>by
   have h1:=h0 0 (by simp);rw [tyL,if_neg (by simpa using h1),tyL_ok r l (fun i hi=>h0 (i+1) (by simpa using hi))];rfl
inductive Vd:Ex→Prop where
  |mk (e:Ex) (h:chk1 e=0) (ha: ∀ x∈e.args,Vd x):Vd e
theorem Vd.chk {e:Ex} (h:Vd e):chk1 e=0:=by cases h;assumption
theorem Vd.arg {e:Ex} (h:Vd e) {x:Ex} (hx:x∈e.args):Vd x:=by cases h with|mk _ h ha=>exact ha x hx
theorem firstE_all: ∀ {L:List Ex},firstE L=0→ ∀ x∈L,chk1 x=0
  | [],_,x,hx=>by cases hx
  |y::L,h,x,hx=>by
   rw [firstE] at h;split at h
   ·rename_i hc;exact absurd h hc
   ·rename_i hc;rcases List.mem_cons.1 hx with rfl|hx
    ·exact Classical.not_not.1 hc
    ·exact firstE_all h x hx
theorem ptL_mem: ∀ {l:List Ex} {x y:Ex},x∈l→y∈ptE x→y∈ptL l
  |e::l,x,y,hx,hy=>by
   rw [ptL];rcases List.mem_cons.1 hx with rfl|hx
   ·exact List.mem_append_left _ hy
   ·exact List.mem_append_right _ (ptL_mem hx hy)
theorem Vd.of_all (e:Ex):(∀ x∈ptE e,chk1 x=0)→Vd e:=by
  induction e using Ex.ind with
  |h e ih=>
   intro h;rw [ptE_eq] at h;exact .mk e (h e (List.mem_cons_self ..)) fun x hx=>ih x hx fun y hy=>h y (List.mem_cons_of_mem _ (ptL_mem hx hy))
theorem chkE_vd {e:Ex} (h:chkE e=0):Vd e∧Sm e:=by
  unfold chkE at h;split at h
  ·cases h
  ·split at h
   ·cases h
   ·exact⟨Vd.of_all e (firstE_all h),msE_sm e 1 0 (by decide) (by omega) (by omega)⟩
theorem chk1_ok {e:Ex} (h:chk1 e=0):(1≤e.kind∧e.kind≤4)∧(e.args.length:Int)=arity e∧(e.kind=1→0≤e.value∧e.value≤1099511627776)∧(e.kind=3→e.op=1∨e.op=2)∧(e.kind=4→known e.op=true):=by
  unfold chk1 at h;split at h
  ·cases h
  ·split at h
   ·cases h
   ·split at h
    ·cases h
    ·split at h
     ·cases h
     ·split at h
      ·cases h
      ·rename_i h1 h2 h3 h4 h5;refine⟨by omega,?_,by omega,fun h6=> ?_,fun h6=> ?_⟩
       ·rcases Classical.em ((e.args.length:Int)=arity e) with h7|h7
        ·exact h7
        ·exact absurd (.inr h7) h2
       ·rcases Classical.em (e.op=1) with h7|h7
        ·exact .inl h7
        ·rcases Classical.em (e.op=2) with h8|h8
         ·exact .inr h8
         ·exact absurd (.inl ⟨h6,h7,h8⟩) h5
       ·cases h7:known e.op with
        |true=>rfl
        |false=>exact absurd (.inr ⟨h6,h7⟩) h5
theorem Vd.two {e:Ex} (h:Vd e):(e.kind=3→e.args.length=1)∧(e.kind=4→e.args.length=2):=by
  have h1:=(chk1_ok h.chk).2.1;unfold arity at h1;constructor
  ·intro hk;rw [hk] at h1;simp at h1;omega
  ·intro hk;rw [hk] at h1;simp at h1;omega
theorem Vd.len2 {e:Ex} (h:Vd e):e.args.length≤2:=by
  obtain⟨hk,h1,_⟩:=chk1_ok h.chk;unfold arity at h1;have:e.kind=1∨e.kind=2∨e.kind=3∨e.kind=4:=by omega
  rcases this with h9|h9|h9|h9<;>rw [h9] at h1<;>simp at h1<;>simp_all<;>omega
end Pn
namespace Go.Aw
open Pn
def encBd (b:Bd):List AV:=[.val (.string b.name),.int b.type,.int b.value]
instance {n:ByteArray} {t v:Int}:RowOf [.val (.string n),.val (.int .i64 t),.val (.int .i64 v)] encBd ⟨n,t,v⟩:=⟨ImpL.refl _⟩
end Go.Aw
namespace Pn
def vaN (k o:Int) (n:ByteArray) (v:Int) (A:List Int) (l:List Bd):Int×Int:=
  if k=1 then (v,0) else if k=2 then ((findB l n).1.value,0) else if k=3 then ((if o=2 then 1 - A.getD 0 default else -(A.getD 0 default)),0) else opV o (A.getD 0 default) (A.getD 1 default)
def vfin (p:Int×Int):Int×Int:=if p.2=0∧1099511627776<iabs p.1 then (0,14) else if p.2≠0 then (0,p.2) else (p.1,0)
mutual
def vaE:Ex→List Bd→Int×Int
  | .mk k o n v as0,l=>if (vaL as0 l).2≠0 then (0,(vaL as0 l).2) else vfin (vaN k o n v (vaL as0 l).1 l)
def vaL:List Ex→List Bd→List Int×Int
  | [],_=>([],0)
  |e::r,l=>if (vaE e l).2≠0 then ([],(vaE e l).2) else ((vaE e l).1::(vaL r l).1,(vaL r l).2)
end
theorem vaE_eq (e:Ex) (l:List Bd):vaE e l=if (vaL e.args l).2≠0 then (0,(vaL e.args l).2) else vfin (vaN e.kind e.op e.name e.value (vaL e.args l).1 l):=by
  cases e;rw [vaE];rfl
theorem vfin_bd (p:Int×Int): -1099511627776≤(vfin p).1∧(vfin p).1≤1099511627776:=by
  unfold vfin iabs;split
  ·exact⟨by decide,by decide⟩
  ·split
   ·exact⟨by show _≤(0:Int);decide,by show (0:Int)≤_;decide⟩
   ·rename_i h1 h2;have h3:p.2=0:=Classical.not_not.1 h2;have h4: ¬ 1099511627776<max p.1 (-p.1):=fun h=>h1 ⟨h3,h⟩;exact⟨by show _≤p.1;omega,by show p.1≤_;omega⟩
theorem vaE_bd (e:Ex) (l:List Bd): -1099511627776≤(vaE e l).1∧(vaE e l).1≤1099511627776:=by
  rw [vaE_eq];split
  ·exact⟨by show _≤(0:Int);decide,by show (0:Int)≤_;decide⟩
  ·exact vfin_bd _
def vaK (as0:List Ex) (l:List Bd) (k:Nat):List Int:=(as0.take k).map (fun x=>(vaE x l).1)
theorem vaL_err: ∀ (as0:List Ex) (l:List Bd) (k:Nat) (hk:k<as0.length),(∀ i (h:i<as0.length),i<k→(vaE as0[i] l).2=0)→(vaE as0[k] l).2≠0→(vaL as0 l).2=(vaE as0[k] l).2
  |e::r,l,0,_,_,h=>by
   have h':(vaE e l).2≠0:=h;rw [vaL,if_pos h'];rfl
  |e::r,l,k+1,hk,h0,h=>by
   have h1:=h0 0 (by simp) (by omega);rw [vaL,if_neg (by simpa using h1)];exact vaL_err r l k (by simpa using hk) (fun i hi hik=>h0 (i+1) (by simpa using hi) (by omega)) h
theorem vaL_ok: ∀ (as0:List Ex) (l:List Bd),(∀ i (h:i<as0.length),(vaE as0[i] l).2=0)→vaL as0 l=(as0.map (fun x=>(vaE x l).1),0)
  | [],l,_=>by rw [vaL];rfl
  |e::r,l,h0=>by
   have h1:=h0 0 (by simp);rw [vaL,if_neg (by simpa using h1),vaL_ok r l (fun i hi=>h0 (i+1) (by simpa using hi))];rfl
theorem vaA_bd (as0:List Ex) (l:List Bd) (q:Nat): -1099511627776≤(as0.map (fun x=>(vaE x l).1)).getD q default∧(as0.map (fun x=>(vaE x l).1)).getD q default≤1099511627776:=by
  rw [List.getD];cases h:(as0.map (fun x=>(vaE x l).1))[q]? with
  |none=>exact⟨by decide,by decide⟩
  |some y=>
   have:=List.mem_of_getElem? h;obtain⟨x,_,rfl⟩:=List.mem_map.1 this;exact vaE_bd x l
theorem bound_val {l:List Bd} (h:bound l=true) (n:ByteArray): -1099511627776≤(findB l n).1.value∧(findB l n).1.value≤1099511627776:=by
  unfold findB;split
  ·exact⟨by show _≤(0:Int);decide,by show (0:Int)≤_;decide⟩
  ·rcases Nat.lt_or_ge (findI l n).toNat l.length with h1|h1
   ·unfold bound at h;rw [Bool.and_eq_true,List.all_eq_true] at h;have h2:=h.1 _ (List.mem_range.2 h1);unfold badB lowB highB at h2;simp only [Bool.not_eq_true',Bool.or_eq_false_iff,decide_eq_false_iff_not] at h2;obtain⟨⟨_,h3⟩,h4⟩:=h2;constructor
    ·show _≤(l.getD (findI l n).toNat default).value;split at h3<;>omega
    ·show (l.getD (findI l n).toNat default).value≤_;split at h4<;>omega
   ·rw [List.getD,List.getElem?_eq_none (by omega)];exact⟨by decide,by decide⟩
def typeE (e:Ex) (l:List Bd):Int×Int:=if chkE e≠0 then (0,chkE e) else if bound l=false then (0,1) else tyE e l
def evalE (e:Ex) (l:List Bd):Int×Int:=if (typeE e l).2≠0 then (0,(typeE e l).2) else vaE e l
theorem evalE_bd (e:Ex) (l:List Bd): -1099511627776≤(evalE e l).1∧(evalE e l).1≤1099511627776:=by
  unfold evalE;split
  ·exact⟨by show _≤(0:Int);decide,by show (0:Int)≤_;decide⟩
  ·exact vaE_bd e l
theorem typeE_ok {e:Ex} {l:List Bd} (h:(typeE e l).2=0):chkE e=0∧bound l=true:=by
  unfold typeE at h;split at h
  ·rename_i h1;exact absurd h h1
  ·split at h
   ·cases h
   ·rename_i h1 h2;exact⟨Classical.not_not.1 h1,by cases hb:bound l with|true=>rfl|false=>exact absurd hb h2⟩
end Pn
set_option maxRecDepth 10000
namespace Go.Proofs
open Go.Aw Wl Pn
theorem indexFBd_c (l:List Pn.Bd) (hl:l.length≤1000000) (f:Nat) (caps:List AV) (p:Pn.Bd→Bool) (st0:List Aw.Item) (h: ∀ w∈l,ACalls Tryz.prog f ([.agg (encBd w)]++caps) st0 (fun v st=>v= .bool (p w)∧st=st0)):ACalls Tryz.prog 202 [.sl 3 (l.map encBd),.clo f caps] st0 (fun v st=>v= .int (idxF p l)∧st=st0):=by
  refine acalls_body Tryz.func202 (by kernel_rfl) rfl Tryz.ntmps202 (le_ rfl) ?_;rw [Tryz.results202];refine asr ?_;refine sA ?_;refine aops_nil ?_;refine awp_seq ?_;refine asr ?_;refine sM ?_;refine sN ?_;refine sM ?_;refine aops_nil ?_;refine awp_block ?_;refine awp_loop2 (X:=Nat) [0,1,7] (.cons rfl (.cons rfl (.cons rfl .nil))) (fun σ x=>((8,.int (x:Int)):Nat×AV)::σ) (fun R x=>R) (fun x=>x≤l.length∧(∀ i (h:i<l.length),i<x→p l[i]=false)) (fun x=>l.length - x) 0 (by exact Weak.of2 (by (repeat (first|exact .nil _|refine .cons rfl (by exact AV.Imp.refl _) ?_));done) (by (repeat (exact .refl _));done)) ⟨Nat.zero_le _,by omega⟩ ?_;rintro k ⟨hk,hinv⟩;refine asr ?_;refine sS ?_;refine aops_nil ?_;refine awp_seq ?_;refine awp_cond rfl (fun h1=> ?_) (fun h1=> ?_)
  ·simp only [nf] at h1;refine awp_skip ?_;refine awp_seq ?_;refine awp_block ?_;refine asr ?_;refine sM ?_;refine sA ?_;refine aops_nil ?_;refine asr ?_;refine sM ?_;refine sM ?_;refine sM ?_;refine st_p (fun _=>by exact y_indexMap (.plain rfl) (.plain rfl) rfl (by refine⟨?_,?_⟩;(omega);rfl)) rfl ?_;refine sV ?_;refine aops_call (blt_lt rfl) (.plain rfl) (.cons (.plain rfl) .nil) ((h l[k] (List.getElem_mem h1)).mono ?_);rintro v st ⟨rfl,rfl⟩;refine aops_nil ?_;refine awp_cond rfl (fun h2=> ?_) (fun h2=> ?_)
   ·refine asr ?_;refine sM ?_;refine sA ?_;refine aops_nil ?_;refine awp_ret ?_;exact retG (.inr rfl) (.cons (.tmp rfl) .nil) VShift.refl ⟨by rw [idxF_at p l k h1 h2 hinv];rfl,rfl⟩
   ·refine awp_skip ?_;refine awp_region ?_;refine sY ?_ (hb:=by omega);refine sM ?_;refine aops_nil ?_;refine⟨k+1,?_,?_,Weak.of2 (by (repeat (first|exact .nil _|refine .cons rfl (by exact AV.Imp.refl _) ?_));done) (by (repeat (exact .refl _));done)⟩
    ·refine⟨by omega,?_⟩;intro i hi hik;by_cases e:i=k
     ·subst e;exact h2
     ·exact hinv i hi (by omega)
    ·omega
  ·simp only [nf] at h1;refine awp_exit ?_;refine asr ?_;refine sA ?_;refine aops_nil ?_;refine awp_ret ?_;exact retG (.inr rfl) (.cons (.tmp rfl) .nil) VShift.refl ⟨by rw [idxF_no p l (fun i hi=>hinv i hi (by omega))];rfl,rfl⟩
theorem sameB_c (p:Nat) (n:ByteArray) (b:Pn.Bd):ACalls Tryz.prog 203 [.agg (encBd b),.ptr p 0] [.cells p [.val (.string n)]] (fun v st=>v= .bool (Sv.same b.name n)∧st=[.cells p [.val (.string n)]]):=by
  refine acalls_body Tryz.func203 (by kernel_rfl) rfl Tryz.ntmps203 (le_ rfl) ?_;rw [Tryz.results203];refine asr ?_;refine sB fun n1=> ?_;refine sA ?_;refine aops_nil ?_;refine asr ?_;refine sF ?_;refine sL .here ?_;refine sL k1 ?_;refine st_p (fun _=>by exact y_strEq (.plain rfl) (.plain rfl)) rfl ?_;refine sA ?_;refine aops_nil ?_;refine awp_ret ?_;exact retG (.inr rfl) (.cons (.tmp rfl) .nil) (VShift.of2 (AV.Imp.refl _) (by (repeat (first|exact .nil _|apply ItLe2.cons (by exact k1)));done)) ⟨rfl,rfl⟩
theorem find_c (l:List Pn.Bd) (n:ByteArray) (hl:l.length≤1000000):ACalls Tryz.prog 169 [(AV.sl 3 (List.map encBd l)),(AV.val (.string n))] [] (fun v st=>v=(AV.tup [(AV.agg (encBd ((Pn.findB l n).1))),(AV.bool ((Pn.findB l n).2))])∧st=[]):=by
  refine acalls_body Tryz.func169 (by kernel_rfl) rfl Tryz.ntmps169 (le_ rfl) ?_;rw [Tryz.results169];have hfc:idxF (fun b:Pn.Bd=>Sv.same b.name n) l<0∨0≤idxF (fun b:Pn.Bd=>Sv.same b.name n) l∧(idxF (fun b:Pn.Bd=>Sv.same b.name n) l).toNat<l.length:=by
   unfold idxF;cases h9:l.findIdx? (fun b:Pn.Bd=>Sv.same b.name n) with
   |none=>left;decide
   |some i=>
    right;have:=(List.findIdx?_eq_some_iff_getElem.1 h9).1;exact⟨by simp,by simpa using this⟩
  refine asr ?_;refine sB fun n3=> ?_;refine sC fun n4=> ?_;refine sA ?_;refine aops_nil ?_;refine asr ?_;refine sM ?_;refine st_p (fun _=>by exact y_makeFunc (.cons (.plain rfl) .nil)) rfl ?_;refine aops_call (blt_lt rfl) (.plain rfl) (.cons (.plain rfl) (.cons (.plain rfl) .nil)) (ACalls.then (ACalls.keep (by apply Takes.cons (by exact k1);exact .nil _) (indexFBd_c l hl 203 [.ptr n3 0] (fun b=>Sv.same b.name n) [.cells n3 [.val (.string n)]] (fun b _=>sameB_c n3 n b))) ?_);refine sA ?_;refine aops_nil ?_;refine awp_seq ?_;refine asr ?_;refine sM ?_;refine sS ?_;refine aops_nil ?_;refine awp_cond rfl (fun h1=> ?_) (fun h1=> ?_)
  ·simp only [nf] at h1;refine asr ?_;refine st_p (fun _=>by exact y_build (out:=[_,_,_]) .nil rfl rfl) rfl ?_;refine st_s (fun _=>by exact y_storeW (by rfl) rfl (.plain rfl) (.plain rfl) (by exact .here) (by rfl)) ?_;refine sA ?_;refine aops_nil ?_;refine awp_ret ?_;refine retG (.inr rfl) (.cons (res_cellW rfl (by exact .here) (by rfl)) (.cons (.tmp rfl) .nil)) (VShift.of2 (AV.Imp.tup (.cons (AV.Imp.agg (RowOf.imp (enc:=encBd))) (.cons (AV.Imp.refl _) .nil))) (.nil _)) ⟨congrArg (fun x:(Pn.Bd)×(Bool)=>(AV.tup [(AV.agg (encBd x.1)),(AV.bool x.2)])) (show (_,_)=(Pn.findB l n) from ?_),rfl⟩;have h8:Pn.findI l n<0:=by assumption
   rw [Pn.findB,if_pos h8];all_goals rfl
  ·simp only [nf] at h1;refine awp_skip ?_;refine asr ?_;refine sM ?_;refine sM ?_;refine st_p (fun _=>by exact y_indexT (.plain rfl) (.plain rfl) (by omega) (by omega)) rfl ?_;refine sV ?_;refine st_s (fun _=>by exact y_storeW (by rfl) rfl (.plain rfl) (.plain rfl) (by exact .here) (by rfl)) ?_;refine sA ?_;refine aops_nil ?_;refine awp_ret ?_;refine retG (.inr rfl) (.cons (res_cellW rfl (by exact .here) (by rfl)) (.cons (.tmp rfl) .nil)) (VShift.of2 (AV.Imp.tup (.cons (AV.Imp.agg (RowOf.imp (enc:=encBd))) (.cons (AV.Imp.refl _) .nil))) (.nil _)) ⟨congrArg (fun x:(Pn.Bd)×(Bool)=>(AV.tup [(AV.agg (encBd x.1)),(AV.bool x.2)])) (show (_,_)=(Pn.findB l n) from ?_),rfl⟩;have h8: ¬ Pn.findI l n<0:=by assumption
   rw [Pn.findB,if_neg h8];all_goals rfl
theorem bound_c (l:List Pn.Bd) (hl:l.length≤1000000):ACalls Tryz.prog 145 [(AV.sl 3 (List.map encBd l))] [] (fun v st=>v=(AV.bool (Pn.bound l))∧st=[]):=by
  refine acalls_body Tryz.func145 (by kernel_rfl) rfl Tryz.ntmps145 (le_ rfl) ?_;rw [Tryz.results145];refine asr ?_;refine sA ?_;refine aops_nil ?_;refine awp_seq ?_;refine asr ?_;refine sM ?_;refine sN ?_;refine sM ?_;refine aops_nil ?_;refine awp_block ?_;refine awp_loop2 (X:=Nat) [0,7,8] (.cons rfl (.cons rfl (.cons rfl .nil))) (fun σ x=>((9,.int (x:Int)):Nat×AV)::σ) (fun R x=>R) (fun x=>x≤l.length∧(∀ i,i<x→Pn.badB l i=false)) (fun x=>l.length - x) 0 (by exact Weak.of2 (by (repeat (first|exact .nil _|refine .cons rfl (by exact AV.Imp.refl _) ?_));done) (by (repeat (exact .refl _));done)) ⟨Nat.zero_le _,by omega⟩ ?_;rintro k ⟨hk,hinv⟩;refine asr ?_;refine sS ?_;refine aops_nil ?_;refine awp_seq ?_;refine awp_cond rfl (fun h1=> ?_) (fun h1=> ?_)
  ·simp only [nf] at h1;refine awp_skip ?_;refine awp_seq ?_;refine awp_block ?_;refine asr ?_;refine sM ?_;refine st_p (fun _=>by exact y_indexMap (.plain rfl) (.plain rfl) rfl (by refine⟨?_,?_⟩;(omega);rfl)) rfl ?_;refine sV ?_;refine sC fun n4=> ?_;refine sA ?_;refine st_s (fun _=>by exact y_storeW (by rfl) rfl (.plain rfl) (.plain rfl) (by exact .here) (by rfl)) ?_;refine aops_nil ?_;refine awp_seq ?_;have hgk:l.getD k default=l[k]:=by rw [List.getD,List.getElem?_eq_getElem (by assumption),Option.getD_some]
   have hkm:((k:Int) - 1).toNat=k - 1:=by omega
   refine awp_region ?_;refine sA ?_;refine sA ?_;refine aops_nil ?_;refine awp_seq ?_;refine asr ?_;refine sF ?_;refine sL .here ?_;refine sQ ?_;refine aops_nil ?_;refine awp_cond rfl (fun h2=> ?_) (fun h2=> ?_)
   ·simp only [nf] at h2;refine awp_region ?_;refine sA ?_;refine sA ?_;refine aops_nil ?_;refine awp_seq ?_;refine awp_any0 (ks:=[.free,.free,.free,.free,.free,.free,.free,.free,.free,.free,.free,.free,.free,.free,.free,.free,.free,.free,.free,.free,.free,.free,.free,.free,.free,.free,.free,.free,.free,.free,.free,.free,.free,.free,.free,.free,.free,.free,.free,.free,.free]) (by kernel_rfl) (fun K=> ?_) ?_
    ·refine rF ?_;refine rL .here ?_;refine dr_p (fun _=>by exact y_call (.plain rfl) (.cons (.plain rfl) .nil) (ACalls.pure (isName_c _))) rfl ?_;refine rO ?_;refine rM ?_;refine qM ?_;refine qG0 ?_;refine qM0 ?_;refine qM ?_;refine qM ?_;refine dr_g rfl rfl rfl SaysI.out (fun hc _=>by exact y_sub (.opt rfl hc) (.plain rfl) (by omega)) rfl ?_;refine dr_g rfl rfl rfl SaysI.out (fun hc _=>by exact y_indexT (l:=l) (.opt rfl hc) (.opt rfl hc) (by simp at hc;omega) (by simp at hc;omega)) rfl ?_;refine dr_g rfl rfl rfl SaysI.out (fun hc _=>by exact y_fieldE (.opt rfl hc) (le_ rfl)) rfl ?_;refine qU0 ?_;refine qF ?_;refine qL0 .here ?_;refine dr_g rfl rfl rfl SaysI.out (fun hc _=>by exact y_strGe (.opt rfl hc) (.opt rfl hc)) rfl ?_;refine dr_g rfl rfl rfl SaysI.out (fun hc _=>by exact y_and' hc (.opt rfl hc) rfl rfl) rfl ?_;refine rK ?_;refine rM ?_;refine qF ?_;refine qL0 .here ?_;refine qR0 ?_;refine qM0 ?_;refine qF ?_;refine qL0 .here ?_;refine qR0 ?_;refine dr_g rfl rfl rfl SaysI.out (fun hc _=>by exact y_and' hc (.opt rfl hc) rfl rfl) rfl ?_;refine rK ?_;refine rM ?_;refine qF ?_;refine qL0 .here ?_;refine qM ?_;refine qS01 ?_;refine rK ?_;refine rM ?_;refine qF ?_;refine qL0 .here ?_;refine qM ?_;refine qG01 ?_;refine rK ?_;refine dr_nil ⟨rfl,?_⟩;refine awp_cond rfl (fun h3=> ?_) (fun h3=> ?_)
     ·simp only [nf] at h3;have hbk:Pn.badB l k=true:=by
       rw [Pn.badB,hgk];unfold Pn.lowB Pn.highB;simp_all
      refine asr ?_;refine sA ?_;refine aops_nil ?_;refine awp_ret ?_;refine retG (.inr rfl) (.cons (.tmp rfl) .nil) (VShift.of1 (AV.Imp.refl _) (.nil _)) ⟨congrArg (fun x:(Bool)=>(AV.bool x)) (show _=(Pn.bound l) from ?_),rfl⟩;rw [Pn.bound_bad (by assumption) hbk]
     ·simp only [nf] at h3;have hbk:Pn.badB l k=false:=by
       rw [Pn.badB,hgk];unfold Pn.lowB Pn.highB;simp_all;intro h9;have h10:k≠0:=by omega
       simp_all
      refine awp_skip ?_;refine awp_region ?_;refine sY ?_ (hb:=by omega);refine sM ?_;refine aops_nil ?_;refine⟨k+1,?_,?_,Weak.of2 (by (repeat (first|exact .nil _|refine .cons rfl (by exact AV.Imp.refl _) ?_));done) (by (repeat (exact .nil _));done)⟩
      ·refine⟨by omega,?_⟩;intro i hik;by_cases e:i=k
       ·subst e;exact hbk
       ·exact hinv i (by omega)
      ·omega
    ·kernel_rfl
   ·simp only [nf] at h2;refine awp_skip ?_;refine awp_seq ?_;refine awp_any0 (ks:=[.free,.free,.free,.free,.free,.free,.free,.free,.free,.free,.free,.free,.free,.free,.free,.free,.free,.free,.free,.free,.free,.free,.free,.free,.free,.free,.free,.free,.free,.free,.free,.free,.free,.free,.free,.free,.free,.free,.free,.free,.free]) (by kernel_rfl) (fun K=> ?_) ?_
    ·refine rF ?_;refine rL .here ?_;refine dr_p (fun _=>by exact y_call (.plain rfl) (.cons (.plain rfl) .nil) (ACalls.pure (isName_c _))) rfl ?_;refine rO ?_;refine rM ?_;refine qM ?_;refine qG0 ?_;refine qM0 ?_;refine qM ?_;refine qM ?_;refine dr_g rfl rfl rfl SaysI.out (fun hc _=>by exact y_sub (.opt rfl hc) (.plain rfl) (by omega)) rfl ?_;refine dr_g rfl rfl rfl SaysI.out (fun hc _=>by exact y_indexT (l:=l) (.opt rfl hc) (.opt rfl hc) (by simp at hc;omega) (by simp at hc;omega)) rfl ?_;refine dr_g rfl rfl rfl SaysI.out (fun hc _=>by exact y_fieldE (.opt rfl hc) (le_ rfl)) rfl ?_;refine qU0 ?_;refine qF ?_;refine qL0 .here ?_;refine dr_g rfl rfl rfl SaysI.out (fun hc _=>by exact y_strGe (.opt rfl hc) (.opt rfl hc)) rfl ?_;refine dr_g rfl rfl rfl SaysI.out (fun hc _=>by exact y_and' hc (.opt rfl hc) rfl rfl) rfl ?_;refine rK ?_;refine rM ?_;refine qF ?_;refine qL0 .here ?_;refine qR0 ?_;refine qM0 ?_;refine qF ?_;refine qL0 .here ?_;refine qR0 ?_;refine dr_g rfl rfl rfl SaysI.out (fun hc _=>by exact y_and' hc (.opt rfl hc) rfl rfl) rfl ?_;refine rK ?_;refine rM ?_;refine qF ?_;refine qL0 .here ?_;refine qM ?_;refine qS01 ?_;refine rK ?_;refine rM ?_;refine qF ?_;refine qL0 .here ?_;refine qM ?_;refine qG01 ?_;refine rK ?_;refine dr_nil ⟨rfl,?_⟩;refine awp_cond rfl (fun h4=> ?_) (fun h4=> ?_)
     ·simp only [nf] at h4;have hbk:Pn.badB l k=true:=by
       rw [Pn.badB,hgk];unfold Pn.lowB Pn.highB;simp_all
      refine asr ?_;refine sA ?_;refine aops_nil ?_;refine awp_ret ?_;refine retG (.inr rfl) (.cons (.tmp rfl) .nil) (VShift.of1 (AV.Imp.refl _) (.nil _)) ⟨congrArg (fun x:(Bool)=>(AV.bool x)) (show _=(Pn.bound l) from ?_),rfl⟩;rw [Pn.bound_bad (by assumption) hbk]
     ·simp only [nf] at h4;have hbk:Pn.badB l k=false:=by
       rw [Pn.badB,hgk];unfold Pn.lowB Pn.highB;simp_all;intro h9;have h10:k≠0:=by omega
       simp_all
      refine awp_skip ?_;refine awp_region ?_;refine sY ?_ (hb:=by omega);refine sM ?_;refine aops_nil ?_;refine⟨k+1,?_,?_,Weak.of2 (by (repeat (first|exact .nil _|refine .cons rfl (by exact AV.Imp.refl _) ?_));done) (by (repeat (exact .nil _));done)⟩
      ·refine⟨by omega,?_⟩;intro i hik;by_cases e:i=k
       ·subst e;exact hbk
       ·exact hinv i (by omega)
      ·omega
    ·kernel_rfl
  ·simp only [nf] at h1;refine awp_exit ?_;refine asr ?_;refine sM ?_;refine sN ?_;refine sH ?_;refine sA ?_;refine aops_nil ?_;refine awp_ret ?_;refine retG (.inr rfl) (.cons (.tmp rfl) .nil) (VShift.of1 (AV.Imp.refl _) (.nil _)) ⟨congrArg (fun x:(Bool)=>(AV.bool x)) (show _=(Pn.bound l) from ?_),rfl⟩;rw [Pn.bound_good (fun i hi=>hinv i (by omega))]
theorem typed_step (l:List Pn.Bd) (hl:l.length≤1000000) (e:Pn.Ex) (hv:Pn.Vd e) (ih: ∀ x∈e.args,ACalls Tryz.prog 146 [.agg (encE x),.sl 3 (l.map encBd)] [] (fun v st=>v= .tup [.int (Pn.tyE x l).1,.int (Pn.tyE x l).2]∧st=[])):ACalls Tryz.prog 146 [.agg (encE e),.sl 3 (l.map encBd)] [] (fun v st=>v= .tup [.int (Pn.tyE e l).1,.int (Pn.tyE e l).2]∧st=[]):=by
  refine acalls_body Tryz.func146 (by kernel_rfl) rfl Tryz.ntmps146 (le_ rfl) ?_;rw [Tryz.results146];have hck:=Pn.chk1_ok hv.chk;obtain⟨hk4,hka,hkv,hko,hkn⟩:=hck;have htwo:=hv.two;have hal:=hv.len2;refine asr ?_;refine sB fun n2=> ?_;refine sA ?_;refine sA ?_;refine aops_nil ?_;refine asr ?_;refine sA ?_;refine aops_nil ?_;refine awp_seq ?_;refine asr ?_;refine sF ?_;refine sL .here ?_;refine sN ?_;refine sM ?_;refine aops_nil ?_;refine awp_block ?_;refine awp_loop2 (X:=Nat×Option Nat) [1,2,16,17] (.cons rfl (.cons rfl (.cons rfl (.cons rfl .nil)))) (fun σ x=>((6,.grow 1 x.2 ((Pn.tyK e.args l x.1).map Go.Aw.encI)):Nat×AV)::((18,.int (x.1:Int)):Nat×AV)::σ) (fun R x=> .cells n2 (encE e):: .tail x.2::R) (fun x=>x.1≤e.args.length∧ ∀ i (h:i<e.args.length),i<x.1→(Pn.tyE e.args[i] l).2=0) (fun x=>e.args.length - x.1) (0,none) (by exact Weak.of2 (by (repeat (first|exact .nil _|refine .cons rfl (by first|exact AV.Imp.refl _|exact AV.Imp.nil_grow) ?_));done) (by (repeat (first|exact .refl _|apply ItLe2.cons (by exact .here)|apply ItLe2.tail0));done)) ⟨Nat.zero_le _,by intro i h h9;exact absurd h9 (Nat.not_lt_zero _)⟩ ?_;rintro⟨k,tok⟩ ⟨hk,hinv⟩;simp only at hk hinv;have htkl:(Pn.tyK e.args l k).length≤2:=by unfold Pn.tyK;rw [List.length_map,List.length_take];omega
  dsimp only;refine asr ?_;refine sS ?_;refine aops_nil ?_;refine awp_seq ?_;refine awp_cond rfl (fun h1=> ?_) (fun h1=> ?_)
  ·simp only [nf] at h1;have hkl:k<e.args.length:=by omega
   refine awp_skip ?_;refine awp_seq ?_;refine awp_block ?_;refine asr ?_;refine st_p (fun _=>by exact y_indexMap (.plain rfl) (.plain rfl) rfl (by refine⟨?_,?_⟩;(omega);rfl)) rfl ?_;refine sV ?_;refine sC fun n8=> ?_;refine st_s (fun _=>by exact y_storeW (by rfl) rfl (.plain rfl) (.plain rfl) (by exact .here) (by rfl)) ?_;refine aops_nil ?_;refine asr ?_;refine sW .here ?_;refine sM ?_;refine aops_call (blt_lt rfl) (.plain rfl) (.cons (.plain rfl) (.cons (.plain rfl) .nil)) (ACalls.here (ih _ (List.getElem_mem hkl)) ?_);refine sM ?_;refine sE ?_;refine sE ?_;refine sA ?_;refine sA ?_;refine aops_nil ?_;refine awp_seq ?_;refine asr ?_;refine sM ?_;refine sR ?_;refine aops_nil ?_;refine awp_cond rfl (fun h2=> ?_) (fun h2=> ?_)
   ·simp only [nf] at h2;refine asr ?_;refine sM ?_;refine sA ?_;refine sA ?_;refine aops_nil ?_;refine awp_ret ?_;refine retG (.inr rfl) (.cons (.tmp rfl) (.cons (.tmp rfl) .nil)) (VShift.drop) ⟨?_,rfl⟩;have h8:(Pn.tyE e.args[k] l).2≠0:=by assumption
    have h9:=Pn.tyL_err e.args l k hkl (fun i hi hik=>hinv i hi hik) h8;rw [Pn.tyE_eq e l,if_pos (by rw [h9];exact h8),h9];all_goals rfl
   ·simp only [nf] at h2;refine awp_skip ?_;refine awp_region ?_;refine sM ?_;refine sM ?_;refine st_p (fun _=>by exact y_buildSlice (.cons (.plain rfl) inferInstance (by rfl) .nil) rfl (le_ rfl)) rfl ?_;refine st_appendT (by rfl) (.plain rfl) (.plain rfl) (by exact k2) (by (simp;try omega)) rfl fun tA=> ?_;refine sA ?_;refine aops_nil ?_;refine awp_region ?_;refine sY ?_ (hb:=by omega);refine sM ?_;refine aops_nil ?_;refine⟨(k+1,tA),⟨by show k+1≤_;omega,fun i hi hik=> ?_⟩,by show e.args.length - (k+1)<e.args.length - k;omega,?_⟩
    ·by_cases e9:i=k
     ·subst e9;omega
     ·exact hinv i hi (by show i<k;have:i<k+1:=hik;omega)
    ·dsimp only;exact Weak.of2 (by (repeat (first|exact .nil _|refine .cons rfl (by first|exact AV.Imp.refl _|exact AV.Imp.grow_of (by unfold Pn.tyK;rw [List.take_add_one,List.getElem?_eq_getElem hkl,List.map_append];rfl)) ?_));done) (by (repeat (first|exact .nil _|apply ItLe2.cons (by first|exact .here|exact k2)));done)
  ·simp only [nf] at h1;obtain rfl:k=e.args.length:=by omega
   have hty:=Pn.tyL_ok e.args l (fun i hi=>hinv i hi hi);have htk:Pn.tyK e.args l e.args.length=(e.args.map (fun x=>(Pn.tyE x l).1)):=by unfold Pn.tyK;rw [List.take_length]
   rw [htk];refine awp_exit ?_;refine awp_seq ?_;refine asr ?_;refine sF ?_;refine sL .here ?_;refine aops_nil ?_;refine awp_block ?_;refine asr ?_;refine sQ ?_;refine sA ?_;refine aops_nil ?_;refine awp_cond rfl (fun h3=> ?_) (fun h3=> ?_)
   ·simp only [nf] at h3;refine asr ?_;refine sA ?_;refine sA ?_;refine aops_nil ?_;refine awp_ret ?_;refine retG (.inr rfl) (.cons (.tmp rfl) (.cons (.tmp rfl) .nil)) (VShift.drop) ⟨?_,rfl⟩;rw [Pn.tyE_eq e l,hty,if_neg (by simp),if_pos (by omega)];all_goals rfl
   ·simp only [nf] at h3;refine asr ?_;refine sQ ?_;refine sA ?_;refine aops_nil ?_;refine awp_cond rfl (fun h4=> ?_) (fun h4=> ?_)
    ·simp only [nf] at h4;refine asr ?_;refine sM ?_;refine sF ?_;refine sL .here ?_;refine aops_call (blt_lt rfl) (.plain rfl) (.cons (.imp (.plain rfl) (Sl.imp (enc:=encBd))) (.cons (.plain rfl) .nil)) (ACalls.here (find_c l e.name hl) ?_);refine sM ?_;refine sE ?_;refine sE ?_;refine sC fun n11=> ?_;refine st_s (fun _=>by exact y_storeW (by rfl) rfl (.plain rfl) (.plain rfl) (by exact .here) (by rfl)) ?_;refine sA ?_;refine aops_nil ?_;refine awp_seq ?_;refine asr ?_;refine sM ?_;refine sO ?_;refine aops_nil ?_;refine awp_cond rfl (fun h5=> ?_) (fun h5=> ?_)
     ·simp only [nf] at h5;refine asr ?_;refine sA ?_;refine sA ?_;refine aops_nil ?_;refine awp_ret ?_;refine retG (.inr rfl) (.cons (.tmp rfl) (.cons (.tmp rfl) .nil)) (VShift.drop) ⟨?_,rfl⟩;rw [Pn.tyE_eq e l,hty,if_neg (by simp),if_neg (by omega),if_pos (by omega),if_pos (by assumption)];all_goals rfl
     ·simp only [nf] at h5;refine awp_skip ?_;refine asr ?_;refine sF ?_;refine sL .here ?_;refine sA ?_;refine sA ?_;refine aops_nil ?_;refine awp_ret ?_;refine retG (.inr rfl) (.cons (.tmp rfl) (.cons (.tmp rfl) .nil)) (VShift.drop) ⟨?_,rfl⟩;rw [Pn.tyE_eq e l,hty,if_neg (by simp),if_neg (by omega),if_pos (by omega),if_neg (by simp_all)];all_goals rfl
    ·simp only [nf] at h4;refine asr ?_;refine sQ ?_;refine sA ?_;refine aops_nil ?_;refine awp_cond rfl (fun h6=> ?_) (fun h6=> ?_)
     ·simp only [nf] at h6;refine asr ?_;refine sA ?_;refine aops_nil ?_;refine awp_seq ?_;refine asr ?_;refine sF ?_;refine sL .here ?_;refine sQ ?_;refine aops_nil ?_;refine awp_cond rfl (fun h7=> ?_) (fun h7=> ?_)
      ·simp only [nf] at h7;refine awp_region ?_;refine sA ?_;refine aops_nil ?_;refine awp_seq ?_;refine awp_seq ?_;have hl1:=htwo.1 (by omega);refine awp_region ?_;refine sM ?_;refine st_p (fun _=>by exact y_indexT (l:=(e.args.map (fun x=>(Pn.tyE x l).1))) (q:=0) (.plain rfl) (.plain rfl) (by decide) (by rw [List.length_map];simp;omega)) rfl ?_;refine sU ?_;refine sM ?_;refine sR ?_;refine aops_nil ?_;refine awp_cond rfl (fun h8=> ?_) (fun h8=> ?_)
       ·simp only [nf] at h8;refine asr ?_;refine sA ?_;refine sA ?_;refine aops_nil ?_;refine awp_ret ?_;refine retG (.inr rfl) (.cons (.tmp rfl) (.cons (.tmp rfl) .nil)) (VShift.drop) ⟨?_,rfl⟩;rw [Pn.tyE_eq e l,hty,if_neg (by simp),if_neg (by omega),if_neg (by omega),if_pos (by omega),if_pos (by simp_all)];all_goals rfl
       ·simp only [nf] at h8;refine awp_skip ?_;refine asr ?_;refine sM ?_;refine sA ?_;refine sA ?_;refine aops_nil ?_;refine awp_ret ?_;refine retG (.inr rfl) (.cons (.tmp rfl) (.cons (.tmp rfl) .nil)) (VShift.drop) ⟨?_,rfl⟩;rw [Pn.tyE_eq e l,hty,if_neg (by simp),if_neg (by omega),if_neg (by omega),if_pos (by omega),if_neg (by simp_all),if_pos (by assumption)];all_goals rfl
      ·simp only [nf] at h7;refine awp_skip ?_;refine awp_seq ?_;refine awp_seq ?_;have hl1:=htwo.1 (by omega);refine awp_region ?_;refine sM ?_;refine st_p (fun _=>by exact y_indexT (l:=(e.args.map (fun x=>(Pn.tyE x l).1))) (q:=0) (.plain rfl) (.plain rfl) (by decide) (by rw [List.length_map];simp;omega)) rfl ?_;refine sU ?_;refine sM ?_;refine sR ?_;refine aops_nil ?_;refine awp_cond rfl (fun h9=> ?_) (fun h9=> ?_)
       ·simp only [nf] at h9;refine asr ?_;refine sA ?_;refine sA ?_;refine aops_nil ?_;refine awp_ret ?_;refine retG (.inr rfl) (.cons (.tmp rfl) (.cons (.tmp rfl) .nil)) (VShift.drop) ⟨?_,rfl⟩;rw [Pn.tyE_eq e l,hty,if_neg (by simp),if_neg (by omega),if_neg (by omega),if_pos (by omega),if_pos (by simp_all)];all_goals rfl
       ·simp only [nf] at h9;refine awp_skip ?_;refine asr ?_;refine sM ?_;refine sA ?_;refine sA ?_;refine aops_nil ?_;refine awp_ret ?_;refine retG (.inr rfl) (.cons (.tmp rfl) (.cons (.tmp rfl) .nil)) (VShift.drop) ⟨?_,rfl⟩;rw [Pn.tyE_eq e l,hty,if_neg (by simp),if_neg (by omega),if_neg (by omega),if_pos (by omega),if_neg (by simp_all),if_neg (by assumption)];all_goals rfl
     ·simp only [nf] at h6;refine awp_skip ?_;refine awp_seq ?_;obtain⟨s9,p9,f9,hget,-⟩:=opTab_get (hkn (by omega));have hl2:=htwo.2 (by omega);refine awp_anyT (ks:=[.new,.free,.free,.read,.new,.write]) [] (.nil _) (by kernel_rfl) (fun K=> ?_) ?_
      ·refine dr_new (fun _ _=>by exact y_callMap (.plain rfl) .nil operators_c) rfl fun nM=> ?_;refine rF ?_;refine rL .here ?_;refine dr_r (fun _=>by exact y_lookup1 (.plain rfl) (.plain rfl) (by exact .here) hget) rfl ?_;refine dr_new (fun _ _=>by exact y_alloc) rfl fun n14=> ?_;refine dr_s (fun _=>by exact y_storeW (by rfl) rfl (.plain rfl) (.plain rfl) (by exact .here) (by rfl)) ?_;refine dr_nil ?_;refine awp_seq ?_;refine awp_seq ?_;refine awp_any0 (ks:=[.free,.free,.free,.free,.free,.free,.free,.free,.free,.free,.free,.free,.free,.free,.free,.free,.free,.free,.free,.free]) (by kernel_rfl) (fun K=> ?_) ?_
       ·refine rM ?_;refine dr_p (fun _=>by exact y_indexT (l:=(e.args.map (fun x=>(Pn.tyE x l).1))) (q:=0) (.plain rfl) (.plain rfl) (by decide) (by rw [List.length_map];simp;omega)) rfl ?_;refine rU ?_;refine rM ?_;refine dr_p (fun _=>by exact y_indexT (l:=(e.args.map (fun x=>(Pn.tyE x l).1))) (q:=1) (.plain rfl) (.plain rfl) (by decide) (by rw [List.length_map];simp;omega)) rfl ?_;refine rU ?_;refine rR ?_;refine rM ?_;refine qF ?_;refine qL0 .here ?_;refine qR0 ?_;refine qM0 ?_;refine qM ?_;refine dr_g rfl rfl rfl SaysI.out (fun hc _=>by exact y_indexT (l:=(e.args.map (fun x=>(Pn.tyE x l).1))) (q:=0) (.opt rfl hc) (.plain rfl) (by decide) (by rw [List.length_map];simp;omega)) rfl ?_;refine qU0 ?_;refine qF ?_;refine qL0 .here ?_;refine qR01 ?_;refine dr_g rfl rfl rfl SaysI.out (fun hc _=>by exact y_and' hc (.opt rfl hc) rfl rfl) rfl ?_;refine rK ?_;refine dr_nil ⟨rfl,?_⟩;refine awp_cond rfl (fun h10=> ?_) (fun h10=> ?_)
        ·simp only [nf] at h10;refine asr ?_;refine sA ?_;refine sA ?_;refine aops_nil ?_;refine awp_ret ?_;refine retG (.inr rfl) (.cons (.tmp rfl) (.cons (.tmp rfl) .nil)) (VShift.drop) ⟨?_,rfl⟩;rw [Pn.tyE_eq e l,hty,if_neg (by simp),if_neg (by omega),if_neg (by omega),if_neg (by omega),if_pos (by simp_all)];all_goals rfl
        ·simp only [nf] at h10;refine awp_skip ?_;refine asr ?_;refine sF ?_;refine sL .here ?_;refine sA ?_;refine sA ?_;refine aops_nil ?_;refine awp_ret ?_;refine retG (.inr rfl) (.cons (.tmp rfl) (.cons (.tmp rfl) .nil)) (VShift.drop) ⟨?_,rfl⟩;rw [Pn.tyE_eq e l,hty,if_neg (by simp),if_neg (by omega),if_neg (by omega),if_neg (by omega),if_neg (by simp_all;intro h19;omega)];all_goals rfl
       ·kernel_rfl
      ·kernel_rfl
theorem typed_c (l:List Pn.Bd) (hl:l.length≤1000000) (e:Pn.Ex):Pn.Vd e→ACalls Tryz.prog 146 [.agg (encE e),.sl 3 (l.map encBd)] [] (fun v st=>v= .tup [.int (Pn.tyE e l).1,.int (Pn.tyE e l).2]∧st=[]):=by
  induction e using Pn.Ex.ind with
  |h e ih=>exact fun hv=>typed_step l hl e hv fun x hx=>ih x hx (hv.arg hx)
end Go.Proofs
set_option maxRecDepth 10000
namespace Go.Proofs
open Go.Aw Wl Pn
theorem value_step (l:List Pn.Bd) (hl:l.length≤1000000) (hb:Pn.bound l=true) (e:Pn.Ex) (hv:Pn.Vd e) (ih: ∀ x∈e.args,ACalls Tryz.prog 163 [.agg (encE x),.sl 3 (l.map encBd)] [] (fun v st=>v= .tup [.int (Pn.vaE x l).1,.int (Pn.vaE x l).2]∧st=[])):ACalls Tryz.prog 163 [.agg (encE e),.sl 3 (l.map encBd)] [] (fun v st=>v= .tup [.int (Pn.vaE e l).1,.int (Pn.vaE e l).2]∧st=[]):=by
  refine acalls_body Tryz.func163 (by kernel_rfl) rfl Tryz.ntmps163 (le_ rfl) ?_;rw [Tryz.results163];have hck:=Pn.chk1_ok hv.chk;obtain⟨hk4,hka,hkv,hko,hkn⟩:=hck;have htwo:=hv.two;have hal:=hv.len2;have hbv:=Pn.bound_val hb e.name;have hA0:=Pn.vaA_bd e.args l (Int.toNat 0);have hA1:=Pn.vaA_bd e.args l (Int.toNat 1);refine asr ?_;refine sB fun n2=> ?_;refine sA ?_;refine sA ?_;refine aops_nil ?_;refine asr ?_;refine sA ?_;refine aops_nil ?_;refine awp_seq ?_;refine asr ?_;refine sF ?_;refine sL .here ?_;refine sN ?_;refine sM ?_;refine aops_nil ?_;refine awp_block ?_;refine awp_loop2 (X:=Nat×Option Nat) [1,2,16,17] (.cons rfl (.cons rfl (.cons rfl (.cons rfl .nil)))) (fun σ x=>((6,.grow 1 x.2 ((Pn.vaK e.args l x.1).map Go.Aw.encI)):Nat×AV)::((18,.int (x.1:Int)):Nat×AV)::σ) (fun R x=> .cells n2 (encE e):: .tail x.2::R) (fun x=>x.1≤e.args.length∧ ∀ i (h:i<e.args.length),i<x.1→(Pn.vaE e.args[i] l).2=0) (fun x=>e.args.length - x.1) (0,none) (by exact Weak.of2 (by (repeat (first|exact .nil _|refine .cons rfl (by first|exact AV.Imp.refl _|exact AV.Imp.nil_grow) ?_));done) (by (repeat (first|exact .refl _|apply ItLe2.cons (by exact .here)|apply ItLe2.tail0));done)) ⟨Nat.zero_le _,by intro i h h9;exact absurd h9 (Nat.not_lt_zero _)⟩ ?_;rintro⟨k,tok⟩ ⟨hk,hinv⟩;simp only at hk hinv;have htkl:(Pn.vaK e.args l k).length≤2:=by unfold Pn.vaK;rw [List.length_map,List.length_take];omega
  dsimp only;refine asr ?_;refine sS ?_;refine aops_nil ?_;refine awp_seq ?_;refine awp_cond rfl (fun h1=> ?_) (fun h1=> ?_)
  ·simp only [nf] at h1;have hkl:k<e.args.length:=by omega
   refine awp_skip ?_;refine awp_seq ?_;refine awp_block ?_;refine asr ?_;refine st_p (fun _=>by exact y_indexMap (.plain rfl) (.plain rfl) rfl (by refine⟨?_,?_⟩;(omega);rfl)) rfl ?_;refine sV ?_;refine sC fun n8=> ?_;refine st_s (fun _=>by exact y_storeW (by rfl) rfl (.plain rfl) (.plain rfl) (by exact .here) (by rfl)) ?_;refine aops_nil ?_;refine asr ?_;refine sW .here ?_;refine sM ?_;refine aops_call (blt_lt rfl) (.plain rfl) (.cons (.plain rfl) (.cons (.plain rfl) .nil)) (ACalls.here (ih _ (List.getElem_mem hkl)) ?_);refine sM ?_;refine sE ?_;refine sE ?_;refine sA ?_;refine sA ?_;refine aops_nil ?_;refine awp_seq ?_;refine asr ?_;refine sM ?_;refine sR ?_;refine aops_nil ?_;refine awp_cond rfl (fun h2=> ?_) (fun h2=> ?_)
   ·simp only [nf] at h2;refine asr ?_;refine sM ?_;refine sA ?_;refine sA ?_;refine aops_nil ?_;refine awp_ret ?_;refine retG (.inr rfl) (.cons (.tmp rfl) (.cons (.tmp rfl) .nil)) (VShift.drop) ⟨?_,rfl⟩;have h8:(Pn.vaE e.args[k] l).2≠0:=by assumption
    have h9:=Pn.vaL_err e.args l k hkl (fun i hi hik=>hinv i hi hik) h8;rw [Pn.vaE_eq e l,if_pos (by rw [h9];exact h8),h9];all_goals rfl
   ·simp only [nf] at h2;refine awp_skip ?_;refine awp_region ?_;refine sM ?_;refine sM ?_;refine st_p (fun _=>by exact y_buildSlice (.cons (.plain rfl) inferInstance (by rfl) .nil) rfl (le_ rfl)) rfl ?_;refine st_appendT (by rfl) (.plain rfl) (.plain rfl) (by exact k2) (by (simp;try omega)) rfl fun tA=> ?_;refine sA ?_;refine aops_nil ?_;refine awp_region ?_;refine sY ?_ (hb:=by omega);refine sM ?_;refine aops_nil ?_;refine⟨(k+1,tA),⟨by show k+1≤_;omega,fun i hi hik=> ?_⟩,by show e.args.length - (k+1)<e.args.length - k;omega,?_⟩
    ·by_cases e9:i=k
     ·subst e9;omega
     ·exact hinv i hi (by show i<k;have:i<k+1:=hik;omega)
    ·dsimp only;exact Weak.of2 (by (repeat (first|exact .nil _|refine .cons rfl (by first|exact AV.Imp.refl _|exact AV.Imp.grow_of (by unfold Pn.vaK;rw [List.take_add_one,List.getElem?_eq_getElem hkl,List.map_append];rfl)) ?_));done) (by (repeat (first|exact .nil _|apply ItLe2.cons (by first|exact .here|exact k2)));done)
  ·simp only [nf] at h1;obtain rfl:k=e.args.length:=by omega
   have hty:=Pn.vaL_ok e.args l (fun i hi=>hinv i hi hi);have htk:Pn.vaK e.args l e.args.length=(e.args.map (fun x=>(Pn.vaE x l).1)):=by unfold Pn.vaK;rw [List.take_length]
   rw [htk];refine awp_exit ?_;refine asr ?_;refine sA ?_;refine sA ?_;refine aops_nil ?_;refine awp_seq ?_;refine asr ?_;refine sF ?_;refine sL .here ?_;refine aops_nil ?_;refine awp_block ?_;refine asr ?_;refine sQ ?_;refine sA ?_;refine aops_nil ?_;refine awp_cond rfl (fun h3=> ?_) (fun h3=> ?_)
   ·simp only [nf] at h3;refine awp_region ?_;refine sF ?_;refine sL .here ?_;refine sA ?_;refine aops_nil ?_;refine awp_seq ?_;refine asr ?_;refine sM ?_;refine sQ ?_;refine sM ?_;refine gM ?_;refine st_g rfl rfl rfl SaysI.out (fun hc _=>by exact y_call (.plain rfl) (.cons (.opt rfl hc) .nil) (ACalls.pure (abs_c _ ⟨by omega,by omega⟩))) rfl ?_;refine gG0 ?_;refine sJ ?_;refine aops_nil ?_;refine awp_cond rfl (fun h4=> ?_) (fun h4=> ?_)
    ·simp only [nf] at h4;refine awp_region ?_;refine sA ?_;refine aops_nil ?_;refine awp_seq ?_;refine asr ?_;refine sM ?_;refine sR ?_;refine aops_nil ?_;refine awp_cond rfl (fun h5=> ?_) (fun h5=> ?_)
     ·simp only [nf] at h5;refine asr ?_;refine sM ?_;refine sA ?_;refine sA ?_;refine aops_nil ?_;refine awp_ret ?_;refine retG (.inr rfl) (.cons (.tmp rfl) (.cons (.tmp rfl) .nil)) (VShift.drop) ⟨?_,rfl⟩;have h91:=(show True∧1099511627776<Pn.iabs e.value by assumption)
      have hvn:Pn.vaN e.kind e.op e.name e.value (e.args.map (fun x=>(Pn.vaE x l).1)) l=(e.value,0):=by rw [Pn.vaN,if_pos (by omega)];try rfl
      rw [Pn.vaE_eq e l,hty,if_neg (by simp)];dsimp only;rw [hvn,Pn.vfin,if_pos ⟨rfl,h91.2⟩];all_goals rfl
     ·simp only [nf] at h5;refine awp_skip ?_;refine asr ?_;refine sM ?_;refine sA ?_;refine sA ?_;refine aops_nil ?_;refine awp_ret ?_;exact absurd (show (14:Int)=0 by assumption) (by decide)
    ·simp only [nf] at h4;refine awp_skip ?_;refine awp_seq ?_;refine asr ?_;refine sM ?_;refine sR ?_;refine aops_nil ?_;refine awp_cond rfl (fun h6=> ?_) (fun h6=> ?_)
     ·simp only [nf] at h6;refine asr ?_;refine sM ?_;refine sA ?_;refine sA ?_;refine aops_nil ?_;refine awp_ret ?_;exact absurd trivial (show ¬ True by assumption)
     ·simp only [nf] at h6;refine awp_skip ?_;refine asr ?_;refine sM ?_;refine sA ?_;refine sA ?_;refine aops_nil ?_;refine awp_ret ?_;refine retG (.inr rfl) (.cons (.tmp rfl) (.cons (.tmp rfl) .nil)) (VShift.drop) ⟨?_,rfl⟩;have h91:=(show ¬ True∨ ¬ 1099511627776<Pn.iabs e.value by assumption)
      have hvn:Pn.vaN e.kind e.op e.name e.value (e.args.map (fun x=>(Pn.vaE x l).1)) l=(e.value,0):=by rw [Pn.vaN,if_pos (by omega)];try rfl
      rw [Pn.vaE_eq e l,hty,if_neg (by simp)];dsimp only;rw [hvn,Pn.vfin,if_neg (by rintro⟨x,y⟩;rcases h91 with h|h;exact h trivial;exact h y),if_neg (by simp)];all_goals rfl
   ·simp only [nf] at h3;refine asr ?_;refine sQ ?_;refine sA ?_;refine aops_nil ?_;refine awp_cond rfl (fun h7=> ?_) (fun h7=> ?_)
    ·simp only [nf] at h7;refine asr ?_;refine sM ?_;refine sF ?_;refine sL .here ?_;refine aops_call (blt_lt rfl) (.plain rfl) (.cons (.imp (.plain rfl) (Sl.imp (enc:=encBd))) (.cons (.plain rfl) .nil)) (ACalls.here (find_c l e.name hl) ?_);refine sM ?_;refine sE ?_;refine sE ?_;refine sC fun n13=> ?_;refine st_s (fun _=>by exact y_storeW (by rfl) rfl (.plain rfl) (.plain rfl) (by exact .here) (by rfl)) ?_;refine sA ?_;refine aops_nil ?_;refine awp_region ?_;refine sF ?_;refine sL .here ?_;refine sA ?_;refine aops_nil ?_;refine awp_seq ?_;refine asr ?_;refine sM ?_;refine sQ ?_;refine sM ?_;refine gM ?_;refine st_g rfl rfl rfl SaysI.out (fun hc _=>by exact y_call (.plain rfl) (.cons (.opt rfl hc) .nil) (ACalls.pure (abs_c _ ⟨by omega,by omega⟩))) rfl ?_;refine gG0 ?_;refine sJ ?_;refine aops_nil ?_;refine awp_cond rfl (fun h8=> ?_) (fun h8=> ?_)
     ·simp only [nf] at h8;refine awp_region ?_;refine sA ?_;refine aops_nil ?_;refine awp_seq ?_;refine asr ?_;refine sM ?_;refine sR ?_;refine aops_nil ?_;refine awp_cond rfl (fun h9=> ?_) (fun h9=> ?_)
      ·simp only [nf] at h9;refine asr ?_;refine sM ?_;refine sA ?_;refine sA ?_;refine aops_nil ?_;refine awp_ret ?_;refine retG (.inr rfl) (.cons (.tmp rfl) (.cons (.tmp rfl) .nil)) (VShift.drop) ⟨?_,rfl⟩;have h91:=(show True∧1099511627776<Pn.iabs (Pn.findB l e.name).1.value by assumption)
       have hvn:Pn.vaN e.kind e.op e.name e.value (e.args.map (fun x=>(Pn.vaE x l).1)) l=((Pn.findB l e.name).1.value,0):=by rw [Pn.vaN,if_neg (by omega),if_pos (by omega)];try rfl
       rw [Pn.vaE_eq e l,hty,if_neg (by simp)];dsimp only;rw [hvn,Pn.vfin,if_pos ⟨rfl,h91.2⟩];all_goals rfl
      ·simp only [nf] at h9;refine awp_skip ?_;refine asr ?_;refine sM ?_;refine sA ?_;refine sA ?_;refine aops_nil ?_;refine awp_ret ?_;exact absurd (show (14:Int)=0 by assumption) (by decide)
     ·simp only [nf] at h8;refine awp_skip ?_;refine awp_seq ?_;refine asr ?_;refine sM ?_;refine sR ?_;refine aops_nil ?_;refine awp_cond rfl (fun h10=> ?_) (fun h10=> ?_)
      ·simp only [nf] at h10;refine asr ?_;refine sM ?_;refine sA ?_;refine sA ?_;refine aops_nil ?_;refine awp_ret ?_;exact absurd trivial (show ¬ True by assumption)
      ·simp only [nf] at h10;refine awp_skip ?_;refine asr ?_;refine sM ?_;refine sA ?_;refine sA ?_;refine aops_nil ?_;refine awp_ret ?_;refine retG (.inr rfl) (.cons (.tmp rfl) (.cons (.tmp rfl) .nil)) (VShift.drop) ⟨?_,rfl⟩;have h91:=(show ¬ True∨ ¬ 1099511627776<Pn.iabs (Pn.findB l e.name).1.value by assumption)
       have hvn:Pn.vaN e.kind e.op e.name e.value (e.args.map (fun x=>(Pn.vaE x l).1)) l=((Pn.findB l e.name).1.value,0):=by rw [Pn.vaN,if_neg (by omega),if_pos (by omega)];try rfl
       rw [Pn.vaE_eq e l,hty,if_neg (by simp)];dsimp only;rw [hvn,Pn.vfin,if_neg (by rintro⟨x,y⟩;rcases h91 with h|h;exact h trivial;exact h y),if_neg (by simp)];all_goals rfl
    ·simp only [nf] at h7;refine asr ?_;refine sQ ?_;refine sA ?_;refine aops_nil ?_;refine awp_cond rfl (fun h11=> ?_) (fun h11=> ?_)
     ·simp only [nf] at h11;refine awp_seq ?_;have hl1:=htwo.1 (by omega);refine awp_region ?_;refine sM ?_;refine st_p (fun _=>by exact y_indexT (l:=(e.args.map (fun x=>(Pn.vaE x l).1))) (q:=0) (.plain rfl) (.plain rfl) (by decide) (by rw [List.length_map];simp;omega)) rfl ?_;refine sU ?_;refine st_p (fun _=>by exact y_neg (.plain rfl) (by omega)) rfl ?_;refine sA ?_;refine aops_nil ?_;refine asr ?_;refine sF ?_;refine sL .here ?_;refine sQ ?_;refine aops_nil ?_;refine awp_cond rfl (fun h12=> ?_) (fun h12=> ?_)
      ·simp only [nf] at h12;refine awp_region ?_;refine sM ?_;refine st_p (fun _=>by exact y_indexT (l:=(e.args.map (fun x=>(Pn.vaE x l).1))) (q:=0) (.plain rfl) (.plain rfl) (by decide) (by rw [List.length_map];simp;omega)) rfl ?_;refine sU ?_;refine st_p (fun _=>by exact y_sub (.plain rfl) (.plain rfl) (by omega)) rfl ?_;refine sA ?_;refine aops_nil ?_;refine awp_seq ?_;refine asr ?_;refine sM ?_;refine sQ ?_;refine sM ?_;refine gM ?_;refine st_g rfl rfl rfl SaysI.out (fun hc _=>by exact y_call (.plain rfl) (.cons (.opt rfl hc) .nil) (ACalls.pure (abs_c _ ⟨by omega,by omega⟩))) rfl ?_;refine gG0 ?_;refine sJ ?_;refine aops_nil ?_;refine awp_cond rfl (fun h13=> ?_) (fun h13=> ?_)
       ·simp only [nf] at h13;refine awp_region ?_;refine sA ?_;refine aops_nil ?_;refine awp_seq ?_;refine asr ?_;refine sM ?_;refine sR ?_;refine aops_nil ?_;refine awp_cond rfl (fun h14=> ?_) (fun h14=> ?_)
        ·simp only [nf] at h14;refine asr ?_;refine sM ?_;refine sA ?_;refine sA ?_;refine aops_nil ?_;refine awp_ret ?_;refine retG (.inr rfl) (.cons (.tmp rfl) (.cons (.tmp rfl) .nil)) (VShift.drop) ⟨?_,rfl⟩;have h91:=(show True∧1099511627776<Pn.iabs (1 - (e.args.map (fun x=>(Pn.vaE x l).1)).getD (Int.toNat 0) default) by assumption)
         have hvn:Pn.vaN e.kind e.op e.name e.value (e.args.map (fun x=>(Pn.vaE x l).1)) l=((1 - (e.args.map (fun x=>(Pn.vaE x l).1)).getD (Int.toNat 0) default),0):=by rw [Pn.vaN,if_neg (by omega),if_neg (by omega),if_pos (by omega),if_pos (by assumption)];try rfl
         rw [Pn.vaE_eq e l,hty,if_neg (by simp)];dsimp only;rw [hvn,Pn.vfin,if_pos ⟨rfl,h91.2⟩];all_goals rfl
        ·simp only [nf] at h14;refine awp_skip ?_;refine asr ?_;refine sM ?_;refine sA ?_;refine sA ?_;refine aops_nil ?_;refine awp_ret ?_;exact absurd (show (14:Int)=0 by assumption) (by decide)
       ·simp only [nf] at h13;refine awp_skip ?_;refine awp_seq ?_;refine asr ?_;refine sM ?_;refine sR ?_;refine aops_nil ?_;refine awp_cond rfl (fun h15=> ?_) (fun h15=> ?_)
        ·simp only [nf] at h15;refine asr ?_;refine sM ?_;refine sA ?_;refine sA ?_;refine aops_nil ?_;refine awp_ret ?_;exact absurd trivial (show ¬ True by assumption)
        ·simp only [nf] at h15;refine awp_skip ?_;refine asr ?_;refine sM ?_;refine sA ?_;refine sA ?_;refine aops_nil ?_;refine awp_ret ?_;refine retG (.inr rfl) (.cons (.tmp rfl) (.cons (.tmp rfl) .nil)) (VShift.drop) ⟨?_,rfl⟩;have h91:=(show ¬ True∨ ¬ 1099511627776<Pn.iabs (1 - (e.args.map (fun x=>(Pn.vaE x l).1)).getD (Int.toNat 0) default) by assumption)
         have hvn:Pn.vaN e.kind e.op e.name e.value (e.args.map (fun x=>(Pn.vaE x l).1)) l=((1 - (e.args.map (fun x=>(Pn.vaE x l).1)).getD (Int.toNat 0) default),0):=by rw [Pn.vaN,if_neg (by omega),if_neg (by omega),if_pos (by omega),if_pos (by assumption)];try rfl
         rw [Pn.vaE_eq e l,hty,if_neg (by simp)];dsimp only;rw [hvn,Pn.vfin,if_neg (by rintro⟨x,y⟩;rcases h91 with h|h;exact h trivial;exact h y),if_neg (by simp)];all_goals rfl
      ·simp only [nf] at h12;refine awp_skip ?_;refine awp_seq ?_;refine asr ?_;refine sM ?_;refine sQ ?_;refine sM ?_;refine gM ?_;refine st_g rfl rfl rfl SaysI.out (fun hc _=>by exact y_call (.plain rfl) (.cons (.opt rfl hc) .nil) (ACalls.pure (abs_c _ ⟨by omega,by omega⟩))) rfl ?_;refine gG0 ?_;refine sJ ?_;refine aops_nil ?_;refine awp_cond rfl (fun h16=> ?_) (fun h16=> ?_)
       ·simp only [nf] at h16;refine awp_region ?_;refine sA ?_;refine aops_nil ?_;refine awp_seq ?_;refine asr ?_;refine sM ?_;refine sR ?_;refine aops_nil ?_;refine awp_cond rfl (fun h17=> ?_) (fun h17=> ?_)
        ·simp only [nf] at h17;refine asr ?_;refine sM ?_;refine sA ?_;refine sA ?_;refine aops_nil ?_;refine awp_ret ?_;refine retG (.inr rfl) (.cons (.tmp rfl) (.cons (.tmp rfl) .nil)) (VShift.drop) ⟨?_,rfl⟩;have h91:=(show True∧1099511627776<Pn.iabs (-(e.args.map (fun x=>(Pn.vaE x l).1)).getD (Int.toNat 0) default) by assumption)
         have hvn:Pn.vaN e.kind e.op e.name e.value (e.args.map (fun x=>(Pn.vaE x l).1)) l=((-(e.args.map (fun x=>(Pn.vaE x l).1)).getD (Int.toNat 0) default),0):=by rw [Pn.vaN,if_neg (by omega),if_neg (by omega),if_pos (by omega),if_neg (by assumption)];try rfl
         rw [Pn.vaE_eq e l,hty,if_neg (by simp)];dsimp only;rw [hvn,Pn.vfin,if_pos ⟨rfl,h91.2⟩];all_goals rfl
        ·simp only [nf] at h17;refine awp_skip ?_;refine asr ?_;refine sM ?_;refine sA ?_;refine sA ?_;refine aops_nil ?_;refine awp_ret ?_;exact absurd (show (14:Int)=0 by assumption) (by decide)
       ·simp only [nf] at h16;refine awp_skip ?_;refine awp_seq ?_;refine asr ?_;refine sM ?_;refine sR ?_;refine aops_nil ?_;refine awp_cond rfl (fun h18=> ?_) (fun h18=> ?_)
        ·simp only [nf] at h18;refine asr ?_;refine sM ?_;refine sA ?_;refine sA ?_;refine aops_nil ?_;refine awp_ret ?_;exact absurd trivial (show ¬ True by assumption)
        ·simp only [nf] at h18;refine awp_skip ?_;refine asr ?_;refine sM ?_;refine sA ?_;refine sA ?_;refine aops_nil ?_;refine awp_ret ?_;refine retG (.inr rfl) (.cons (.tmp rfl) (.cons (.tmp rfl) .nil)) (VShift.drop) ⟨?_,rfl⟩;have h91:=(show ¬ True∨ ¬ 1099511627776<Pn.iabs (-(e.args.map (fun x=>(Pn.vaE x l).1)).getD (Int.toNat 0) default) by assumption)
         have hvn:Pn.vaN e.kind e.op e.name e.value (e.args.map (fun x=>(Pn.vaE x l).1)) l=((-(e.args.map (fun x=>(Pn.vaE x l).1)).getD (Int.toNat 0) default),0):=by rw [Pn.vaN,if_neg (by omega),if_neg (by omega),if_pos (by omega),if_neg (by assumption)];try rfl
         rw [Pn.vaE_eq e l,hty,if_neg (by simp)];dsimp only;rw [hvn,Pn.vfin,if_neg (by rintro⟨x,y⟩;rcases h91 with h|h;exact h trivial;exact h y),if_neg (by simp)];all_goals rfl
     ·simp only [nf] at h11;have hkn9:Pn.known e.op=true:=hkn (by omega);obtain⟨s9,p9,fv9,hget,f9,caps9,hF9,hcall9⟩:=opTab_get hkn9;have hl2:=htwo.2 (by omega);have hov:=Pn.opV_bd (op:=e.op) hA0 hA1;refine awp_anyT (ks:=[.new,.free,.free,.read,.free,.free,.free,.free,.free,.free,.free,.free,.free,.free,.free,.free,.free]) [] (.nil _) (by kernel_rfl) (fun K=> ?_) ?_
      ·refine dr_new (fun _ _=>by exact y_callMap (.plain rfl) .nil operators_c) rfl fun nM=> ?_;refine rF ?_;refine rL .here ?_;refine dr_r (fun _=>by exact y_lookup1 (.plain rfl) (.plain rfl) (by exact .here) hget) rfl ?_;refine dr_p (fun _=>by exact y_field (.plain rfl) rfl) rfl ?_;refine rM ?_;refine dr_p (fun _=>by exact y_indexT (l:=(e.args.map (fun x=>(Pn.vaE x l).1))) (q:=0) (.plain rfl) (.plain rfl) (by decide) (by rw [List.length_map];simp;omega)) rfl ?_;refine rU ?_;refine rM ?_;refine dr_p (fun _=>by exact y_indexT (l:=(e.args.map (fun x=>(Pn.vaE x l).1))) (q:=1) (.plain rfl) (.plain rfl) (by decide) (by rw [List.length_map];simp;omega)) rfl ?_;refine rU ?_;refine dr_p (fun _=>by exact y_call (.plain rfl) (.cons (.plain rfl) (.cons (.plain rfl) .nil)) (ACalls.pure (hcall9 _ _ hA0 hA1))) rfl ?_;refine rM ?_;refine rE ?_;refine rE ?_;refine rA ?_;refine rA ?_;refine dr_nil ?_;refine awp_seq ?_;refine asr ?_;refine sM ?_;refine sQ ?_;refine sM ?_;refine gM ?_;refine st_g rfl rfl rfl SaysI.out (fun hc _=>by exact y_call (.plain rfl) (.cons (.opt rfl hc) .nil) (ACalls.pure (abs_c _ ⟨by omega,by omega⟩))) rfl ?_;refine gG0 ?_;refine sJ ?_;refine aops_nil ?_;refine awp_cond rfl (fun h19=> ?_) (fun h19=> ?_)
       ·simp only [nf] at h19;refine awp_region ?_;refine sA ?_;refine aops_nil ?_;refine awp_seq ?_;refine asr ?_;refine sM ?_;refine sR ?_;refine aops_nil ?_;refine awp_cond rfl (fun h20=> ?_) (fun h20=> ?_)
        ·simp only [nf] at h20;refine asr ?_;refine sM ?_;refine sA ?_;refine sA ?_;refine aops_nil ?_;refine awp_ret ?_;refine retG (.inr rfl) (.cons (.tmp rfl) (.cons (.tmp rfl) .nil)) (VShift.drop) ⟨?_,rfl⟩;have h91:=(show (Pn.opV e.op ((e.args.map (fun x=>(Pn.vaE x l).1)).getD (Int.toNat 0) default) ((e.args.map (fun x=>(Pn.vaE x l).1)).getD (Int.toNat 1) default)).2=0∧1099511627776<Pn.iabs (Pn.opV e.op ((e.args.map (fun x=>(Pn.vaE x l).1)).getD (Int.toNat 0) default) ((e.args.map (fun x=>(Pn.vaE x l).1)).getD (Int.toNat 1) default)).1 by assumption)
         have hvn:Pn.vaN e.kind e.op e.name e.value (e.args.map (fun x=>(Pn.vaE x l).1)) l=((Pn.opV e.op ((e.args.map (fun x=>(Pn.vaE x l).1)).getD (Int.toNat 0) default) ((e.args.map (fun x=>(Pn.vaE x l).1)).getD (Int.toNat 1) default)).1,(Pn.opV e.op ((e.args.map (fun x=>(Pn.vaE x l).1)).getD (Int.toNat 0) default) ((e.args.map (fun x=>(Pn.vaE x l).1)).getD (Int.toNat 1) default)).2):=by rw [Pn.vaN,if_neg (by omega),if_neg (by omega),if_neg (by omega)];rfl
         rw [Pn.vaE_eq e l,hty,if_neg (by simp)];dsimp only;rw [hvn,Pn.vfin,if_pos ⟨h91.1,h91.2⟩];all_goals rfl
        ·simp only [nf] at h20;refine awp_skip ?_;refine asr ?_;refine sM ?_;refine sA ?_;refine sA ?_;refine aops_nil ?_;refine awp_ret ?_;exact absurd (show (14:Int)=0 by assumption) (by decide)
       ·simp only [nf] at h19;refine awp_skip ?_;refine awp_seq ?_;refine asr ?_;refine sM ?_;refine sR ?_;refine aops_nil ?_;refine awp_cond rfl (fun h21=> ?_) (fun h21=> ?_)
        ·simp only [nf] at h21;refine asr ?_;refine sM ?_;refine sA ?_;refine sA ?_;refine aops_nil ?_;refine awp_ret ?_;refine retG (.inr rfl) (.cons (.tmp rfl) (.cons (.tmp rfl) .nil)) (VShift.drop) ⟨?_,rfl⟩;have h91:=(show ¬ (Pn.opV e.op ((e.args.map (fun x=>(Pn.vaE x l).1)).getD (Int.toNat 0) default) ((e.args.map (fun x=>(Pn.vaE x l).1)).getD (Int.toNat 1) default)).2=0∨ ¬ 1099511627776<Pn.iabs (Pn.opV e.op ((e.args.map (fun x=>(Pn.vaE x l).1)).getD (Int.toNat 0) default) ((e.args.map (fun x=>(Pn.vaE x l).1)).getD (Int.toNat 1) default)).1 by assumption)
         have hvn:Pn.vaN e.kind e.op e.name e.value (e.args.map (fun x=>(Pn.vaE x l).1)) l=((Pn.opV e.op ((e.args.map (fun x=>(Pn.vaE x l).1)).getD (Int.toNat 0) default) ((e.args.map (fun x=>(Pn.vaE x l).1)).getD (Int.toNat 1) default)).1,(Pn.opV e.op ((e.args.map (fun x=>(Pn.vaE x l).1)).getD (Int.toNat 0) default) ((e.args.map (fun x=>(Pn.vaE x l).1)).getD (Int.toNat 1) default)).2):=by rw [Pn.vaN,if_neg (by omega),if_neg (by omega),if_neg (by omega)];rfl
         rw [Pn.vaE_eq e l,hty,if_neg (by simp)];dsimp only;rw [hvn,Pn.vfin,if_neg (by rintro⟨x,y⟩;rcases h91 with h|h;exact h x;exact h y),if_pos (by assumption)];all_goals rfl
        ·simp only [nf] at h21;refine awp_skip ?_;refine asr ?_;refine sM ?_;refine sA ?_;refine sA ?_;refine aops_nil ?_;refine awp_ret ?_;refine retG (.inr rfl) (.cons (.tmp rfl) (.cons (.tmp rfl) .nil)) (VShift.drop) ⟨?_,rfl⟩;have h91:=(show ¬ (Pn.opV e.op ((e.args.map (fun x=>(Pn.vaE x l).1)).getD (Int.toNat 0) default) ((e.args.map (fun x=>(Pn.vaE x l).1)).getD (Int.toNat 1) default)).2=0∨ ¬ 1099511627776<Pn.iabs (Pn.opV e.op ((e.args.map (fun x=>(Pn.vaE x l).1)).getD (Int.toNat 0) default) ((e.args.map (fun x=>(Pn.vaE x l).1)).getD (Int.toNat 1) default)).1 by assumption)
         have hvn:Pn.vaN e.kind e.op e.name e.value (e.args.map (fun x=>(Pn.vaE x l).1)) l=((Pn.opV e.op ((e.args.map (fun x=>(Pn.vaE x l).1)).getD (Int.toNat 0) default) ((e.args.map (fun x=>(Pn.vaE x l).1)).getD (Int.toNat 1) default)).1,(Pn.opV e.op ((e.args.map (fun x=>(Pn.vaE x l).1)).getD (Int.toNat 0) default) ((e.args.map (fun x=>(Pn.vaE x l).1)).getD (Int.toNat 1) default)).2):=by rw [Pn.vaN,if_neg (by omega),if_neg (by omega),if_neg (by omega)];rfl
         rw [Pn.vaE_eq e l,hty,if_neg (by simp)];dsimp only;rw [hvn,Pn.vfin,if_neg (by rintro⟨x,y⟩;rcases h91 with h|h;exact h x;exact h y),if_neg (by exact fun h=>h (by assumption))];all_goals rfl
      ·kernel_rfl
theorem value_c (l:List Pn.Bd) (hl:l.length≤1000000) (hb:Pn.bound l=true) (e:Pn.Ex):Pn.Vd e→ACalls Tryz.prog 163 [.agg (encE e),.sl 3 (l.map encBd)] [] (fun v st=>v= .tup [.int (Pn.vaE e l).1,.int (Pn.vaE e l).2]∧st=[]):=by
  induction e using Pn.Ex.ind with
  |h e ih=>exact fun hv=>value_step l hl hb e hv fun x hx=>ih x hx (hv.arg hx)
theorem type_c (e:Pn.Ex) (l:List Pn.Bd) (hl:l.length≤1000000):ACalls Tryz.prog 98 [(AV.agg (encE e)),(AV.sl 3 (List.map encBd l))] [] (fun v st=>v=(AV.tup [(AV.int ((Pn.typeE e l).1)),(AV.int ((Pn.typeE e l).2))])∧st=[]):=by
  refine acalls_body Tryz.func98 (by kernel_rfl) rfl Tryz.ntmps98 (le_ rfl) ?_;rw [Tryz.results98];refine asr ?_;refine sB fun n1=> ?_;refine sA ?_;refine sA ?_;refine aops_nil ?_;refine awp_seq ?_;refine asr ?_;refine sW .here ?_;refine aops_call (blt_lt rfl) (.plain rfl) (.cons (.imp (.plain rfl) (AV.Imp.agg (RowOf.imp (enc:=encE)))) .nil) (ACalls.here (chkE_c e) ?_);refine sA ?_;refine aops_nil ?_;refine asr ?_;refine sM ?_;refine sR ?_;refine aops_nil ?_;refine awp_cond rfl (fun h1=> ?_) (fun h1=> ?_)
  ·simp only [nf] at h1;refine asr ?_;refine sM ?_;refine sA ?_;refine sA ?_;refine aops_nil ?_;refine awp_ret ?_;refine retG (.inr rfl) (.cons (.tmp rfl) (.cons (.tmp rfl) .nil)) (VShift.of2 (AV.Imp.tup (.cons (AV.Imp.refl _) (.cons (AV.Imp.refl _) .nil))) (.nil _)) ⟨congrArg (fun x:(Int)×(Int)=>(AV.tup [(AV.int x.1),(AV.int x.2)])) (show (_,_)=(Pn.typeE e l) from ?_),rfl⟩;rw [Pn.typeE,if_pos (show Pn.chkE e≠0 by omega)];all_goals rfl
  ·simp only [nf] at h1;refine awp_skip ?_;refine awp_seq ?_;refine asr ?_;refine sM ?_;refine aops_call (blt_lt rfl) (.plain rfl) (.cons (.imp (.plain rfl) (Sl.imp (enc:=encBd))) .nil) (ACalls.here (bound_c l hl) ?_);refine sO ?_;refine aops_nil ?_;refine awp_cond rfl (fun h2=> ?_) (fun h2=> ?_)
   ·simp only [nf] at h2;refine asr ?_;refine sA ?_;refine sA ?_;refine aops_nil ?_;refine awp_ret ?_;refine retG (.inr rfl) (.cons (.tmp rfl) (.cons (.tmp rfl) .nil)) (VShift.of2 (AV.Imp.tup (.cons (AV.Imp.refl _) (.cons (AV.Imp.refl _) .nil))) (.nil _)) ⟨congrArg (fun x:(Int)×(Int)=>(AV.tup [(AV.int x.1),(AV.int x.2)])) (show (_,_)=(Pn.typeE e l) from ?_),rfl⟩;rw [Pn.typeE,if_neg (show ¬ Pn.chkE e≠0 by omega),if_pos (by assumption)];all_goals rfl
   ·simp only [nf] at h2;refine awp_skip ?_;refine asr ?_;refine sW .here ?_;refine sM ?_;refine aops_call (blt_lt rfl) (.plain rfl) (.cons (.plain rfl) (.cons (.plain rfl) .nil)) (ACalls.here (typed_c l hl e (Pn.chkE_vd (by omega)).1) ?_);refine sE ?_;refine sE ?_;refine sA ?_;refine sA ?_;refine aops_nil ?_;refine awp_ret ?_;refine retG (.inr rfl) (.cons (.tmp rfl) (.cons (.tmp rfl) .nil)) (VShift.of2 (AV.Imp.tup (.cons (AV.Imp.refl _) (.cons (AV.Imp.refl _) .nil))) (.nil _)) ⟨congrArg (fun x:(Int)×(Int)=>(AV.tup [(AV.int x.1),(AV.int x.2)])) (show (_,_)=(Pn.typeE e l) from ?_),rfl⟩;rw [Pn.typeE,if_neg (show ¬ Pn.chkE e≠0 by omega),if_neg (by simp_all)];all_goals rfl
theorem eval_c (e:Pn.Ex) (l:List Pn.Bd) (hl:l.length≤1000000):ACalls Tryz.prog 137 [(AV.agg (encE e)),(AV.sl 3 (List.map encBd l))] [] (fun v st=>v=(AV.tup [(AV.int ((Pn.evalE e l).1)),(AV.int ((Pn.evalE e l).2))])∧st=[]):=by
  refine acalls_body Tryz.func137 (by kernel_rfl) rfl Tryz.ntmps137 (le_ rfl) ?_;rw [Tryz.results137];refine asr ?_;refine sB fun n1=> ?_;refine sA ?_;refine sA ?_;refine aops_nil ?_;refine awp_seq ?_;refine asr ?_;refine sW .here ?_;refine sM ?_;refine aops_call (blt_lt rfl) (.plain rfl) (.cons (.imp (.plain rfl) (AV.Imp.agg (RowOf.imp (enc:=encE)))) (.cons (.imp (.plain rfl) (Sl.imp (enc:=encBd))) .nil)) (ACalls.here (type_c e l hl) ?_);refine sM ?_;refine sE ?_;refine sE ?_;refine sA ?_;refine sA ?_;refine aops_nil ?_;refine asr ?_;refine sM ?_;refine sR ?_;refine aops_nil ?_;refine awp_cond rfl (fun h1=> ?_) (fun h1=> ?_)
  ·simp only [nf] at h1;refine asr ?_;refine sM ?_;refine sA ?_;refine sA ?_;refine aops_nil ?_;refine awp_ret ?_;refine retG (.inr rfl) (.cons (.tmp rfl) (.cons (.tmp rfl) .nil)) (VShift.of2 (AV.Imp.tup (.cons (AV.Imp.refl _) (.cons (AV.Imp.refl _) .nil))) (.nil _)) ⟨congrArg (fun x:(Int)×(Int)=>(AV.tup [(AV.int x.1),(AV.int x.2)])) (show (_,_)=(Pn.evalE e l) from ?_),rfl⟩;rw [Pn.evalE,if_pos (show (Pn.typeE e l).2≠0 by omega)];all_goals rfl
  ·simp only [nf] at h1;refine awp_skip ?_;refine asr ?_;refine sW .here ?_;refine sM ?_;refine aops_call (blt_lt rfl) (.plain rfl) (.cons (.plain rfl) (.cons (.plain rfl) .nil)) (ACalls.here (value_c l hl (Pn.typeE_ok (by omega)).2 e (Pn.chkE_vd (Pn.typeE_ok (by omega)).1).1) ?_);refine sE ?_;refine sE ?_;refine sA ?_;refine sA ?_;refine aops_nil ?_;refine awp_ret ?_;refine retG (.inr rfl) (.cons (.tmp rfl) (.cons (.tmp rfl) .nil)) (VShift.of2 (AV.Imp.tup (.cons (AV.Imp.refl _) (.cons (AV.Imp.refl _) .nil))) (.nil _)) ⟨congrArg (fun x:(Int)×(Int)=>(AV.tup [(AV.int x.1),(AV.int x.2)])) (show (_,_)=(Pn.evalE e l) from ?_),rfl⟩;rw [Pn.evalE,if_neg (show ¬ (Pn.typeE e l).2≠0 by omega)];all_goals rfl
end Go.Proofs
namespace Go.Aw
open Go.Sort (Holds grow mapBlock onCells putCells heap_grow_old)
theorem RelW.rowVec {g:Ghost} {st:List Item} {w w':World} {i:Nat} {xs xs':List AV} (h:RelW g (.vec (some i) xs::st) w) {b p s:Nat} (hl:g.loc i=some (b,p,s)) {vs':Array Value} {E:TypeId}
  (hg:w.grownBy w' (some b)) (hb':w'.heap[b]?=some (.cells vs' E (0,0))) (hs:vs'.size=s) (hle:xs'.length≤s) (hv:holdsL g xs' (vs'.toList.take xs'.length)) (h1: ∀ u∈vs'.toList,u.oneCell'=true) (hdr:w.drawn≤w'.drawn):RelW g (.vec (some i) xs'::st) w':=by
  obtain⟨b',p',s',vs,E',k1,k2,k3,k4,k5,k6,k7,k8⟩:=h.items _ (List.mem_cons_self ..);rw [hl] at k1;cases k1;have hne:=h.head_notin (b:=b) (by simp [Item.blk,Item.id?,hl]);have ht:=h.tailOf;refine RelW.cons (ht.evolve (row:=some b) (Ghost.le.refl g) hg (fun b' hb=>by cases hb;exact k8) (fun b' o v hv=> ?_) (fun it hit b' hb'=>⟨fun e=> ?_,fun _=>rfl⟩) h.fresh hdr) ?_ ?_
  ·by_cases e:b'=b
   ·subst e;rw [k7 o] at hv;cases hv
   ·exact .inl ⟨hv,fun x=>e (Option.some.inj x)⟩
  ·cases e;exact hne it hit hb'
  ·exact⟨b,p,s,vs',E,hl,hb',hs,hle,hv,h1,k7,k8⟩
  ·intro b' hb' x hx;simp [Item.blk,Item.id?,hl] at hb';subst hb';exact hne x hx
variable {α:Type} [Inhabited α]
theorem putCells_size (enc:α→Value) (d:Array α) (c:Array Value):(putCells enc 0 d c).size=c.size:=by simp [putCells]
theorem putCells_take (enc:α→Value) (l:List α) (c:Array Value) (h:l.length≤c.size):(putCells enc 0 l.toArray c).toList.take l.length=l.map enc:=by
  refine List.ext_getElem? fun k=> ?_;rw [List.getElem?_take,List.getElem?_map];split
  ·rename_i hk;have hk2:k<c.size:=by omega
   simp only [putCells,Array.getElem?_toList,Array.getElem?_mapIdx,Array.getElem?_eq_getElem hk2,Option.map_some,List.getElem?_eq_getElem hk];rw [if_pos ⟨by omega,by simp;omega⟩];simp [hk]
  ·rw [List.getElem?_eq_none (by omega)];rfl
theorem putCells_one (enc:α→Value) (d:Array α) (h1: ∀ x∈d.toList,(enc x).oneCell'=true) (c:Array Value) (hc: ∀ u∈c.toList,u.oneCell'=true): ∀ u∈(putCells enc 0 d c).toList,u.oneCell'=true:=by
  intro u hu;obtain⟨k,hk⟩:=List.mem_iff_getElem?.1 hu;simp only [putCells,Array.getElem?_toList,Array.getElem?_mapIdx] at hk;cases hck:c[k]? with
  |none=>rw [hck] at hk;cases hk
  |some y=>
   rw [hck,Option.map_some] at hk;have:=Option.some.inj hk;subst this;split
   ·rename_i hk9;refine h1 _ ?_;rw [getElem!_pos d (k - 0) (by omega)];exact Array.mem_toList_iff.2 (Array.getElem_mem _)
   ·exact hc y (List.mem_iff_getElem?.2 ⟨k,by simpa using hck⟩)
theorem RelW.putRow {g:Ghost} {st:List Item} {w:World} {i:Nat} {xs:List AV} (h:RelW g (.vec (some i) xs::st) w) {b p s:Nat} (hl:g.loc i=some (b,p,s)) (enc:α→Value) (l:List α) (h1: ∀ x∈l,(enc x).oneCell'=true) (hle:l.length≤s) (n:Nat) (os:Array Obj):
  RelW g (.vec (some i) ((l.map enc).map AV.val)::st) (grow (Go.Sort.putRow enc (Go.Sort.ahead w n) b 0 l.toArray) os):=by
  obtain⟨b',p',s',vs,E,k1,k2,k3,k4,k5,k6,k7,k8⟩:=h.items _ (List.mem_cons_self ..);rw [hl] at k1;cases k1;have hbs:b<w.heap.size:=(Array.getElem?_eq_some_iff.1 k2).1;refine RelW.rowVec h hl (vs':=putCells enc 0 l.toArray vs) (E:=E) ⟨rfl,rfl,rfl,by simp,fun k hk hne=> ?_⟩ ?_ (by rw [putCells_size];exact k3) (by simp;omega) ?_ (putCells_one enc _ h1 _ k6) (Nat.le_add_right _ _)
  ·rw [heap_grow_old _ _ (by simpa using hk)];simp only [Go.Sort.putRow,mapBlock,Go.Sort.ahead,Array.getElem?_modify];rw [if_neg (fun e=>hne (by rw [e]))]
  ·rw [heap_grow_old _ _ (by simpa using hbs)];simp only [Go.Sort.putRow,mapBlock,Go.Sort.ahead,Array.getElem?_modify,if_true,k2,Option.map_some,onCells]
  ·rw [List.length_map,List.length_map,putCells_take enc l vs (by omega)];exact holdsL_val _
theorem RelW.holds {g:Ghost} {st:List Item} {w:World} {i:Nat} {b p s:Nat} (hl:g.loc i=some (b,p,s)) (enc:α→Value) (l:List α) (h:RelW g (.vec (some i) ((l.map enc).map AV.val)::st) w):Holds enc w b 0 l.toArray:=by
  obtain⟨b',p',s',vs,E,k1,k2,k3,k4,k5,k6,k7,k8⟩:=h.items _ (List.mem_cons_self ..);rw [hl] at k1;cases k1;intro j hj;have hj':j<l.length:=by simpa using hj
  rw [List.length_map,List.length_map] at k4 k5;obtain⟨v,hv,hh⟩:=k5.get j (AV.val (enc l[j])) (by simp [hj']);rw [AV.val_holds] at hh;subst hh;rw [List.getElem?_take,if_pos hj'] at hv;have hv2:vs[j]?=some (enc l[j]):=by simpa using hv
  refine⟨?_,?_⟩
  ·simp only [World.cell?,k2,Nat.zero_add];rw [hv2];simp [hj']
  ·simp [World.frozen?,k2]
theorem ACalls.sortV {P:Program} {f:FuncId} (hf:callable P f=true) (enc:α→Value) (h1: ∀ x,(enc x).oneCell'=true) (srt:List α→List α) (hlen: ∀ l,(srt l).length=l.length)
  (hc: ∀ (blk off cap:Nat) (zs:List α) (w:World),Holds enc w blk off zs.toArray→blk<w.heap.size→zs.length<4611686018427387904→Calls P f #[.slice (some ⟨blk,off,none⟩) zs.length cap] w fun e w'=>e= .returned (.tuple #[])∧ ∃ n os,w'=grow (Go.Sort.putRow enc (Go.Sort.ahead w n) blk off (srt zs).toArray) os)
  (h0: ∀ (a:Option Addr) (cap:Nat) (w:World),Calls P f #[.slice a 0 cap] w fun e w'=>e= .returned (.tuple #[])∧w'=w)
  (t:Option Nat) (zs:List α) (hz:zs.length≤1000000):
  ACalls P f [.vec 1 t zs.length] [.vec t ((zs.map enc).map AV.val)] (fun v st=>v= .tup []∧st=[.vec t (((srt zs).map enc).map AV.val)]):=by
  refine⟨hf,fun F g w vs hw hv=> ?_⟩
  match vs,hv with
  | [u],⟨hu,_⟩=>
   cases t with
   |none=>
    obtain⟨⟨x,e⟩,hn⟩:=AV.vec_none.1 hu;subst e;refine (h0 x 0 w).mono ?_;rintro e w' ⟨rfl,rfl⟩;refine⟨_,_,_,g,rfl,Ghost.ext.refl g,hw.tailOf.vec0 _,?_,rfl,rfl⟩;exact AV.tup_holds.2 ⟨[],rfl,trivial⟩
   |some j=>
    obtain⟨b,p,s,cap,hl,e,hcap,hS⟩:=AV.vec_some.1 hu;subst e;have hw1:RelW g (.vec (some j) ((zs.map enc).map AV.val)::F) w:=hw;obtain⟨b',p',s',vs2,E,k1,k2,k3,k4,k5,k6,k7,k8⟩:=hw1.items _ (List.mem_cons_self ..);rw [hl] at k1;cases k1;have hbs:b<w.heap.size:=(Array.getElem?_eq_some_iff.1 k2).1;refine (hc b 0 cap zs w (RelW.holds hl enc zs hw1) hbs (by omega)).mono ?_;rintro e w' ⟨rfl,n,os,rfl⟩;refine⟨_,_,_,g,rfl,Ghost.ext.refl g,hw1.putRow hl enc (srt zs) (fun x _=>h1 x) ?_ n os,?_,rfl,rfl⟩
    ·rw [hlen];simpa using k4
    ·exact AV.tup_holds.2 ⟨[],rfl,trivial⟩
theorem ACalls.compactV {P:Program} {f:FuncId} (hf:callable P f=true) (enc:α→Value) (h1: ∀ x,(enc x).oneCell'=true) (cmp:List α→List α) (hlen: ∀ l,(cmp l).length≤l.length) (z:α)
  (hc: ∀ (blk off cap:Nat) (zs:List α) (w:World),Holds enc w blk off zs.toArray→zs.length≤9223372036854775807→zs.length≤cap→Calls P f #[.slice (some ⟨blk,off,none⟩) zs.length cap] w fun e w'=>e= .returned (.slice (some ⟨blk,off,none⟩) (cmp zs).length cap)∧ ∃ q,w'=Go.Sort.putRow enc (Go.Sort.ahead w q) blk off (cmp zs++List.replicate (zs.length - (cmp zs).length) z).toArray)
  (h0: ∀ (a:Option Addr) (cap:Nat) (w:World),Calls P f #[.slice a 0 cap] w fun e w'=>e= .returned (.slice a 0 cap)∧w'=w)
  (t:Option Nat) (zs:List α) (hz:zs.length≤1000000):
  ACalls P f [.vec 1 t zs.length] [.vec t ((zs.map enc).map AV.val)] (fun v st=>v= .vec 1 t (cmp zs).length∧st=[.vec t (((cmp zs).map enc).map AV.val)]):=by
  refine⟨hf,fun F g w vs hw hv=> ?_⟩
  match vs,hv with
  | [u],⟨hu,_⟩=>
   cases t with
   |none=>
    obtain⟨⟨x,e⟩,hn⟩:=AV.vec_none.1 hu;subst e;refine (h0 x 0 w).mono ?_;rintro e w' ⟨rfl,rfl⟩;have:=hlen zs;exact⟨_,_,_,g,rfl,Ghost.ext.refl g,hw.tailOf.vec0 _,AV.vec_none.2 ⟨⟨x,rfl⟩,by omega⟩,rfl,rfl⟩
   |some j=>
    obtain⟨b,p,s,cap,hl,e,hcap,hS⟩:=AV.vec_some.1 hu;subst e;have hw1:RelW g (.vec (some j) ((zs.map enc).map AV.val)::F) w:=hw;obtain⟨b',p',s',vs2,E,k1,k2,k3,k4,k5,k6,k7,k8⟩:=hw1.items _ (List.mem_cons_self ..);rw [hl] at k1;cases k1;have hle:=hlen zs;refine (hc b 0 cap zs w (RelW.holds hl enc zs hw1) (by omega) hcap).mono ?_;rintro e w' ⟨rfl,q,rfl⟩;have h2:=hw1.putRow hl enc (cmp zs++List.replicate (zs.length - (cmp zs).length) z) (fun x _=>h1 x) (by simp at k4 ⊢;omega) q #[];rw [Go.Sort.grow_empty,List.map_append,List.map_append] at h2;exact⟨_,_,_,g,rfl,Ghost.ext.refl g,h2.cutVec,AV.vec_some.2 ⟨b,p,s,cap,hl,rfl,by omega,hS⟩,rfl,rfl⟩
theorem VShift.freezeV {st r:List Item} {t:Option Nat} {sz n:Nat} {xs:List (List AV)} (hn:n=xs.length) (hl: ∀ x∈xs,x.length=sz) (ht:Takes st [.vec t xs.flatten] r):VShift (.vec sz t n) st (.sl sz xs) r:=fun F g u w hw hv=>by
  subst hn;have hw1:RelW g (.vec t xs.flatten::(r++F)) w:=hw.perm (ht.perm.append_right F);cases t with
  |none=>
   obtain⟨⟨xa,e⟩,hn⟩:=AV.vec_none.1 hv;have hx0:xs=[]:=List.eq_nil_of_length_eq_zero hn;subst hx0;exact⟨g,Ghost.ext.refl g,hw1.tailOf,AV.sl_holds.2 ⟨xa,0,e,Nat.le_refl _,by simp [AV.rows],fun h=>absurd rfl h⟩⟩
  |some j=>
   obtain⟨b2,p2,s2,cap,hloc,e,hcap,hS⟩:=AV.vec_some.1 hv;obtain⟨g',h1,h1',h2,h3⟩:=RelW.freezeVec hw1 hloc;exact⟨g',⟨h1.le,fun q hq=>h1' q⟩,h2,AV.sl_holds.2 ⟨_,cap,e,hcap,hl,fun hne=>⟨b2,0,rfl,h3⟩⟩⟩
end Go.Aw
namespace Pn
open Go.Lib
variable {α:Type} [Inhabited α] [DecidableEq α]
theorem mem_compact {zs:List α} {x:α}:x∈compact zs↔x∈zs:=by
  unfold compact compactUpTo;rw [List.mem_map];constructor
  ·rintro⟨j,hj,rfl⟩;rw [List.mem_filter,List.mem_range] at hj;have h:=hj.1;simp [h]
  ·intro hx;obtain⟨j,hj,rfl⟩:=List.getElem_of_mem hx;have key: ∀ j,j<zs.length→ ∃ i,i∈(List.range zs.length).filter (keeps zs.toArray)∧zs.toArray[i]! =zs.toArray[j]!:=by
    intro j;induction j with
    |zero=>exact fun h=>⟨0,List.mem_filter.2 ⟨List.mem_range.2 h,by simp [keeps]⟩,rfl⟩
    |succ j ih=>
     intro h;by_cases e:zs.toArray[j+1]! =zs.toArray[j+1 - 1]!
     ·obtain⟨i,h1,h2⟩:=ih (by omega);exact⟨i,h1,by rw [h2,e];rfl⟩
     ·exact⟨j+1,List.mem_filter.2 ⟨List.mem_range.2 h,keeps_pos e⟩,rfl⟩
   obtain⟨i,h1,h2⟩:=key j hj;exact⟨i,h1,by rw [h2];simp [hj]⟩
theorem compact_le (zs:List α):(compact zs).length≤zs.length:=by
  unfold compact compactUpTo;rw [List.length_map];exact Nat.le_trans (List.length_filter_le _ _) (by simp)
end Pn
namespace Go.Aw
open Go.Proofs (encStr)
def strV (b:ByteArray):AV:= .val (.string b)
theorem encStr_bytes (l:List ByteArray):((l.map (fun b=>b.data.toList)).map encStr).map AV.val=l.map strV:=by
  rw [List.map_map,List.map_map];rfl
theorem bytes_encStr (l:List (List UInt8)):(l.map encStr).map AV.val=(l.map (fun x=>(⟨x.toArray⟩:ByteArray))).map strV:=by
  rw [List.map_map,List.map_map];rfl
theorem flatS (m:List ByteArray):m.map strV=(m.map fun b=>[strV b]).flatten:=by
  induction m with
  |nil=>rfl
  |cons a m ih=>simp [ih]
theorem mem_bytes {l:List ByteArray} {l':List (List UInt8)} (h: ∀ x,x∈l'↔x∈l.map (fun b=>b.data.toList)) (y:ByteArray):y∈l'.map (fun x=>(⟨x.toArray⟩:ByteArray))↔y∈l:=by
  rw [List.mem_map];constructor
  ·rintro⟨x,hx,rfl⟩;obtain⟨b,hb,e⟩:=List.mem_map.1 ((h x).1 hx);subst e;simpa using hb
  ·intro hy;exact⟨y.data.toList,(h _).2 (List.mem_map.2 ⟨y,hy,rfl⟩),rfl⟩
end Go.Aw
namespace Go.Aw
def encStV (b:ByteArray):List AV:=[.val (.string b)]
end Go.Aw
namespace Pn
def nmK (e:Ex) (k:Nat):List ByteArray:=(((ptE e).take k).filter (fun x=>decide (x.kind=2))).map (·.name)
def nmE (e:Ex):List ByteArray:=((ptE e).filter (fun x=>decide (x.kind=2))).map (·.name)
theorem nmK_t {e:Ex} {k:Nat} (hk:k<(ptE e).length) (h:(ptE e)[k].kind=2):nmK e (k+1)=nmK e k++[(ptE e)[k].name]:=by
  unfold nmK;rw [List.take_add_one,List.getElem?_eq_getElem hk,Option.toList_some,List.filter_append,List.map_append];simp [h]
theorem nmK_f {e:Ex} {k:Nat} (hk:k<(ptE e).length) (h: ¬ (ptE e)[k].kind=2):nmK e (k+1)=nmK e k:=by
  unfold nmK;rw [List.take_add_one,List.getElem?_eq_getElem hk,Option.toList_some,List.filter_append,List.map_append];simp [h]
theorem nmK_all (e:Ex):nmK e (ptE e).length=nmE e:=by
  unfold nmK nmE;rw [List.take_length]
theorem nmK_len (e:Ex) (k:Nat):(nmK e k).length≤(ptE e).length:=by
  unfold nmK;rw [List.length_map];exact Nat.le_trans (List.length_filter_le _ _) (by simp;omega)
theorem msL_len: ∀ (l:List Ex) (d m p:Int),0≤p→d≤100→(∀ x∈l,∀ q:Int,0≤q→(msE x (d+1) q).2≤100→(msE x (d+1) q).1≤100→((ptE x).length:Int)=(msE x (d+1) q).2 - q)→(msL l d m p).2≤100→(msL l d m p).1≤100→((ptL l).length:Int)=(msL l d m p).2 - p
  | [],d,m,p,_,_,_,h,_=>by rw [msL,ptL];simp
  |e::l,d,m,p,hp,hd,ih,h,h2=>by
   rw [msL] at h h2 ⊢;split at h
   ·exact absurd h (by simp;omega)
   ·rename_i hp2;rw [if_neg hp2] at h2 ⊢;have hb:=msE_bd e (d+1) p (by omega) (by omega);have h4:=msL_len l d (max m (msE e (d+1) p).1) (msE e (d+1) p).2 (by omega) hd (fun x hx=>ih x (List.mem_cons_of_mem _ hx)) h h2;have hmono: ∀ (l:List Ex) (d m p:Int),m≤(msL l d m p).1:=by
     intro l;induction l with
     |nil=>intro d m p;rw [msL];exact Int.le_refl _
     |cons x l ih2=>
      intro d m p;rw [msL];split
      ·exact Int.le_refl _
      ·have:=ih2 d (max m (msE x (d+1) p).1) (msE x (d+1) p).2;omega
    have h3:=hmono l d (max m (msE e (d+1) p).1) (msE e (d+1) p).2;have hge: ∀ (l:List Ex) (d m p:Int),d≤100→p≤101→p≤(msL l d m p).2:=by
     intro l;induction l with
     |nil=>intro d m p _ _;rw [msL];exact Int.le_refl _
     |cons x l ih2=>
      intro d m p hd hp;rw [msL];split
      ·exact Int.le_refl _
      ·have h5:=msE_bd x (d+1) p (by omega) (by omega);have:=ih2 d (max m (msE x (d+1) p).1) (msE x (d+1) p).2 hd (by omega);omega
    have h5:=hge l d (max m (msE e (d+1) p).1) (msE e (d+1) p).2 hd hb.2.1;have h6:=ih e (List.mem_cons_self ..) p hp (by omega) (by omega);rw [ptL,List.length_append];push_cast;omega
theorem msE_len (e:Ex): ∀ d p:Int,0≤p→(msE e d p).2≤100→(msE e d p).1≤100→((ptE e).length:Int)=(msE e d p).2 - p:=by
  induction e using Ex.ind with
  |h e ih=>
   intro d p hp h h2;rw [ptE_eq];rw [msE_eq] at h h2 ⊢;split at h
   ·rename_i hc;rw [if_pos hc] at h2;simp only at h h2;omega
   ·rename_i hc;rw [if_neg hc] at h2 ⊢;have:=msL_len e.args d d (p+1) (by omega) (by omega) (fun x hx q hq=>ih x hx (d+1) q hq) h h2;rw [List.length_cons];push_cast;omega
theorem chkE_len {e:Ex} (h:chkE e=0):(ptE e).length≤100:=by
  unfold chkE at h;split at h
  ·cases h
  ·split at h
   ·cases h
   ·have:=msE_len e 1 0 (by decide) (by omega) (by omega);omega
end Pn
set_option maxRecDepth 10000
namespace Go.Proofs
open Go.Aw Wl Pn
open Go.Shelf
def Tryz.lays189_ren:Go.Shelf.Ren:=⟨fun|189=>162|125=>81|257=>174|128=>117|129=>118|294=>204|295=>205|296=>206|297=>207|298=>208|299=>209|216=>210|300=>211|301=>212|328=>220|329=>157|330=>158|331=>221|332=>222|215=>82|343=>224|n=>n,fun|28=>26|3=>3|46=>139|0=>0|51=>172|53=>174|4=>4|183=>165|182=>164|131=>169|5=>5|9=>9|218=>198|222=>179|228=>218|229=>215|n=>n,fun|n=>n⟩
theorem Tryz.lays189:Go.Proofs.Lays.n189 Tryz.prog Tryz.lays189_ren:={
  mixed:=by kernel_rfl
  f125:=Tryz.func81.trans (congrArg some (by kernel_rfl))
  f128:=Tryz.func117.trans (congrArg some (by kernel_rfl))
  f129:=Tryz.func118.trans (congrArg some (by kernel_rfl))
  f189:=Tryz.func162.trans (congrArg some (by kernel_rfl))
  f215:=Tryz.func82.trans (congrArg some (by kernel_rfl))
  f216:=Tryz.func210.trans (congrArg some (by kernel_rfl))
  f257:=Tryz.func174.trans (congrArg some (by kernel_rfl))
  f294:=Tryz.func204.trans (congrArg some (by kernel_rfl))
  f295:=Tryz.func205.trans (congrArg some (by kernel_rfl))
  f296:=Tryz.func206.trans (congrArg some (by kernel_rfl))
  f297:=Tryz.func207.trans (congrArg some (by kernel_rfl))
  f298:=Tryz.func208.trans (congrArg some (by kernel_rfl))
  f299:=Tryz.func209.trans (congrArg some (by kernel_rfl))
  f300:=Tryz.func211.trans (congrArg some (by kernel_rfl))
  f301:=Tryz.func212.trans (congrArg some (by kernel_rfl))
  f328:=Tryz.func220.trans (congrArg some (by kernel_rfl))
  f329:=Tryz.func157.trans (congrArg some (by kernel_rfl))
  f330:=Tryz.func158.trans (congrArg some (by kernel_rfl))
  f331:=Tryz.func221.trans (congrArg some (by kernel_rfl))
  f332:=Tryz.func222.trans (congrArg some (by kernel_rfl))
  f343:=Tryz.func224.trans (congrArg some (by kernel_rfl))
  t0:=Tryz.underlying0
  a0:=Tryz.isAgg0
  z0:=Tryz.sizeOf0
  v0:=Tryz.zeroValue0
  t3:=Tryz.underlying3
  a3:=Tryz.isAgg3
  z3:=Tryz.sizeOf3
  v3:=Tryz.zeroValue3
  t4:=Tryz.underlying4
  a4:=Tryz.isAgg4
  z4:=Tryz.sizeOf4
  v4:=Tryz.zeroValue4
  t5:=Tryz.underlying5
  a5:=Tryz.isAgg5
  z5:=Tryz.sizeOf5
  v5:=Tryz.zeroValue5
  t9:=Tryz.underlying9
  a9:=Tryz.isAgg9
  z9:=Tryz.sizeOf9
  v9:=Tryz.zeroValue9
  t28:=Tryz.underlying26
  a28:=Tryz.isAgg26
  z28:=Tryz.sizeOf26
  v28:=Tryz.zeroValue26
  t46:=Tryz.underlying139
  a46:=Tryz.isAgg139
  z46:=Tryz.sizeOf139
  v46:=Tryz.zeroValue139
  t51:=Tryz.underlying172
  a51:=Tryz.isAgg172
  z51:=Tryz.sizeOf172
  v51:=Tryz.zeroValue172
  t53:=Tryz.underlying174
  a53:=Tryz.isAgg174
  z53:=Tryz.sizeOf174
  v53:=Tryz.zeroValue174
  t131:=Tryz.underlying169
  a131:=Tryz.isAgg169
  z131:=Tryz.sizeOf169
  v131:=Tryz.zeroValue169
  t182:=Tryz.underlying164
  a182:=Tryz.isAgg164
  z182:=Tryz.sizeOf164
  v182:=Tryz.zeroValue164
  t183:=Tryz.underlying165
  a183:=Tryz.isAgg165
  z183:=Tryz.sizeOf165
  v183:=Tryz.zeroValue165
  t218:=Tryz.underlying198
  a218:=Tryz.isAgg198
  z218:=Tryz.sizeOf198
  v218:=Tryz.zeroValue198
  t222:=Tryz.underlying179
  a222:=Tryz.isAgg179
  z222:=Tryz.sizeOf179
  v222:=Tryz.zeroValue179
  t228:=Tryz.underlying218
  a228:=Tryz.isAgg218
  z228:=Tryz.sizeOf218
  v228:=Tryz.zeroValue218
  t229:=Tryz.underlying215
  a229:=Tryz.isAgg215
  z229:=Tryz.sizeOf215
  v229:=Tryz.zeroValue215}
open Go.Sort Go.RowKit in
theorem Tryz.slices_Sort_int (blk off cap:Nat) (zs:List Int) (w:World) (hH:Holds (Value.int .i64) w blk off zs.toArray) (hblk:blk<w.heap.size) (hsz:zs.length<4611686018427387904):
  Calls Tryz.prog 162 #[.slice (some ⟨blk,off,none⟩) zs.length cap] w fun e w'=>
   e= .returned (.tuple #[])∧ ∃ n os,w'=grow (putRow (Value.int .i64) (Sort.ahead w n) blk off (zs.mergeSort fun x y=>decide (x≤y)).toArray) os:=Any.slices_Sort_int Tryz.lays189 blk off cap zs w hH hblk hsz
def Tryz.lays190_ren:Go.Shelf.Ren:=⟨fun|190=>142|125=>81|258=>168|128=>117|129=>118|302=>193|303=>194|304=>195|305=>196|306=>197|307=>198|308=>199|309=>200|310=>201|333=>216|329=>157|330=>158|334=>217|335=>218|336=>219|344=>223|n=>n,fun|31=>106|9=>9|3=>3|46=>139|0=>0|51=>172|53=>174|4=>4|183=>165|182=>164|131=>169|5=>5|218=>198|222=>179|228=>218|229=>215|n=>n,fun|n=>n⟩
theorem Tryz.lays190:Go.Proofs.Lays.n190 Tryz.prog Tryz.lays190_ren:={
  mixed:=by kernel_rfl
  f125:=Tryz.func81.trans (congrArg some (by kernel_rfl))
  f128:=Tryz.func117.trans (congrArg some (by kernel_rfl))
  f129:=Tryz.func118.trans (congrArg some (by kernel_rfl))
  f190:=Tryz.func142.trans (congrArg some (by kernel_rfl))
  f258:=Tryz.func168.trans (congrArg some (by kernel_rfl))
  f302:=Tryz.func193.trans (congrArg some (by kernel_rfl))
  f303:=Tryz.func194.trans (congrArg some (by kernel_rfl))
  f304:=Tryz.func195.trans (congrArg some (by kernel_rfl))
  f305:=Tryz.func196.trans (congrArg some (by kernel_rfl))
  f306:=Tryz.func197.trans (congrArg some (by kernel_rfl))
  f307:=Tryz.func198.trans (congrArg some (by kernel_rfl))
  f308:=Tryz.func199.trans (congrArg some (by kernel_rfl))
  f309:=Tryz.func200.trans (congrArg some (by kernel_rfl))
  f310:=Tryz.func201.trans (congrArg some (by kernel_rfl))
  f329:=Tryz.func157.trans (congrArg some (by kernel_rfl))
  f330:=Tryz.func158.trans (congrArg some (by kernel_rfl))
  f333:=Tryz.func216.trans (congrArg some (by kernel_rfl))
  f334:=Tryz.func217.trans (congrArg some (by kernel_rfl))
  f335:=Tryz.func218.trans (congrArg some (by kernel_rfl))
  f336:=Tryz.func219.trans (congrArg some (by kernel_rfl))
  f344:=Tryz.func223.trans (congrArg some (by kernel_rfl))
  t0:=Tryz.underlying0
  a0:=Tryz.isAgg0
  z0:=Tryz.sizeOf0
  v0:=Tryz.zeroValue0
  t3:=Tryz.underlying3
  a3:=Tryz.isAgg3
  z3:=Tryz.sizeOf3
  v3:=Tryz.zeroValue3
  t4:=Tryz.underlying4
  a4:=Tryz.isAgg4
  z4:=Tryz.sizeOf4
  v4:=Tryz.zeroValue4
  t5:=Tryz.underlying5
  a5:=Tryz.isAgg5
  z5:=Tryz.sizeOf5
  v5:=Tryz.zeroValue5
  t9:=Tryz.underlying9
  a9:=Tryz.isAgg9
  z9:=Tryz.sizeOf9
  v9:=Tryz.zeroValue9
  t31:=Tryz.underlying106
  a31:=Tryz.isAgg106
  z31:=Tryz.sizeOf106
  v31:=Tryz.zeroValue106
  t46:=Tryz.underlying139
  a46:=Tryz.isAgg139
  z46:=Tryz.sizeOf139
  v46:=Tryz.zeroValue139
  t51:=Tryz.underlying172
  a51:=Tryz.isAgg172
  z51:=Tryz.sizeOf172
  v51:=Tryz.zeroValue172
  t53:=Tryz.underlying174
  a53:=Tryz.isAgg174
  z53:=Tryz.sizeOf174
  v53:=Tryz.zeroValue174
  t131:=Tryz.underlying169
  a131:=Tryz.isAgg169
  z131:=Tryz.sizeOf169
  v131:=Tryz.zeroValue169
  t182:=Tryz.underlying164
  a182:=Tryz.isAgg164
  z182:=Tryz.sizeOf164
  v182:=Tryz.zeroValue164
  t183:=Tryz.underlying165
  a183:=Tryz.isAgg165
  z183:=Tryz.sizeOf165
  v183:=Tryz.zeroValue165
  t218:=Tryz.underlying198
  a218:=Tryz.isAgg198
  z218:=Tryz.sizeOf198
  v218:=Tryz.zeroValue198
  t222:=Tryz.underlying179
  a222:=Tryz.isAgg179
  z222:=Tryz.sizeOf179
  v222:=Tryz.zeroValue179
  t228:=Tryz.underlying218
  a228:=Tryz.isAgg218
  z228:=Tryz.sizeOf218
  v228:=Tryz.zeroValue218
  t229:=Tryz.underlying215
  a229:=Tryz.isAgg215
  z229:=Tryz.sizeOf215
  v229:=Tryz.zeroValue215}
open Go.Sort Go.RowKit in
theorem Tryz.slices_Sort_string (blk off cap:Nat) (ss:List (List UInt8)) (w:World) (hH:Holds encStr w blk off ss.toArray) (hblk:blk<w.heap.size) (hsz:ss.length<4611686018427387904):
  Calls Tryz.prog 142 #[.slice (some ⟨blk,off,none⟩) ss.length cap] w fun e w'=>
   e= .returned (.tuple #[])∧ ∃ n os,w'=grow (putRow encStr (Sort.ahead w n) blk off (ss.mergeSort fun x y=>decide (x≤y)).toArray) os:=Any.slices_Sort_string Tryz.lays190 blk off cap ss w hH hblk hsz
def Tryz.lays194_ren:Go.Shelf.Ren:=⟨fun|194=>143|n=>n,fun|31=>106|9=>9|3=>3|4=>4|0=>0|n=>n,fun|n=>n⟩
theorem Tryz.lays194:Go.Proofs.Lays.n194 Tryz.prog Tryz.lays194_ren:={
  mixed:=by kernel_rfl
  f194:=Tryz.func143.trans (congrArg some (by kernel_rfl))
  t0:=Tryz.underlying0
  a0:=Tryz.isAgg0
  z0:=Tryz.sizeOf0
  v0:=Tryz.zeroValue0
  t3:=Tryz.underlying3
  a3:=Tryz.isAgg3
  z3:=Tryz.sizeOf3
  v3:=Tryz.zeroValue3
  t4:=Tryz.underlying4
  a4:=Tryz.isAgg4
  z4:=Tryz.sizeOf4
  v4:=Tryz.zeroValue4
  t9:=Tryz.underlying9
  a9:=Tryz.isAgg9
  z9:=Tryz.sizeOf9
  v9:=Tryz.zeroValue9
  t31:=Tryz.underlying106
  a31:=Tryz.isAgg106
  z31:=Tryz.sizeOf106
  v31:=Tryz.zeroValue106}
open Go.RowKit Go.Lib Go.Sort in
theorem Tryz.slices_Compact_string_arr (blk off cap:Nat) (d:Array (List UInt8)) (w:World) (hH:Holds encStr w blk off d) (hsz:d.size≤9223372036854775807) (hcap:d.size≤cap):
  Calls Tryz.prog 143 #[.slice (some ⟨blk,off,none⟩) d.size cap] w fun e w'=>e= .returned (.slice (some ⟨blk,off,none⟩) (compactUpTo d d.size).length cap)∧ ∃ q,w'=putRow encStr (Sort.ahead w q) blk off (compactUpTo d d.size++List.replicate (d.size - (compactUpTo d d.size).length) []).toArray:=Any.slices_Compact_string_arr Tryz.lays194 blk off cap d w hH hsz hcap
open Go.RowKit Go.Lib Go.Sort in
theorem Tryz.slices_Compact_string (blk off cap:Nat) (zs:List (List UInt8)) (w:World) (hH:Holds encStr w blk off zs.toArray) (hsz:zs.length≤9223372036854775807) (hcap:zs.length≤cap):
  Calls Tryz.prog 143 #[.slice (some ⟨blk,off,none⟩) zs.length cap] w fun e w'=>e= .returned (.slice (some ⟨blk,off,none⟩) (Lib.compact zs).length cap)∧ ∃ q,w'=putRow encStr (Sort.ahead w q) blk off (Lib.compact zs++List.replicate (zs.length - (Lib.compact zs).length) []).toArray:=Any.slices_Compact_string Tryz.lays194 blk off cap zs w hH hsz hcap
open Go.RowKit Go.Lib Go.Sort in
theorem Tryz.slices_Compact_string_empty (a:Option Addr) (cap:Nat) (w:World):
  Calls Tryz.prog 143 #[.slice a 0 cap] w fun e w'=>e= .returned (.slice a 0 cap)∧w'=w:=Any.slices_Compact_string_empty Tryz.lays194 a cap w
open Go.RowKit Go.Sort in
theorem Tryz.slices_Sort_string_none (p:Option Addr) (cap:Nat) (w:World):
  Calls Tryz.prog 142 #[.slice p 0 cap] w fun e w'=>e= .returned (.tuple #[])∧w'=w:=Any.slices_Sort_string_none Tryz.lays190 p cap w
open Go.RowKit Go.Sort in
theorem Tryz.slices_Sort_int_none (p:Option Addr) (cap:Nat) (w:World):
  Calls Tryz.prog 162 #[.slice p 0 cap] w fun e w'=>e= .returned (.tuple #[])∧w'=w:=Any.slices_Sort_int_none Tryz.lays189 p cap w
theorem sortS_c (t:Option Nat) (l:List ByteArray) (hl:l.length≤1000000):ACalls Tryz.prog 142 [.vec 1 t l.length] [.vec t (l.map strV)] (fun v st=>v= .tup []∧ ∃ l':List ByteArray,st=[.vec t (l'.map strV)]∧l'.length=l.length∧ ∀ x,x∈l'↔x∈l):=by
  have h:=ACalls.sortV (P:=Tryz.prog) (f:=142) (by kernel_rfl) encStr (fun _=>rfl) (fun ss=>ss.mergeSort fun x y=>decide (x≤y)) (fun l=>List.length_mergeSort l) (fun blk off cap zs w a b c=>Tryz.slices_Sort_string blk off cap zs w a b c) (fun a cap w=>Tryz.slices_Sort_string_none a cap w) t (l.map (fun b=>b.data.toList)) (by simpa using hl);rw [encStr_bytes,List.length_map] at h;refine h.mono ?_;rintro v st ⟨rfl,rfl⟩;exact⟨rfl,_,by rw [bytes_encStr],by simp,mem_bytes fun x=>List.mem_mergeSort⟩
theorem compS_c (t:Option Nat) (l:List ByteArray) (hl:l.length≤1000000):ACalls Tryz.prog 143 [.vec 1 t l.length] [.vec t (l.map strV)] (fun v st=> ∃ l':List ByteArray,v= .sl 1 (l'.map fun b=>[strV b])∧st=[]∧l'.length≤l.length∧ ∀ x,x∈l'↔x∈l):=by
  have h:=ACalls.compactV (P:=Tryz.prog) (f:=143) (by kernel_rfl) encStr (fun _=>rfl) Go.Lib.compact Pn.compact_le [] (fun blk off cap zs w a b c=>Tryz.slices_Compact_string blk off cap zs w a b c) (fun a cap w=>Tryz.slices_Compact_string_empty a cap w) t (l.map (fun b=>b.data.toList)) (by simpa using hl);rw [encStr_bytes,List.length_map] at h;refine h.shift ?_;rintro v st ⟨rfl,rfl⟩;rw [bytes_encStr];have hle:=Pn.compact_le (l.map (fun b=>b.data.toList));generalize hm:(Go.Lib.compact (l.map (fun b=>b.data.toList))).map (fun x=>(⟨x.toArray⟩:ByteArray))=m;have hn:(Go.Lib.compact (l.map (fun b=>b.data.toList))).length=m.length:=by rw [←hm,List.length_map]
  refine⟨_,[],VShift.freezeV (xs:=m.map fun b=>[strV b]) (by rw [hn,List.length_map]) (by intro x hx;obtain⟨b,_,rfl⟩:=List.mem_map.1 hx;rfl) (by rw [flatS];apply Takes.cons .here;exact .nil _),m,rfl,rfl,by rw [List.length_map] at hle;omega,fun x=> ?_⟩;rw [←hm];exact mem_bytes (fun x=>Pn.mem_compact) x
theorem sortI_c (t:Option Nat) (l:List Int) (hl:l.length≤1000000):ACalls Tryz.prog 162 [.vec 1 t l.length] [.vec t (l.map AV.int)] (fun v st=>v= .tup []∧st=[.vec t ((l.mergeSort fun x y=>decide (x≤y)).map AV.int)]):=by
  have h:=ACalls.sortV (P:=Tryz.prog) (f:=162) (by kernel_rfl) (Value.int .i64) (fun _=>rfl) (fun ss:List Int=>ss.mergeSort fun x y=>decide (x≤y)) (fun l=>List.length_mergeSort l) (fun blk off cap zs w a b c=>Tryz.slices_Sort_int blk off cap zs w a b c) (fun a cap w=>Tryz.slices_Sort_int_none a cap w) t l hl;rw [List.map_map,List.map_map] at h;exact h
end Go.Proofs
set_option maxRecDepth 10000
namespace Go.Proofs
open Go.Aw Wl Pn
theorem indexS_c (l:List ByteArray) (s:ByteArray) (hl:l.length≤1000000):ACalls Tryz.prog 144 [(AV.sl 1 (List.map encStV l)),(AV.val (.string s))] [] (fun v st=>v=(AV.int (idxF (fun b=>Sv.same s b) l))∧st=[]):=by
  refine acalls_body Tryz.func144 (by kernel_rfl) rfl Tryz.ntmps144 (le_ rfl) ?_;rw [Tryz.results144];refine asr ?_;refine sA ?_;refine aops_nil ?_;refine awp_seq ?_;refine asr ?_;refine sM ?_;refine sN ?_;refine sM ?_;refine aops_nil ?_;refine awp_block ?_;refine awp_loop2 (X:=Nat) [0,1,7] (.cons rfl (.cons rfl (.cons rfl .nil))) (fun σ x=>((8,.int (x:Int)):Nat×AV)::σ) (fun R x=>R) (fun x=>x≤l.length∧(∀ i (h:i<l.length),i<x→Sv.same s l[i]=false)) (fun x=>l.length - x) 0 (by exact Weak.of2 (by (repeat (first|exact .nil _|refine .cons rfl (by exact AV.Imp.refl _) ?_));done) (by (repeat (exact .refl _));done)) ⟨Nat.zero_le _,by omega⟩ ?_;rintro k ⟨hk,hinv⟩;refine asr ?_;refine sS ?_;refine aops_nil ?_;refine awp_seq ?_;refine awp_cond rfl (fun h1=> ?_) (fun h1=> ?_)
  ·simp only [nf] at h1;refine awp_skip ?_;refine awp_seq ?_;refine awp_block ?_;refine asr ?_;refine sM ?_;refine sA ?_;refine aops_nil ?_;refine asr ?_;refine sM ?_;refine sM ?_;refine sM ?_;refine st_p (fun _=>by exact y_indexMap (.plain rfl) (.plain rfl) rfl (by refine⟨?_,?_⟩;(omega);rfl)) rfl ?_;refine sU ?_;refine st_p (fun _=>by exact y_strEq (.plain rfl) (.plain rfl)) rfl ?_;refine aops_nil ?_;refine awp_cond rfl (fun h2=> ?_) (fun h2=> ?_)
   ·refine asr ?_;refine sM ?_;refine sA ?_;refine aops_nil ?_;refine awp_ret ?_;refine retG (.inr rfl) (.cons (.tmp rfl) .nil) (VShift.of1 (AV.Imp.refl _) (.nil _)) ⟨congrArg (fun x:(Int)=>(AV.int x)) (show _=(idxF (fun b=>Sv.same s b) l) from ?_),rfl⟩;rw [idxF_at _ l k (by assumption) (by assumption) hinv]
   ·refine awp_skip ?_;refine awp_region ?_;refine sY ?_ (hb:=by omega);refine sM ?_;refine aops_nil ?_;refine⟨k+1,?_,?_,Weak.of2 (by (repeat (first|exact .nil _|refine .cons rfl (by exact AV.Imp.refl _) ?_));done) (by (repeat (exact .refl _));done)⟩
    ·refine⟨by omega,?_⟩;intro i hi hik;by_cases e:i=k
     ·subst e;simp_all [Sv.same]
     ·exact hinv i hi (by omega)
    ·omega
  ·simp only [nf] at h1;refine awp_exit ?_;refine asr ?_;refine sA ?_;refine aops_nil ?_;refine awp_ret ?_;refine retG (.inr rfl) (.cons (.tmp rfl) .nil) (VShift.of1 (AV.Imp.refl _) (.nil _)) ⟨congrArg (fun x:(Int)=>(AV.int x)) (show _=(idxF (fun b=>Sv.same s b) l) from ?_),rfl⟩;rw [idxF_no _ l (fun i hi=>hinv i hi (by omega))]
theorem containsS_c (l:List ByteArray) (s:ByteArray) (hl:l.length≤1000000):ACalls Tryz.prog 97 [(AV.sl 1 (List.map encStV l)),(AV.val (.string s))] [] (fun v st=>v=(AV.bool (decide (0≤idxF (fun b=>Sv.same s b) l)))∧st=[]):=by
  refine acalls_body Tryz.func97 (by kernel_rfl) rfl Tryz.ntmps97 (le_ rfl) ?_;rw [Tryz.results97];refine asr ?_;refine sA ?_;refine aops_nil ?_;refine asr ?_;refine sM ?_;refine sM ?_;refine aops_call (blt_lt rfl) (.plain rfl) (.cons (.imp (.plain rfl) (Sl.imp (enc:=encStV))) (.cons (.plain rfl) .nil)) (ACalls.here (indexS_c _ _ (by assumption)) ?_);refine st_p (fun _=>by exact y_geq (.plain rfl) (.plain rfl)) rfl ?_;refine sA ?_;refine aops_nil ?_;refine awp_ret ?_;refine retG (.inr rfl) (.cons (.tmp rfl) .nil) (VShift.of1 (AV.Imp.refl _) (.nil _)) ⟨congrArg (fun x:(Bool)=>(AV.bool x)) (show _=(decide (0≤idxF (fun b=>Sv.same s b) l)) from ?_),rfl⟩;rfl
theorem names_c (e:Pn.Ex) (h:Pn.chkE e=0):ACalls Tryz.prog 96 [.agg (encE e)] [] (fun v st=> ∃ l:List ByteArray,v= .sl 1 (l.map encStV)∧st=[]∧l.length≤100∧ ∀ x,x∈l↔x∈Pn.nmE e):=by
  refine acallsX_body Tryz.func96 (by kernel_rfl) rfl Tryz.ntmps96 (le_ rfl) ?_;rw [Tryz.results96];have hlen:=Pn.chkE_len h;have hnl:=Pn.nmK_len e (Pn.ptE e).length;rw [Pn.nmK_all] at hnl;refine awx_seq ?_;refine awx_region rfl ?_;refine sB fun n1=> ?_;refine sA ?_;refine aops_nil ?_;refine awx_seq ?_;refine awx_seq ?_;refine awx_region rfl ?_;refine sW .here ?_;refine aops_call (blt_lt rfl) (.plain rfl) (.cons (.imp (.plain rfl) (AV.Imp.agg (RowOf.imp (enc:=encE)))) .nil) (ACalls.here (chkE_c e) ?_);refine sR ?_;refine aops_nil ?_;refine awx_cond rfl (fun h1=> ?_) (fun h1=> ?_)
  ·simp [h] at h1
  ·simp only [nf] at h1;refine awx_skip ?_;refine awx_seq ?_;refine awx_region rfl ?_;refine sC fun n2=> ?_;refine aops_nil ?_;refine awx_seq ?_;refine awx_seq ?_;refine awx_weak (Weak.trans (Weak.vec0 []) (Weak.items2 (st':= .cells n2 [.vec 1 none 0]:: .vec none []::[.cells n1 _]) (by (repeat (first|exact .refl _|apply ItLe2.cells (by exact k1) (by repeat (first|exact .nil|refine .cons (by exact AV.Imp.nil_vec) ?_))));done))) ?_;refine awx_region rfl ?_;refine sW k2 ?_;refine aops_call (blt_lt rfl) (.plain rfl) (.cons (.plain rfl) .nil) (ACalls.frame (st1:=[]) (parts_c e) (List.Perm.refl _) ?_);rintro v st ⟨bi,rfl,rfl⟩;refine aops_nil ?_;refine awx_block ?_;refine awx_rangeFunc rfl fun iL iD T fn D RS hRS=> ?_;refine ACalls.frame (partsK_c e (Pn.chkE_vd h).2 bi (.yld iL _ _ T) (fun k st=> ∃ t,st=Aw.Item.raw iL (RS .ready none)::[.cells n2 [.vec 1 t (Pn.nmK e k).length],.vec t ((Pn.nmK e k).map strV)]) (fun st=>False) (Aw.Item.raw iL (RS .ready none)::[.cells n2 [.vec 1 none (Pn.nmK e 0).length],.vec none ((Pn.nmK e 0).map strV)]) ⟨none,rfl⟩ ?_) (Takes.perm (by apply Takes.cons (by exact k2);apply Takes.cons (by exact .here);apply Takes.cons (by exact k1);apply Takes.cons (by exact k1);exact .nil _)) ?_
   ·rintro k hk st ⟨t,rfl⟩;refine AYields.round hRS (by decide) rfl (fun lb=> ?_);refine awx_region rfl ?_;refine sC fun n5=> ?_;refine st_s (fun _=>by exact y_storeW (by rfl) rfl (.plain rfl) (.plain rfl) (by exact .here) (by rfl)) ?_;refine aops_nil ?_;refine⟨rfl,?_⟩;refine awx_block ?_;refine awx_seq ?_;refine awx_region rfl ?_;refine sF ?_;refine sL .here ?_;refine sQ ?_;refine aops_nil ?_;refine awx_cond rfl (fun h2=> ?_) (fun h2=> ?_)
    ·simp only [nf] at h2;have hkk:=Pn.nmK_t hk (by assumption);refine awx_region rfl ?_;refine sL k1 ?_;refine sF ?_;refine sL .here ?_;refine st_p (fun _=>by exact y_buildSlice (.cons (.plain rfl) inferInstance (by rfl) .nil) rfl (le_ rfl)) rfl ?_;refine st_n (fun _=>by exact y_vappend (xs:=(Pn.nmK e k).map strV) (by rfl) (by rfl) (.plain rfl) (by rw [List.length_map,Nat.mul_one]) (.plain rfl) (by simp) (by have:=Pn.nmK_len e k;simp;omega) (by exact k2)) rfl fun nv=> ?_;refine st_s (fun _=>by exact y_storeW (by rfl) rfl (.plain rfl) (.plain rfl) (by exact u2) (by rfl)) ?_;refine aops_weak (Weak.items2 (st':=[.cells n2 [.vec 1 (some nv) _],.vec (some nv) _]) (by (repeat (first|exact .nil _|apply ItLe2.cons (by first|exact .here|exact k2)));done)) ?_;refine aops_nil ?_;refine⟨true,rfl,fun _=>⟨some nv,?_⟩,fun h=>by cases h⟩;rw [hkk,List.length_append,List.map_append];rfl
    ·simp only [nf] at h2;have hkk:=Pn.nmK_f hk (by assumption);refine awx_weak (Weak.items2 (st':=[.cells n2 [.vec 1 t (Pn.nmK e k).length],.vec t ((Pn.nmK e k).map strV)]) (by (repeat (first|exact .nil _|apply ItLe2.cons (by exact k1)));done)) ?_;refine awx_skip ?_;refine⟨true,rfl,fun _=>⟨t,?_⟩,fun h=>by cases h⟩;rw [hkk]
   rintro v st' ⟨stx,rfl,hx⟩;rcases hx with ⟨tk,rfl⟩|hx;rotate_left
   ·exact hx.elim
   refine⟨.ready,none,_,Take.perm (.there .here),by simp,?_⟩;rw [Pn.nmK_all];refine awx_seq ?_;refine awx_region rfl ?_;refine sL k1 ?_;refine aops_call (blt_lt rfl) (.plain rfl) (.cons (.plain rfl) .nil) (ACalls.updP (its:=[.vec tk _]) (by apply Takes.cons (by exact k2);exact .nil _) (sortS_c tk (Pn.nmE e) (by omega)) ?_);rintro v st ⟨rfl,l1,rfl,hl1,hm1⟩;refine aops_nil ?_;refine awx_seq ?_;refine awx_region rfl ?_;refine sL k2 ?_;rw [←hl1];refine aops_call (blt_lt rfl) (.plain rfl) (.cons (.plain rfl) .nil) (ACalls.updP (its:=[.vec tk _]) (by apply Takes.cons (by exact .here);exact .nil _) (compS_c tk l1 (by omega)) ?_);rintro v st ⟨l2,rfl,rfl,hl2,hm2⟩;refine sA ?_;refine aops_nil ?_;refine awx_ret ?_;refine retX (.inr rfl) (Takes.perm (by apply Takes.cons (by exact k2);exact .nil _)) (.cons (.tmp rfl) .nil) (VShift.drop) ⟨l2,rfl,rfl,by omega,fun x=>(hm2 x).trans (hm1 x)⟩
end Go.Proofs
namespace Go.Aw
section
variable {P:Program} {σ:Fr} {st:List Item} {i:Nat} {d:Option Tmp} {ty:TypeId} {pos:String} {after:Array Edge} {gd:Option (Nat×Bool)} {w:World}
theorem fill_congr {f f':Nat→Option (Nat×Nat)}: ∀ {l:List (Nat×Value)} {cs:Array Value},(∀ x∈l,f x.1=f' x.1)→Instr.fill f cs l=Instr.fill f' cs l
  | [],cs,_=>rfl
  | (i,v)::r,cs,h=>by
   have h1:=h (i,v) (List.mem_cons_self ..);simp only at h1;unfold Instr.fill;rw [h1];cases f' i with
   |none=>rfl
   |some p=>
    obtain⟨off,size⟩:=p;dsimp only;split
    ·rfl
    ·exact fill_congr fun x hx=>h x (List.mem_cons_of_mem _ hx)
theorem y_buildArr {T E len sz:Nat} {parts:Array (Nat×Operand)} {zs:List Value} {qs:List (Nat×List AV)} {out:List AV} [ht:ArrayT P T len E sz] [hz:ZeroT P T zs] (hp:PartsB σ ((List.range len).map fun i=>(i*sz,sz)) parts.toList qs)
  (hl:(parts.toList.all fun q=>decide (q.1<len))=true)
  (hfit:(qs.all fun q=>decide (q.1+q.2.length≤zs.length))=true) (ho:fillA (zs.map .val) qs=out):Yields P ⟨d,.build T parts,ty,pos,after,gd⟩ σ st i (.agg out) st:=fun F g a w hw hi hs=>by
  obtain⟨z,hzr,hzc⟩:=zero_spec (P:=P) (w:=w) (T:=T);obtain⟨us,e,k1,k2⟩:=fill_parts hs hp (fun x hx=>by simp only [Op.operands,List.mem_toArray];exact List.mem_map.2 ⟨x,hx,rfl⟩) (holdsL_vals (g:=g) zs) (fun u hu=>by have:=hz.one;rw [List.all_eq_true] at this;exact this u hu)
   (fun q hq=>by rw [List.all_eq_true] at hfit;simpa using hfit q hq)
  subst ho;refine goes_value (u:= .agg us.toArray) ?_ ⟨g,Ghost.to.refl g i,hw,AV.agg_holds.2 ⟨us,rfl,k1,k2⟩⟩;have e':Instr.fill (fun i=>some (i*sz,sz)) zs.toArray (parts.map fun x=>(x.1,a.eval x.2)).toList=some us.toArray:=by
   rw [←e];rw [show (parts.map fun x=>(x.1,a.eval x.2)).toList=parts.toList.map fun x=>(x.1,a.eval x.2) by simp];refine fill_congr fun x hx=> ?_;obtain⟨y,hy,rfl⟩:=List.mem_map.1 hx;rw [List.all_eq_true] at hl;have:=hl y hy;rw [decide_eq_true_eq] at this;simp [this]
  obtain⟨inf,z',hinf,hsz⟩: ∃ (inf:TypeInfo) (x:Unit),P.info? E=some inf∧inf.size=sz:=by
   have h:=ht.hsize;unfold sizeB at h;cases hi:P.info? E with
   |none=>rw [hi] at h;cases h
   |some inf=>rw [hi] at h;exact⟨inf,(),rfl,by simpa using h⟩
  have hsize:(sizeOf E).run P w= .ok sz w:=by simp [sizeOf,typeInfo,hinf,hsz]
  simp only [execOp,Instr.build,Sem.run_bind,hzr,Result.andThen_ok,hzc,run_underlying ht.und,hsize];simp only [e'];rfl
theorem y_andK {T T':TypeId} {x y:Operand} {a b c:Value} (hx:Ev σ x (.val a)) (hy:Ev σ y (.val b)) (h1: ∀ w,(binOp .and T a b).run P w= .ok c w):Yields P ⟨d,.binOp .and T x y T',ty,pos,after,gd⟩ σ st i (.val c) st:=fun F g ac w hw hi hs=>
  goes_value (u:=c) (by simp [execOp,AV.val_holds.1 (hx.holds hs (by simp [Op.operands])),AV.val_holds.1 (hy.holds hs (by simp [Op.operands])),eqGuard,h1]) ⟨g,Ghost.to.refl g i,hw,AV.val_self _⟩
theorem y_orK {T T':TypeId} {x y:Operand} {a b c:Value} (hx:Ev σ x (.val a)) (hy:Ev σ y (.val b)) (h1: ∀ w,(binOp .or T a b).run P w= .ok c w):Yields P ⟨d,.binOp .or T x y T',ty,pos,after,gd⟩ σ st i (.val c) st:=fun F g ac w hw hi hs=>
  goes_value (u:=c) (by simp [execOp,AV.val_holds.1 (hx.holds hs (by simp [Op.operands])),AV.val_holds.1 (hy.holds hs (by simp [Op.operands])),eqGuard,h1]) ⟨g,Ghost.to.refl g i,hw,AV.val_self _⟩
theorem y_shlK {T T':TypeId} {x y:Operand} {a b c:Value} (hx:Ev σ x (.val a)) (hy:Ev σ y (.val b)) (h1: ∀ w,(binOp .shl T a b).run P w= .ok c w):Yields P ⟨d,.binOp .shl T x y T',ty,pos,after,gd⟩ σ st i (.val c) st:=fun F g ac w hw hi hs=>
  goes_value (u:=c) (by simp [execOp,AV.val_holds.1 (hx.holds hs (by simp [Op.operands])),AV.val_holds.1 (hy.holds hs (by simp [Op.operands])),eqGuard,h1]) ⟨g,Ghost.to.refl g i,hw,AV.val_self _⟩
theorem y_shrK {T T':TypeId} {x y:Operand} {a b c:Value} (hx:Ev σ x (.val a)) (hy:Ev σ y (.val b)) (h1: ∀ w,(binOp .shr T a b).run P w= .ok c w):Yields P ⟨d,.binOp .shr T x y T',ty,pos,after,gd⟩ σ st i (.val c) st:=fun F g ac w hw hi hs=>
  goes_value (u:=c) (by simp [execOp,AV.val_holds.1 (hx.holds hs (by simp [Op.operands])),AV.val_holds.1 (hy.holds hs (by simp [Op.operands])),eqGuard,h1]) ⟨g,Ghost.to.refl g i,hw,AV.val_self _⟩
theorem shrK (T:TypeId): ∀ q b:Int,0≤q∧q≤3→0≤b∧b≤1→ ∀ w,(binOp .shr T (.int .i64 q) (.int .i64 b)).run P w= .ok (.int .i64 (q / 2 ^ b.toNat)) w:=by
  intro q b hq hb w;have h1:q=0∨q=1∨q=2∨q=3:=by omega
  have h2:b=0∨b=1:=by omega
  rcases h1 with rfl|rfl|rfl|rfl<;>rcases h2 with rfl|rfl<;>rfl
theorem and1K (T:TypeId): ∀ q:Int,0≤q∧q≤3→ ∀ w,(binOp .and T (.int .i64 q) (.int .i64 1)).run P w= .ok (.int .i64 (q % 2)) w:=by
  intro q hq w;have h1:q=0∨q=1∨q=2∨q=3:=by omega
  rcases h1 with rfl|rfl|rfl|rfl<;>rfl
theorem and2K (T:TypeId): ∀ q:Int,0≤q∧q≤3→ ∀ w,(binOp .and T (.int .i64 q) (.int .i64 2)).run P w= .ok (.int .i64 (q / 2*2)) w:=by
  intro q hq w;have h1:q=0∨q=1∨q=2∨q=3:=by omega
  rcases h1 with rfl|rfl|rfl|rfl<;>rfl
theorem shlK (T:TypeId): ∀ b:Int,0≤b∧b≤1→ ∀ w,(binOp .shl T (.int .i64 1) (.int .i64 b)).run P w= .ok (.int .i64 (b+1)) w:=by
  intro b hb w;have h2:b=0∨b=1:=by omega
  rcases h2 with rfl|rfl<;>rfl
def orI (q b:Int):Int:=if b=1 then (if q % 2=0 then q+1 else q) else (if q / 2 % 2=0 then q+2 else q)
theorem orK (T:TypeId): ∀ q b:Int,0≤q∧q≤3→b=1∨b=2→ ∀ w,(binOp .or T (.int .i64 q) (.int .i64 b)).run P w= .ok (.int .i64 (orI q b)) w:=by
  intro q b hq hb w;have h1:q=0∨q=1∨q=2∨q=3:=by omega
  rcases h1 with rfl|rfl|rfl|rfl<;>rcases hb with rfl|rfl<;>rfl
end
end Go.Aw
namespace Pn
def nx:ByteArray:=⟨#[120]⟩
def ny:ByteArray:=⟨#[121]⟩
def hin (k:Int):Int:=([0,0,1,1,1,1,1,1,2,2,1]:List Int).getD k.toNat 0
def hout (k:Int):Int:=([0,1,1,1,1,1,1,2,1,1,0]:List Int).getD k.toNat 0
def hleast (k:Int):Int:=([0,0,0,0,1,0,0,0,0,0,0]:List Int).getD k.toNat 0
def hmost (k:Int):Int:=([0,0,0,0,100,100,200,0,0,0,0]:List Int).getD k.toNat 0
def hkind (k:Int):Int:=([0,0,1,2,0,0,0,2,0,1,0]:List Int).getD k.toNat 0
def hnames (k:Int):List ByteArray:=([[],[],[nx],[nx],[],[],[],[nx],[],[nx,ny],[]]:List (List ByteArray)).getD k.toNat []
theorem kinds {k:Int} (h:1≤k∧k≤10):k=1∨k=2∨k=3∨k=4∨k=5∨k=6∨k=7∨k=8∨k=9∨k=10:=by omega
theorem hnames_len (k:Int):(hnames k).length≤2:=by
  unfold hnames;generalize k.toNat=n
  match n with
  |0|1|2|3|4|5|6|7|8|9|10=>exact (by decide)
  |n+11=>exact Nat.zero_le _
theorem hio {k:Int} (h:1≤k∧k≤10):(0≤hin k∧hin k≤2)∧(0≤hout k∧hout k≤2)∧(0≤hleast k∧hleast k≤1)∧(0≤hmost k∧hmost k≤200)∧(0≤hkind k∧hkind k≤2):=by
  rcases kinds h with h|h|h|h|h|h|h|h|h|h<;>subst h<;>decide
def bindM (ns:List ByteArray) (vs:List Int):List Bd:=List.zipWith (fun n v=>⟨n,1,v⟩) ns vs
theorem bindM_succ (ns:List ByteArray) (vs:List Int) (k:Nat) (hk:k<ns.length) (hv:k<vs.length):bindM (ns.take (k+1)) vs=bindM (ns.take k) vs++[⟨ns[k],1,vs[k]⟩]:=by
  unfold bindM;refine List.ext_getElem? fun i=> ?_;rw [List.getElem?_append,List.length_zipWith,List.length_take,Nat.min_eq_left (by omega),Nat.min_eq_left (by omega)];split
  ·rename_i h;rw [List.getElem?_zipWith,List.getElem?_zipWith,List.getElem?_take,List.getElem?_take,if_pos h,if_pos (by omega)]
  ·rename_i h;rw [List.getElem?_zipWith,List.getElem?_take];rcases Nat.lt_or_ge k i with h2|h2
   ·rw [if_neg (by omega),List.getElem?_eq_none (l:=[_]) (by rw [List.length_singleton];omega)]
   ·obtain rfl:i=k:=by omega
    rw [if_pos (by omega),List.getElem?_eq_getElem hk,List.getElem?_eq_getElem hv,Nat.sub_self];rfl
def inN (ns:List ByteArray) (s:ByteArray):Bool:=decide (0≤Wl.idxF (fun b=>Sv.same s b) ns)
def chkX (k:Int) (e:Ex):Int:=
  if chkE e≠0 then chkE e else if (nmE e).any (fun s=> !inN (hnames k) s)=true then 5
  else if (typeE e (bindM (hnames k) [0,0])).2≠0∨(typeE e (bindM (hnames k) [0,0])).1≠hkind k then 15 else 0
def noneX (e:Ex):Bool:=decide (e.kind=0) && decide (e.op=0) && decide (e.name.size=0) && decide (e.value=0) && decide (e.args.length=0)
def bad1 (x:Sg):Bool:=(decide (hmost x.kind=0) && !decide (x.size=0))|| (decide (hkind x.kind=0) && !noneX x.expr)|| (!decide (x.kind=1) && decide (0<x.items.length))
def sgchk (x:Sg):Int:=
  if x.kind<1∨10<x.kind then 8
  else if bad1 x=true then 1
  else if x.size<hleast x.kind∨hmost x.kind<x.size then 2
  else if 200<x.items.length then 4
  else if x.items.any (fun n=> !num n)=true then 2
  else if hkind x.kind=0 then 0 else chkX x.kind x.expr
def sinp (x:Sg):Int:=if sgchk x≠0 then 0 else hin x.kind
def sout (x:Sg):Int:=if sgchk x≠0 then 0 else hout x.kind
def sbnd (x:Sg):Int×Int:=
  if x.kind=1 then (x.items.length,0) else if x.kind=6 then (x.size,0) else if x.kind=8 then (1,2) else if x.kind=9 then (3,1) else if x.kind=4 then (0,x.size - 1) else (0,0)
def mgBad (l:List Int) (i:Nat):Bool:=decide (l.getD i default<0)||decide (1<l.getD i default)|| (decide (0<(i:Int)) && decide (l.getD i default≤l.getD (i - 1) default))
def mgOk (l:List Int):Bool:=(List.range l.length).all fun i=> !mgBad l i
theorem mgOk_bad {l:List Int} {k:Nat} (hk:k<l.length) (h:mgBad l k=true):mgOk l=false:=by
  unfold mgOk;rw [List.all_eq_false];exact⟨k,List.mem_range.2 hk,by simp [h]⟩
theorem mgOk_good {l:List Int} (h: ∀ i,i<l.length→mgBad l i=false):mgOk l=true:=by
  unfold mgOk;rw [List.all_eq_true];exact fun i hi=>by rw [h i (List.mem_range.1 hi)];rfl
def sval (x:Sg) (s:Ss):Bool:=
  if s.count<0∨(sbnd x).1<s.count∨(sbnd x).2<s.held.length then false
  else if s.held.any (fun n=> !num n)=true then false
  else if x.kind=4 then !s.ended||decide ((s.held.length:Int)=0)
  else if x.kind=8 then mgOk s.held && (s.ended==decide ((s.held.length:Int)=2))
  else if x.kind=9 then (s.ended==decide (s.count=3)) && (decide (s.count<2)||decide ((s.held.length:Int)=0))
  else true
def sended (x:Sg) (s:Ss) (i:Int):Bool:=
  if x.kind=8 then decide (0≤Wl.idxI s.held i) else if x.kind=9 then decide (s.count / 2 ^ i.toNat % 2=1) else s.ended
def sneed (x:Sg) (s:Ss):List Int×Int:=
  if sgchk x≠0 then ([],sgchk x) else if sval x s=false then ([],1)
  else if s.ended=true∨x.kind=1 then ([],0)
  else if x.kind=8∧sended x s s.count=true then ([1 - s.count],0)
  else if x.kind=8 then ([s.count],0)
  else if x.kind=9∧(sended x s 0=true∨0<s.held.length) then ([1],0)
  else ([0],0)
structure Rn where
  s:Ss
  err:Int
  out:List (List Int)
  deriving Inhabited
def rsend (r:Rn) (n:Nat) (v:Int):Rn:=if r.err=0 then {r with out:=r.out.set n (r.out.getD n []++[v])} else r
def reval (x:Sg) (r:Rn) (a b:Int):Rn×Int:=
  ({r with err:=if r.err=0 then (evalE x.expr (bindM (hnames x.kind) [a,b])).2 else r.err},(evalE x.expr (bindM (hnames x.kind) [a,b])).1)
def sumK (l:List Int) (e:Int):Nat→Int×Int
  |0=>(0,e)
  |k+1=>((sumK l e k).1+l.getD k default,if num ((sumK l e k).1+l.getD k default)=false∧(sumK l e k).2=0 then 14 else (sumK l e k).2)
def rsum (r:Rn):Rn:=
  let p:=sumK r.s.held r.err r.s.held.length;let r1:=rsend {r with err:=p.2} 0 p.1
  {r1 with s:={r1.s with held:=[]}}
def rbatch (x:Sg) (r:Rn) (v:Int):Rn:=
  let r1:Rn:={r with s:={r.s with held:=r.s.held++[v]}}
  if (r1.s.held.length:Int)=x.size then rsum r1 else r1
def rrep (r:Rn) (v:Int):Nat→Rn
  |0=>r
  |k+1=>rsend (rrep r v k) 0 v
def rzip (x:Sg) (r:Rn) (i v:Int):Rn:=
  if i=0 then (if r.s.count / 2*2=0 then {r with s:={r.s with held:=[v]}} else r)
  else if (r.s.held.length:Int)=1 then rsend (reval x {r with s:={r.s with held:=[]}} (r.s.held.getD 0 default) v).1 0 (reval x {r with s:={r.s with held:=[]}} (r.s.held.getD 0 default) v).2
  else r
def rcount (r:Rn) (c:Int):Rn:={r with s:={r.s with count:=c}}
def rend (r:Rn):Rn:={r with s:={r.s with ended:=true}}
def rtake (x:Sg) (r:Rn) (i v:Int):Rn:=
  if x.kind=1 then rcount (rsend r 0 (x.items.getD r.s.count.toNat default)) (r.s.count+1)
  else if x.kind=2 then rsend (reval x r v 0).1 0 (reval x r v 0).2
  else if x.kind=3 then (if (reval x r v 0).2=1 then rsend (reval x r v 0).1 0 v else (reval x r v 0).1)
  else if x.kind=4 then rbatch x r v
  else if x.kind=5 then rrep r v x.size.toNat
  else if x.kind=6 then (if r.s.count<x.size then rsend (rcount r (r.s.count+1)) 0 v else r)
  else if x.kind=7 then rsend (reval x r v 0).1 (1 - (reval x r v 0).2).toNat v
  else if x.kind=8 then rcount (rsend r 0 v) (1 - i)
  else if x.kind=9 then rzip x r i v
  else r
def rfin (x:Sg) (r:Rn) (i:Int):Rn:=
  if x.kind=4 then rend (if 0<r.s.held.length then rsum r else r)
  else if x.kind=8 then {r with s:={r.s with held:=(r.s.held++[i]).mergeSort (fun a b=>decide (a≤b)),ended:=decide (((r.s.held++[i]).length:Int)=2)}}
  else if x.kind=9 then {r with s:={r.s with count:=Go.Aw.orI r.s.count (i+1),held:=if i=1 then [] else r.s.held,ended:=decide (Go.Aw.orI r.s.count (i+1)=3)}}
  else rend r
def rnew (x:Sg) (s:Ss):Rn:=⟨s,0,List.replicate (hout x.kind).toNat []⟩
def stake (x:Sg) (s:Ss) (i v:Int):Ss×List (List Int)×Int:=
  if (sneed x s).2≠0 then (S0,[],(sneed x s).2)
  else if s.ended=true∨(x.kind=1∧(i≠ -1∨s.count=x.items.length))∨(x.kind≠1∧ ¬ 0≤Wl.idxI (sneed x s).1 i) then (S0,[],17)
  else if num v=false∨(x.kind=1∧v≠0) then (S0,[],2)
  else if (rtake x (rnew x s) i v).err≠0 then (S0,[],(rtake x (rnew x s) i v).err)
  else ((rtake x (rnew x s) i v).s,(rtake x (rnew x s) i v).out,0)
def sfin (x:Sg) (s:Ss) (i:Int):Ss×List (List Int)×Bool×Int:=
  if (sneed x s).2≠0 then (S0,[],false,(sneed x s).2)
  else if (x.kind=1∧i≠ -1)∨(x.kind≠1∧(i<0∨hin x.kind≤i)) then (S0,[],false,2)
  else if s.ended=true∨(x.kind≠1∧sended x s i=true) then (S0,[],false,17)
  else if (rfin x (rnew x s) i).err≠0 then (S0,[],false,(rfin x (rnew x s) i).err)
  else ((rfin x (rnew x s) i).s,(rfin x (rnew x s) i).out,(rfin x (rnew x s) i).s.ended,0)
end Pn
namespace Go.Aw
open Pn
end Go.Aw
namespace Pn
structure Sgok (x:Sg):Prop where
  kind:1≤x.kind∧x.kind≤10
  bad:bad1 x=false
  size:hleast x.kind≤x.size∧x.size≤hmost x.kind
  size2:0≤x.size∧x.size≤200
  len:x.items.length≤200
  num: ∀ n∈x.items,num n=true
  expr:hkind x.kind≠0→chkX x.kind x.expr=0
theorem sgchk_ok {x:Sg} (h:sgchk x=0):Sgok x:=by
  unfold sgchk at h;split at h
  ·cases h
  ·split at h
   ·cases h
   ·split at h
    ·cases h
    ·split at h
     ·cases h
     ·split at h
      ·cases h
      ·rename_i h1 h2 h3 h4 h5;have hk:1≤x.kind∧x.kind≤10:=by omega
       obtain⟨_,_,a,b,_⟩:=hio hk;refine⟨hk,by simpa using h2,by omega,by omega,by omega,fun n hn=> ?_,fun hne=> ?_⟩
       ·cases hq:Pn.num n with
        |true=>rfl
        |false=>exact absurd (List.any_eq_true.2 ⟨n,hn,by rw [hq];rfl⟩) h5
       ·rw [if_neg hne] at h;exact h
theorem sbnd_bd {x:Sg} (h:Sgok x):(0≤(sbnd x).1∧(sbnd x).1≤200)∧(sbnd x).2≤199:=by
  have h1:=h.size2;have h2:=h.len;have hk:=h.kind;have hs:=h.size;unfold sbnd;split
  ·exact⟨⟨by show 0≤(x.items.length:Int);omega,by show (x.items.length:Int)≤200;omega⟩,by show (0:Int)≤199;decide⟩
  ·split
   ·exact⟨h1,by show (0:Int)≤199;decide⟩
   ·split
    ·decide
    ·split
     ·decide
     ·split
      ·exact⟨by show 0≤(0:Int)∧(0:Int)≤200;decide,by show x.size - 1≤199;omega⟩
      ·decide
theorem sval_ok {x:Sg} {s:Ss} (h:sval x s=true):(0≤s.count∧s.count≤(sbnd x).1)∧(s.held.length:Int)≤(sbnd x).2∧ ∀ n∈s.held,num n=true:=by
  unfold sval at h;split at h
  ·cases h
  ·rename_i h1;refine⟨by omega,by omega,fun n hn=> ?_⟩;split at h
   ·cases h
   ·rename_i h2;cases hq:num n with
    |true=>rfl
    |false=>exact absurd (List.any_eq_true.2 ⟨n,hn,by rw [hq];rfl⟩) h2
theorem sneed_ok {x:Sg} {s:Ss} (h:(sneed x s).2=0):Sgok x∧sval x s=true:=by
  unfold sneed at h;split at h
  ·rename_i h1;exact absurd h h1
  ·split at h
   ·cases h
   ·rename_i h1 h2;exact⟨sgchk_ok (Classical.not_not.1 h1),by simpa using h2⟩
theorem sbnd_k (x:Sg):(x.kind=9→sbnd x=(3,1))∧(x.kind=8→sbnd x=(1,2))∧(x.kind=1→sbnd x=((x.items.length:Int),0))∧(x.kind=4→sbnd x=(0,x.size - 1))∧(x.kind=6→sbnd x=(x.size,0)):=by
  unfold sbnd;refine⟨fun h=> ?_,fun h=> ?_,fun h=> ?_,fun h=> ?_,fun h=> ?_⟩<;>rw [h]<;>rfl
end Pn
namespace Pn
theorem os_cases {α:Type} (os:List α) (n:Nat) (h:n<os.length) (h2:os.length≤2):(∃ p,os=[p]∧n=0)∨(∃ p q,os=[p,q]∧n=0)∨(∃ q p,os=[q,p]∧n=1):=by
  match os,h,h2 with
  | [p],h,_=>exact .inl ⟨p,rfl,by simp at h;exact h⟩
  | [p,q],h,_=>
   have:n=0∨n=1:=by simp at h;omega
   rcases this with e|e
   ·exact .inr (.inl ⟨p,q,rfl,e⟩)
   ·exact .inr (.inr ⟨p,q,rfl,e⟩)
  |_::_::_::_,_,h2=>simp at h2
theorem rsend_t {r:Rn} {n:Nat} {v:Int} (h:r.err=0):rsend r n v=⟨r.s,r.err,r.out.set n (r.out.getD n []++[v])⟩:=by unfold rsend;rw [if_pos h]
theorem rsend_f {r:Rn} {n:Nat} {v:Int} (h: ¬ r.err=0):rsend r n v=r:=by unfold rsend;rw [if_neg h]
theorem rsend_s1 (r:Rn) (n:Nat) (v:Int):(rsend r n v).s=r.s:=by unfold rsend;split<;>rfl
theorem rsend_e1 (r:Rn) (n:Nat) (v:Int):(rsend r n v).err=r.err:=by unfold rsend;split<;>rfl
theorem rsend_s (r:Rn) (n:Nat) (v:Int):(rsend r n v).s=r.s∧(rsend r n v).err=r.err∧(rsend r n v).out.length=r.out.length:=by
  unfold rsend;split<;>simp
end Pn
namespace Go.Aw
open Pn
def encRn (y:Sg) (s:Ss) (o n:Nat) (e:Int):List AV:=[.int y.kind,.int y.size,.int y.expr.kind,.int y.expr.op,.val (.string y.expr.name),.int y.expr.value,.sl 5 (encExs y.expr.args),.sl 1 (y.items.map encI),.sl 1 (s.held.map encI),.int s.count,.bool s.ended,.arr o 0 n,.int e,.int 0]
def ROI (o:Nat) (os:List (Option Nat×List Int)):List Item:= .cells o (os.map fun p=> .grow 1 p.1 (p.2.map encI))::os.map fun p=> .tail p.1
def RNI (r o:Nat) (y:Sg) (rn:Rn) (os:List (Option Nat×List Int)):List Item:= .cells r (encRn y rn.s o os.length rn.err)::ROI o os
def RS (r o:Nat) (y:Sg) (rn:Rn) (st:List Item):Prop:= ∃ os,st=RNI r o y rn os∧rn.out=os.map (·.2)
end Go.Aw
namespace Pn
structure Rok (y:Sg) (rn:Rn):Prop where
  sg:Sgok y
  pos:0<rn.out.length
  two:rn.out.length≤2
  len: ∀ l∈rn.out,l.length≤1000
theorem Rok.send {y:Sg} {rn:Rn} (h:Rok y rn):(rn.err=0→(0:Int)≤0∧(0:Int).toNat<rn.out.length)∧rn.out.length≤2∧ ∀ l∈rn.out,l.length≤100000:=
  ⟨fun _=>⟨Int.le_refl _,h.pos⟩,h.two,fun l hl=>by have:=h.len l hl;omega⟩
theorem Rok.of {y:Sg} {rn rn':Rn} (h:Rok y rn) (e:rn'.out=rn.out):Rok y rn':=⟨h.sg,by rw [e];exact h.pos,by rw [e];exact h.two,by rw [e];exact h.len⟩
theorem sumK_bd (l:List Int) (e:Int) (hl: ∀ n∈l,num n=true): ∀ k,k≤l.length→ -(1099511627776*(k:Int))≤(sumK l e k).1∧(sumK l e k).1≤1099511627776*(k:Int)
  |0,_=>by unfold sumK;exact⟨by simp,by simp⟩
  |k+1,h=>by
   have ih:=sumK_bd l e hl k (by omega);have h1: -1099511627776≤l.getD k default∧l.getD k default≤1099511627776:=by
    rw [List.getD,List.getElem?_eq_getElem (by omega),Option.getD_some];exact num_t.1 (hl _ (List.getElem_mem _))
   unfold sumK;dsimp only;push_cast;omega
theorem sumK_t {l:List Int} {e:Int} {k:Nat} (h:num ((sumK l e k).1+l.getD k default)=false∧(sumK l e k).2=0):(sumK l e (k+1)).2=14:=by rw [sumK];exact if_pos h
theorem sumK_f {l:List Int} {e:Int} {k:Nat} (h: ¬ (num ((sumK l e k).1+l.getD k default)=false∧(sumK l e k).2=0)):(sumK l e (k+1)).2=(sumK l e k).2:=by rw [sumK];exact if_neg h
theorem sumK_1 (l:List Int) (e:Int) (k:Nat):(sumK l e (k+1)).1=(sumK l e k).1+l.getD k default:=rfl
theorem rrep_s (rn:Rn) (v:Int): ∀ k,(rrep rn v k).s=rn.s∧(rrep rn v k).err=rn.err∧(rrep rn v k).out.length=rn.out.length
  |0=>⟨rfl,rfl,rfl⟩
  |k+1=>by
   have ih:=rrep_s rn v k;have:=rsend_s (rrep rn v k) 0 v;rw [rrep];exact⟨this.1.trans ih.1,this.2.1.trans ih.2.1,this.2.2.trans ih.2.2⟩
theorem rsend_len {r:Rn} {n:Nat} {v:Int} {m:Nat} (h: ∀ l∈r.out,l.length≤m): ∀ l∈(rsend r n v).out,l.length≤m+1:=by
  intro l hl;unfold rsend at hl;split at hl
  ·rcases List.mem_or_eq_of_mem_set hl with h1|h1
   ·have:=h l h1;omega
   ·rw [h1,List.length_append,List.length_singleton];rw [List.getD];cases hg:r.out[n]? with
    |none=>simp
    |some x=>have:=h x (List.mem_of_getElem? hg);simp;omega
  ·have:=h l hl;omega
theorem rrep_len {rn:Rn} {v:Int} {m:Nat} (h: ∀ l∈rn.out,l.length≤m): ∀ k,∀ l∈(rrep rn v k).out,l.length≤m+k
  |0=>h
  |k+1=>by
   rw [rrep];exact rsend_len (rrep_len h k)
theorem Rok.rep {y:Sg} {rn:Rn} (h:Rok y rn) (v:Int) {k:Nat} (hk:k≤200):((rrep rn v k).err=0→(0:Int)≤0∧(0:Int).toNat<(rrep rn v k).out.length)∧(rrep rn v k).out.length≤2∧ ∀ l∈(rrep rn v k).out,l.length≤100000:=by
  have hs:=(rrep_s rn v k).2.2;refine⟨fun _=>⟨Int.le_refl _,by rw [hs];exact h.pos⟩,by rw [hs];exact h.two,fun l hl=> ?_⟩;have:=rrep_len h.len k l hl;omega
end Pn
namespace Go.Aw
open Pn
theorem roi_imp: ∀ os:List (Option Nat×List Int),ImpL (os.map fun p=>AV.grow 1 p.1 (p.2.map encI)) ((os.map (·.2)).map fun l=>AV.sl 1 (l.map encI))
  | []=> .nil
  |_::os=> .cons AV.Imp.grow_sl (roi_imp os)
theorem out_flat (l:List (List Int)):(l.map encLI).flatten=l.map fun l=>AV.sl 1 (l.map encI):=by
  induction l with
  |nil=>rfl
  |cons a l ih=>rw [List.map_cons,List.flatten_cons,ih];rfl
theorem Weak.outs {n:Nat} {σ:Fr} {r o i:Nat} {cs:List AV} {os:List (Option Nat×List Int)} {out:List (List Int)} {own:List Item} (hos:out=os.map (·.2)) (hi:cs[i]?=some (.arr o 0 os.length)):Weak n σ (own++(.cells r cs::ROI o os)) σ (.cells r (cs.set i (.sl 1 (out.map encLI)))::own):=by
  subst hos;have h1:Weak n σ (own++(.cells r cs::ROI o os)) σ (.cells o ((os.map (·.2)).map fun l=>AV.sl 1 (l.map encI)):: .cells r cs::own):=by
   refine Weak.trans (Weak.perm (List.perm_append_comm)) ?_;unfold ROI;exact Weak.items2 (.cells (.there .here) (roi_imp os) (.cons .here (.sub (List.sublist_append_right _ _))))
  exact Weak.trans h1 (Weak.freezeC (n:=n) (σ:=σ) (a:=r) (i:=i) (j:=o) (sz:=1) (cs:=cs) (xs:=(os.map (·.2)).map encLI) (pad:=[]) (by intro x hx;obtain⟨b,_,rfl⟩:=List.mem_map.1 hx;rfl) (by rw [hi];simp) (.cons (by rw [out_flat,List.append_nil];exact .here) (.cons .here (.nil own))))
end Go.Aw
set_option maxRecDepth 10000
namespace Go.Proofs
open Go.Aw Wl Pn
theorem num_c (n:Int) :ACalls Tryz.prog 62 [(AV.int n)] [] (fun v st=>v=(AV.bool (Pn.num n))∧st=[]):=by
  refine acalls_body Tryz.func62 (by kernel_rfl) rfl Tryz.ntmps62 (le_ rfl) ?_;rw [Tryz.results62];refine asr ?_;refine sA ?_;refine aops_nil ?_;refine asr ?_;refine sM ?_;refine st_p (fun _=>by exact y_geq (.plain rfl) (.plain rfl)) rfl ?_;refine sM ?_;refine gM ?_;refine gH0 ?_;refine sJ ?_;refine sA ?_;refine aops_nil ?_;refine awp_ret ?_;refine retG (.inr rfl) (.cons (.tmp rfl) .nil) (VShift.of1 (AV.Imp.refl _) (.nil _)) ⟨congrArg (fun x:(Bool)=>(AV.bool x)) (show _=(Pn.num n) from ?_),rfl⟩;rw [Pn.num,Sv.win];all_goals first|rfl|simp_all
theorem notnum70_c (n:Int) :ACalls Tryz.prog 70 [(AV.int n)] [] (fun v st=>v=(AV.bool (!Pn.num n))∧st=[]):=by
  refine acalls_body Tryz.func70 (by kernel_rfl) rfl Tryz.ntmps70 (le_ rfl) ?_;rw [Tryz.results70];refine asr ?_;refine sA ?_;refine aops_nil ?_;refine asr ?_;refine sM ?_;refine aops_call (blt_lt rfl) (.plain rfl) (.cons (.plain rfl) .nil) (ACalls.here (num_c n) ?_);refine sO ?_;refine sA ?_;refine aops_nil ?_;refine awp_ret ?_;refine retG (.inr rfl) (.cons (.tmp rfl) .nil) (VShift.of1 (AV.Imp.refl _) (.nil _)) ⟨congrArg (fun x:(Bool)=>(AV.bool x)) (show _=(!Pn.num n) from ?_),rfl⟩;rfl
theorem notnum171_c (n:Int) :ACalls Tryz.prog 171 [(AV.int n)] [] (fun v st=>v=(AV.bool (!Pn.num n))∧st=[]):=by
  refine acalls_body Tryz.func171 (by kernel_rfl) rfl Tryz.ntmps171 (le_ rfl) ?_;rw [Tryz.results171];refine asr ?_;refine sA ?_;refine aops_nil ?_;refine asr ?_;refine sM ?_;refine aops_call (blt_lt rfl) (.plain rfl) (.cons (.plain rfl) .nil) (ACalls.here (num_c n) ?_);refine sO ?_;refine sA ?_;refine aops_nil ?_;refine awp_ret ?_;refine retG (.inr rfl) (.cons (.tmp rfl) .nil) (VShift.of1 (AV.Imp.refl _) (.nil _)) ⟨congrArg (fun x:(Bool)=>(AV.bool x)) (show _=(!Pn.num n) from ?_),rfl⟩;rfl
theorem bind_c (ns:List ByteArray) (vs:List Int) (hl:ns.length≤vs.length) (hl2:ns.length≤1000000):ACalls Tryz.prog 99 [(AV.sl 1 (List.map encStV ns)),(AV.sl 1 (List.map Go.Aw.encI vs))] [] (fun v st=>v=(AV.sl 3 (List.map encBd (Pn.bindM ns vs)))∧st=[]):=by
  refine acalls_body Tryz.func99 (by kernel_rfl) rfl Tryz.ntmps99 (le_ rfl) ?_;rw [Tryz.results99];refine asr ?_;refine sA ?_;refine aops_nil ?_;refine asr ?_;refine sA ?_;refine aops_nil ?_;refine awp_seq ?_;refine asr ?_;refine sM ?_;refine sN ?_;refine sM ?_;refine aops_nil ?_;refine awp_block ?_;refine awp_loop2 (X:=Nat×Option Nat) [1,8,9] (.cons rfl (.cons rfl (.cons rfl .nil))) (fun σ x=>((5,.grow 3 x.2 ((Pn.bindM (ns.take x.1) vs).map encBd)):Nat×AV)::((10,.int (x.1:Int)):Nat×AV)::σ) (fun R x=> .tail x.2::R) (fun x=>x.1≤ns.length) (fun x=>ns.length - x.1) (0,none) (by exact Weak.of2 (by (repeat (first|exact .nil _|refine .cons rfl (by first|exact AV.Imp.refl _|exact AV.Imp.nil_grow) ?_));done) (by (repeat (first|exact .refl _|apply ItLe2.tail0));done)) (Nat.zero_le _) ?_;rintro⟨k,tok⟩ hk;simp only at hk;have hbl:(Pn.bindM (ns.take k) vs).length≤k:=by unfold Pn.bindM;rw [List.length_zipWith,List.length_take];omega
  dsimp only;refine asr ?_;refine sS ?_;refine aops_nil ?_;refine awp_seq ?_;refine awp_cond rfl (fun h1=> ?_) (fun h1=> ?_)
  ·simp only [nf] at h1;have hkl:k<ns.length:=by omega
   have hbs:=(Pn.bindM_succ ns vs k hkl (by omega)).symm;refine awp_skip ?_;refine awp_seq ?_;refine awp_block ?_;refine asr ?_;refine sM ?_;refine st_p (fun _=>by exact y_indexMap (.plain rfl) (.plain rfl) rfl (by refine⟨?_,?_⟩;(omega);rfl)) rfl ?_;refine sU ?_;refine sA ?_;refine sA ?_;refine aops_nil ?_;refine awp_region ?_;refine sM ?_;refine sM ?_;refine sM ?_;refine sM ?_;refine st_p (fun _=>by exact y_indexMap (.plain rfl) (.plain rfl) rfl (by refine⟨?_,?_⟩;(omega);rfl)) rfl ?_;refine sU ?_;refine st_p (fun _=>by exact y_build (out:=[_,_,_]) (.cons (.plain rfl) inferInstance rfl (.cons (.plain rfl) inferInstance rfl (.cons (.plain rfl) inferInstance rfl .nil))) rfl rfl) rfl ?_;refine st_p (fun _=>by exact y_buildSlice (.cons (.plain rfl) inferInstance (by rfl) .nil) rfl (le_ rfl)) rfl ?_;refine st_append (by rfl) (.plain rfl) (.plain rfl) (by (simp;try omega)) rfl fun tA=> ?_;refine sA ?_;refine aops_nil ?_;refine awp_region ?_;refine sY ?_ (hb:=by omega);refine sM ?_;refine aops_nil ?_;refine⟨(k+1,tA),by show k+1≤_;omega,by show ns.length - (k+1)<ns.length - k;omega,?_⟩;dsimp only;exact Weak.of2 (by (repeat (first|exact .nil _|refine .cons rfl (by first|exact AV.Imp.refl _|exact AV.Imp.grow_of (hbs)) ?_));done) (by (repeat (exact .refl _));done)
  ·simp only [nf] at h1;refine awp_exit ?_;refine asr ?_;refine sM ?_;refine sA ?_;refine aops_nil ?_;refine awp_ret ?_;refine retG (.inr rfl) (.cons (.tmp rfl) .nil) (VShift.of1 (Sl.imp (enc:=encBd)) (.nil _)) ⟨congrArg (fun x:(List (Pn.Bd))=>(AV.sl 3 (List.map encBd x))) (show _=(Pn.bindM ns vs) from ?_),rfl⟩;obtain rfl:k=ns.length:=by omega
   rw [List.take_length]
def hTake (k:Int):AV:=([.val .nilFunc,.val (.func (.func 123) #[] #[]),.val (.func (.func 124) #[] #[]),.val (.func (.func 125) #[] #[]),.val (.func (.func 126) #[] #[]),.val (.func (.func 129) #[] #[]),.val (.func (.func 130) #[] #[]),.val (.func (.func 131) #[] #[]),.clo 133 [.eptr [.val (.func (.func 121) #[] #[])]],.val (.func (.func 134) #[] #[]),.val (.func (.func 136) #[] #[])]:List AV).getD k.toNat (.val .nilFunc)
def hEnd (k:Int):AV:=([.val .nilFunc,.val (.func (.func 122) #[] #[]),.val (.func (.func 122) #[] #[]),.val (.func (.func 122) #[] #[]),.val (.func (.func 127) #[] #[]),.val (.func (.func 122) #[] #[]),.val (.func (.func 122) #[] #[]),.val (.func (.func 122) #[] #[]),.val (.func (.func 132) #[] #[]),.val (.func (.func 135) #[] #[]),.val (.func (.func 122) #[] #[])]:List AV).getD k.toNat (.val .nilFunc)
def encHd (k:Int):List AV:=[.int (Pn.hin k),.int (Pn.hout k),.int (Pn.hleast k),.int (Pn.hmost k),.int (Pn.hkind k),.sl 1 ((Pn.hnames k).map encStV),hTake k,hEnd k]
def handT:List AV:=[.int 0,.int 0,.int 0,.int 0,.int 0,.sl 1 [],.val .nilFunc,.val .nilFunc,.int 0,.int 1,.int 0,.int 0,.int 0,.sl 1 [],.val (.func (.func 123) #[] #[]),.val (.func (.func 122) #[] #[]),.int 1,.int 1,.int 0,.int 0,.int 1,.sl 1 [[.val (.string ⟨#[120]⟩)]],.val (.func (.func 124) #[] #[]),.val (.func (.func 122) #[] #[]),.int 1,.int 1,.int 0,.int 0,.int 2,.sl 1 [[.val (.string ⟨#[120]⟩)]],.val (.func (.func 125) #[] #[]),.val (.func (.func 122) #[] #[]),.int 1,.int 1,.int 1,.int 100,.int 0,.sl 1 [],.val (.func (.func 126) #[] #[]),.val (.func (.func 127) #[] #[]),.int 1,.int 1,.int 0,.int 100,.int 0,.sl 1 [],.val (.func (.func 129) #[] #[]),.val (.func (.func 122) #[] #[]),.int 1,.int 1,.int 0,.int 200,.int 0,.sl 1 [],.val (.func (.func 130) #[] #[]),.val (.func (.func 122) #[] #[]),.int 1,.int 2,.int 0,.int 0,.int 2,.sl 1 [[.val (.string ⟨#[120]⟩)]],.val (.func (.func 131) #[] #[]),.val (.func (.func 122) #[] #[]),.int 2,.int 1,.int 0,.int 0,.int 0,.sl 1 [],.clo 133 [.eptr [.val (.func (.func 121) #[] #[])]],.val (.func (.func 132) #[] #[]),.int 2,.int 1,.int 0,.int 0,.int 1,.sl 1 [[.val (.string ⟨#[120]⟩)],[.val (.string ⟨#[121]⟩)]],.val (.func (.func 134) #[] #[]),.val (.func (.func 135) #[] #[]),.int 1,.int 0,.int 0,.int 0,.int 0,.sl 1 [],.val (.func (.func 136) #[] #[]),.val (.func (.func 122) #[] #[])]
theorem handlers_c:ACalls Tryz.prog 86 [] [] (fun v st=>v= .agg handT∧st=[]):=by
  refine acalls_body Tryz.func86 (by kernel_rfl) rfl Tryz.ntmps86 (le_ rfl) ?_;rw [Tryz.results86];refine asr ?_;refine sC fun n0=> ?_;refine aops_nil ?_;refine asr ?_;refine st_p (fun _=>by exact y_buildSlice (.cons (.plain rfl) inferInstance (by rfl) .nil) rfl (le_ rfl)) rfl ?_;refine st_p (fun _=>by exact y_buildSlice (.cons (.plain rfl) inferInstance (by rfl) (.cons (.plain rfl) inferInstance (by rfl) .nil)) rfl (le_ rfl)) rfl ?_;refine sA ?_;refine sA ?_;refine aops_nil ?_;refine asr ?_;refine sC fun n3=> ?_;refine st_s (fun _=>by exact y_storeW (by rfl) rfl (.plain rfl) (.plain rfl) (by exact .here) (by rfl)) ?_;refine aops_nil ?_;refine awp_seq ?_;refine awp_weak (Weak.freezeP (t:=3) (cs:=[.val (.func (.func 121) #[] #[])]) rfl .here) ?_;refine awp_region ?_;refine sA ?_;refine aops_nil ?_;refine asr ?_;refine sM ?_;refine st_p (fun _=>by exact y_build (out:=[_,_,_,_,_,_,_,_]) (.cons (.plain rfl) inferInstance rfl (.cons (.plain rfl) inferInstance rfl (.cons (.plain rfl) inferInstance rfl .nil))) rfl rfl) rfl ?_;refine sM ?_;refine sM ?_;refine st_p (fun _=>by exact y_build (out:=[_,_,_,_,_,_,_,_]) (.cons (.plain rfl) inferInstance rfl (.cons (.plain rfl) inferInstance rfl (.cons (.plain rfl) inferInstance rfl (.cons (.plain rfl) inferInstance rfl (.cons (.plain rfl) inferInstance rfl (.cons (.plain rfl) inferInstance rfl .nil)))))) rfl rfl) rfl ?_;refine sM ?_;refine sM ?_;refine st_p (fun _=>by exact y_build (out:=[_,_,_,_,_,_,_,_]) (.cons (.plain rfl) inferInstance rfl (.cons (.plain rfl) inferInstance rfl (.cons (.plain rfl) inferInstance rfl (.cons (.plain rfl) inferInstance rfl (.cons (.plain rfl) inferInstance rfl (.cons (.plain rfl) inferInstance rfl .nil)))))) rfl rfl) rfl ?_;refine st_p (fun _=>by exact y_build (out:=[_,_,_,_,_,_,_,_]) (.cons (.plain rfl) inferInstance rfl (.cons (.plain rfl) inferInstance rfl (.cons (.plain rfl) inferInstance rfl (.cons (.plain rfl) inferInstance rfl (.cons (.plain rfl) inferInstance rfl (.cons (.plain rfl) inferInstance rfl .nil)))))) rfl rfl) rfl ?_;refine sM ?_;refine st_p (fun _=>by exact y_build (out:=[_,_,_,_,_,_,_,_]) (.cons (.plain rfl) inferInstance rfl (.cons (.plain rfl) inferInstance rfl (.cons (.plain rfl) inferInstance rfl (.cons (.plain rfl) inferInstance rfl (.cons (.plain rfl) inferInstance rfl .nil))))) rfl rfl) rfl ?_;refine sM ?_;refine st_p (fun _=>by exact y_build (out:=[_,_,_,_,_,_,_,_]) (.cons (.plain rfl) inferInstance rfl (.cons (.plain rfl) inferInstance rfl (.cons (.plain rfl) inferInstance rfl (.cons (.plain rfl) inferInstance rfl (.cons (.plain rfl) inferInstance rfl .nil))))) rfl rfl) rfl ?_;refine sM ?_;refine sM ?_;refine st_p (fun _=>by exact y_build (out:=[_,_,_,_,_,_,_,_]) (.cons (.plain rfl) inferInstance rfl (.cons (.plain rfl) inferInstance rfl (.cons (.plain rfl) inferInstance rfl (.cons (.plain rfl) inferInstance rfl (.cons (.plain rfl) inferInstance rfl (.cons (.plain rfl) inferInstance rfl .nil)))))) rfl rfl) rfl ?_;refine st_p (fun _=>by exact y_makeFunc (.cons (.plain rfl) .nil)) rfl ?_;refine st_p (fun _=>by exact y_build (out:=[_,_,_,_,_,_,_,_]) (.cons (.plain rfl) inferInstance rfl (.cons (.plain rfl) inferInstance rfl (.cons (.plain rfl) inferInstance rfl (.cons (.plain rfl) inferInstance rfl .nil)))) rfl rfl) rfl ?_;refine sM ?_;refine st_p (fun _=>by exact y_build (out:=[_,_,_,_,_,_,_,_]) (.cons (.plain rfl) inferInstance rfl (.cons (.plain rfl) inferInstance rfl (.cons (.plain rfl) inferInstance rfl (.cons (.plain rfl) inferInstance rfl (.cons (.plain rfl) inferInstance rfl (.cons (.plain rfl) inferInstance rfl .nil)))))) rfl rfl) rfl ?_;refine sM ?_;refine st_p (fun _=>by exact y_build (out:=[_,_,_,_,_,_,_,_]) (.cons (.plain rfl) inferInstance rfl (.cons (.plain rfl) inferInstance rfl (.cons (.plain rfl) inferInstance rfl .nil))) rfl rfl) rfl ?_;refine st_p (fun _=>by exact y_buildArr (out:=[_,_,_,_,_,_,_,_,_,_,_,_,_,_,_,_,_,_,_,_,_,_,_,_,_,_,_,_,_,_,_,_,_,_,_,_,_,_,_,_,_,_,_,_,_,_,_,_,_,_,_,_,_,_,_,_,_,_,_,_,_,_,_,_,_,_,_,_,_,_,_,_,_,_,_,_,_,_,_,_,_,_,_,_,_,_,_,_]) (.cons (.plain rfl) inferInstance rfl (.cons (.plain rfl) inferInstance rfl (.cons (.plain rfl) inferInstance rfl (.cons (.plain rfl) inferInstance rfl (.cons (.plain rfl) inferInstance rfl (.cons (.plain rfl) inferInstance rfl (.cons (.plain rfl) inferInstance rfl (.cons (.plain rfl) inferInstance rfl (.cons (.plain rfl) inferInstance rfl (.cons (.plain rfl) inferInstance rfl (.nil))))))))))) rfl rfl rfl) rfl ?_;refine st_s (fun _=>by exact y_storeW (by rfl) rfl (.plain rfl) (.plain rfl) (by exact .here) (by rfl)) ?_;refine aops_nil ?_;refine awp_ret ?_;exact retG (.inr rfl) (.cons (res_cellW rfl (by exact .here) (by rfl)) .nil) (VShift.of1 (show AV.Imp _ (.agg handT) from AV.Imp.agg (by unfold handT;repeat (first|exact .nil|refine .cons (by first|exact AV.Imp.refl _|exact Rd.imp) ?_))) (.nil _)) ⟨rfl,rfl⟩
theorem known_c (k:Int) (hk:1≤k∧k≤10):ACalls Tryz.prog 57 [.int k] [] (fun v st=>v= .tup [.agg (encHd k),.bool true]∧st=[]):=by
  refine acalls_body Tryz.func57 (by kernel_rfl) rfl Tryz.ntmps57 (le_ rfl) ?_;rw [Tryz.results57];refine asr ?_;refine sC fun n2=> ?_;refine sA ?_;refine aops_nil ?_;refine awp_seq ?_;refine asr ?_;refine sM ?_;refine sS ?_;refine sM ?_;refine gM ?_;refine gG0 ?_;refine sK ?_;refine aops_nil ?_;refine awp_cond rfl (fun h1=> ?_) (fun h1=> ?_)
  ·simp at h1;omega
  ·simp only [nf] at h1;refine awp_skip ?_;refine asr ?_;refine aops_call (blt_lt rfl) (.plain rfl) .nil (ACalls.here handlers_c ?_);refine sC fun n4=> ?_;refine st_s (fun _=>by exact y_storeW (by rfl) rfl (.plain rfl) (.plain rfl) (by exact .here) (by rfl)) ?_;refine aops_nil ?_;refine awp_seq ?_;rcases Pn.kinds hk with rfl|rfl|rfl|rfl|rfl|rfl|rfl|rfl|rfl|rfl
   ·refine awp_region ?_;refine sM ?_;refine st_p (fun _=>by exact y_indexVar (.plain rfl) (.plain rfl) rfl (by (simp;done))) rfl ?_;refine st_p (fun _=>by exact y_loadAggN (cs':=[_,_,_,_,_,_,_,_]) (.plain rfl) (by exact .here) (le_ rfl) (by rfl)) rfl ?_;refine st_s (fun _=>by exact y_storeW (by rfl) rfl (.plain rfl) (.plain rfl) (by exact u1) (by rfl)) ?_;refine sA ?_;refine aops_nil ?_;refine awp_ret ?_;exact retG (.inr rfl) (.cons (res_cellW rfl (by exact k1) (by rfl)) (.cons (.tmp rfl) .nil)) VShift.drop ⟨rfl,rfl⟩
   ·refine awp_region ?_;refine sM ?_;refine st_p (fun _=>by exact y_indexVar (.plain rfl) (.plain rfl) rfl (by (simp;done))) rfl ?_;refine st_p (fun _=>by exact y_loadAggN (cs':=[_,_,_,_,_,_,_,_]) (.plain rfl) (by exact .here) (le_ rfl) (by rfl)) rfl ?_;refine st_s (fun _=>by exact y_storeW (by rfl) rfl (.plain rfl) (.plain rfl) (by exact u1) (by rfl)) ?_;refine sA ?_;refine aops_nil ?_;refine awp_ret ?_;exact retG (.inr rfl) (.cons (res_cellW rfl (by exact k1) (by rfl)) (.cons (.tmp rfl) .nil)) VShift.drop ⟨rfl,rfl⟩
   ·refine awp_region ?_;refine sM ?_;refine st_p (fun _=>by exact y_indexVar (.plain rfl) (.plain rfl) rfl (by (simp;done))) rfl ?_;refine st_p (fun _=>by exact y_loadAggN (cs':=[_,_,_,_,_,_,_,_]) (.plain rfl) (by exact .here) (le_ rfl) (by rfl)) rfl ?_;refine st_s (fun _=>by exact y_storeW (by rfl) rfl (.plain rfl) (.plain rfl) (by exact u1) (by rfl)) ?_;refine sA ?_;refine aops_nil ?_;refine awp_ret ?_;exact retG (.inr rfl) (.cons (res_cellW rfl (by exact k1) (by rfl)) (.cons (.tmp rfl) .nil)) VShift.drop ⟨rfl,rfl⟩
   ·refine awp_region ?_;refine sM ?_;refine st_p (fun _=>by exact y_indexVar (.plain rfl) (.plain rfl) rfl (by (simp;done))) rfl ?_;refine st_p (fun _=>by exact y_loadAggN (cs':=[_,_,_,_,_,_,_,_]) (.plain rfl) (by exact .here) (le_ rfl) (by rfl)) rfl ?_;refine st_s (fun _=>by exact y_storeW (by rfl) rfl (.plain rfl) (.plain rfl) (by exact u1) (by rfl)) ?_;refine sA ?_;refine aops_nil ?_;refine awp_ret ?_;exact retG (.inr rfl) (.cons (res_cellW rfl (by exact k1) (by rfl)) (.cons (.tmp rfl) .nil)) VShift.drop ⟨rfl,rfl⟩
   ·refine awp_region ?_;refine sM ?_;refine st_p (fun _=>by exact y_indexVar (.plain rfl) (.plain rfl) rfl (by (simp;done))) rfl ?_;refine st_p (fun _=>by exact y_loadAggN (cs':=[_,_,_,_,_,_,_,_]) (.plain rfl) (by exact .here) (le_ rfl) (by rfl)) rfl ?_;refine st_s (fun _=>by exact y_storeW (by rfl) rfl (.plain rfl) (.plain rfl) (by exact u1) (by rfl)) ?_;refine sA ?_;refine aops_nil ?_;refine awp_ret ?_;exact retG (.inr rfl) (.cons (res_cellW rfl (by exact k1) (by rfl)) (.cons (.tmp rfl) .nil)) VShift.drop ⟨rfl,rfl⟩
   ·refine awp_region ?_;refine sM ?_;refine st_p (fun _=>by exact y_indexVar (.plain rfl) (.plain rfl) rfl (by (simp;done))) rfl ?_;refine st_p (fun _=>by exact y_loadAggN (cs':=[_,_,_,_,_,_,_,_]) (.plain rfl) (by exact .here) (le_ rfl) (by rfl)) rfl ?_;refine st_s (fun _=>by exact y_storeW (by rfl) rfl (.plain rfl) (.plain rfl) (by exact u1) (by rfl)) ?_;refine sA ?_;refine aops_nil ?_;refine awp_ret ?_;exact retG (.inr rfl) (.cons (res_cellW rfl (by exact k1) (by rfl)) (.cons (.tmp rfl) .nil)) VShift.drop ⟨rfl,rfl⟩
   ·refine awp_region ?_;refine sM ?_;refine st_p (fun _=>by exact y_indexVar (.plain rfl) (.plain rfl) rfl (by (simp;done))) rfl ?_;refine st_p (fun _=>by exact y_loadAggN (cs':=[_,_,_,_,_,_,_,_]) (.plain rfl) (by exact .here) (le_ rfl) (by rfl)) rfl ?_;refine st_s (fun _=>by exact y_storeW (by rfl) rfl (.plain rfl) (.plain rfl) (by exact u1) (by rfl)) ?_;refine sA ?_;refine aops_nil ?_;refine awp_ret ?_;exact retG (.inr rfl) (.cons (res_cellW rfl (by exact k1) (by rfl)) (.cons (.tmp rfl) .nil)) VShift.drop ⟨rfl,rfl⟩
   ·refine awp_region ?_;refine sM ?_;refine st_p (fun _=>by exact y_indexVar (.plain rfl) (.plain rfl) rfl (by (simp;done))) rfl ?_;refine st_p (fun _=>by exact y_loadAggN (cs':=[_,_,_,_,_,_,_,_]) (.plain rfl) (by exact .here) (le_ rfl) (by rfl)) rfl ?_;refine st_s (fun _=>by exact y_storeW (by rfl) rfl (.plain rfl) (.plain rfl) (by exact u1) (by rfl)) ?_;refine sA ?_;refine aops_nil ?_;refine awp_ret ?_;exact retG (.inr rfl) (.cons (res_cellW rfl (by exact k1) (by rfl)) (.cons (.tmp rfl) .nil)) VShift.drop ⟨rfl,rfl⟩
   ·refine awp_region ?_;refine sM ?_;refine st_p (fun _=>by exact y_indexVar (.plain rfl) (.plain rfl) rfl (by (simp;done))) rfl ?_;refine st_p (fun _=>by exact y_loadAggN (cs':=[_,_,_,_,_,_,_,_]) (.plain rfl) (by exact .here) (le_ rfl) (by rfl)) rfl ?_;refine st_s (fun _=>by exact y_storeW (by rfl) rfl (.plain rfl) (.plain rfl) (by exact u1) (by rfl)) ?_;refine sA ?_;refine aops_nil ?_;refine awp_ret ?_;exact retG (.inr rfl) (.cons (res_cellW rfl (by exact k1) (by rfl)) (.cons (.tmp rfl) .nil)) VShift.drop ⟨rfl,rfl⟩
   ·refine awp_region ?_;refine sM ?_;refine st_p (fun _=>by exact y_indexVar (.plain rfl) (.plain rfl) rfl (by (simp;done))) rfl ?_;refine st_p (fun _=>by exact y_loadAggN (cs':=[_,_,_,_,_,_,_,_]) (.plain rfl) (by exact .here) (le_ rfl) (by rfl)) rfl ?_;refine st_s (fun _=>by exact y_storeW (by rfl) rfl (.plain rfl) (.plain rfl) (by exact u1) (by rfl)) ?_;refine sA ?_;refine aops_nil ?_;refine awp_ret ?_;exact retG (.inr rfl) (.cons (res_cellW rfl (by exact k1) (by rfl)) (.cons (.tmp rfl) .nil)) VShift.drop ⟨rfl,rfl⟩
theorem known0_c (k:Int) (hk:k<1∨10<k):ACalls Tryz.prog 57 [.int k] [] (fun v st=>v= .tup [.agg [.int 0,.int 0,.int 0,.int 0,.int 0,.val (.slice none 0 0),.val .nilFunc,.val .nilFunc],.bool false]∧st=[]):=by
  refine acalls_body Tryz.func57 (by kernel_rfl) rfl Tryz.ntmps57 (le_ rfl) ?_;rw [Tryz.results57];refine asr ?_;refine sC fun n2=> ?_;refine sA ?_;refine aops_nil ?_;refine awp_seq ?_;refine asr ?_;refine sM ?_;refine sS ?_;refine sM ?_;refine gM ?_;refine gG0 ?_;refine sK ?_;refine aops_nil ?_;refine awp_cond rfl (fun h1=> ?_) (fun h1=> ?_)
  ·simp only [nf] at h1;refine asr ?_;refine st_p (fun _=>by exact y_build (out:=[_,_,_,_,_,_,_,_]) .nil rfl rfl) rfl ?_;refine st_s (fun _=>by exact y_storeW (by rfl) rfl (.plain rfl) (.plain rfl) (by exact .here) (by rfl)) ?_;refine sA ?_;refine aops_nil ?_;refine awp_ret ?_;exact retG (.inr rfl) (.cons (res_cellW rfl (by exact .here) (by rfl)) (.cons (.tmp rfl) .nil)) VShift.drop ⟨rfl,rfl⟩
  ·simp at h1;omega
end Go.Proofs
set_option maxRecDepth 10000
namespace Go.Proofs
open Go.Aw Wl Pn
theorem chkX_c (k0:Int) (e:Pn.Ex) (hk0:1≤k0∧k0≤10):ACalls Tryz.prog 71 [(AV.agg (encHd k0)),(AV.agg (encE e))] [] (fun v st=>v=(AV.int (Pn.chkX k0 e))∧st=[]):=by
  refine acalls_body Tryz.func71 (by kernel_rfl) rfl Tryz.ntmps71 (le_ rfl) ?_;rw [Tryz.results71];have hnl:=Pn.hnames_len k0;refine asr ?_;refine sB fun n1=> ?_;refine sB fun n2=> ?_;refine sA ?_;refine aops_nil ?_;refine awp_seq ?_;refine asr ?_;refine sW .here ?_;refine aops_call (blt_lt rfl) (.plain rfl) (.cons (.imp (.plain rfl) (AV.Imp.agg (RowOf.imp (enc:=encE)))) .nil) (ACalls.here (chkE_c e) ?_);refine sA ?_;refine aops_nil ?_;refine asr ?_;refine sM ?_;refine sR ?_;refine aops_nil ?_;refine awp_cond rfl (fun h1=> ?_) (fun h1=> ?_)
  ·simp only [nf] at h1;refine asr ?_;refine sM ?_;refine sA ?_;refine aops_nil ?_;refine awp_ret ?_;refine retG (.inr rfl) (.cons (.tmp rfl) .nil) (VShift.of1 (AV.Imp.refl _) (.nil _)) ⟨congrArg (fun x:(Int)=>(AV.int x)) (show _=(Pn.chkX k0 e) from ?_),rfl⟩;rw [Pn.chkX,if_pos (show Pn.chkE e≠0 by omega)]
  ·simp only [nf] at h1;refine awp_skip ?_;refine awp_seq ?_;refine asr ?_;refine sW .here ?_;have hce:Pn.chkE e=0:=by omega
   refine aops_call (blt_lt rfl) (.plain rfl) (.cons (.imp (.plain rfl) (AV.Imp.agg (RowOf.imp (enc:=encE)))) .nil) (ACalls.frame (st1:=[]) (names_c e hce) (List.Perm.refl _) ?_);rintro v st ⟨l,rfl,rfl,hl9,hm9⟩;refine sN ?_;refine sM ?_;refine aops_nil ?_;refine awp_block ?_;refine awp_loop2 (X:=Nat) [2,3,16,17] (.cons rfl (.cons rfl (.cons rfl (.cons rfl .nil)))) (fun σ x=>((18,.int (x:Int)):Nat×AV)::σ) (fun R x=> .cells n1 (encHd k0):: .cells n2 (encE e)::R) (fun x=>x≤l.length∧(∀ i (h:i<l.length),i<x→Pn.inN (Pn.hnames k0) l[i]=true)) (fun x=>l.length - x) 0 (by exact Weak.of2 (by (repeat (first|exact .nil _|refine .cons rfl (by exact AV.Imp.refl _) ?_));done) (by (repeat (first|exact .refl _|apply ItLe2.cons (by exact k1)));done)) ⟨Nat.zero_le _,by omega⟩ ?_;rintro k ⟨hk,hinv⟩;refine asr ?_;refine sS ?_;refine aops_nil ?_;refine awp_seq ?_;refine awp_cond rfl (fun h2=> ?_) (fun h2=> ?_)
   ·simp only [nf] at h2;refine awp_skip ?_;refine awp_seq ?_;refine awp_block ?_;refine asr ?_;refine st_p (fun _=>by exact y_indexMap (.plain rfl) (.plain rfl) rfl (by refine⟨?_,?_⟩;(omega);rfl)) rfl ?_;refine sU ?_;refine sA ?_;refine aops_nil ?_;refine asr ?_;refine sF ?_;refine sL .here ?_;refine sM ?_;refine aops_call (blt_lt rfl) (.plain rfl) (.cons (.imp (.plain rfl) (Sl.imp (enc:=encStV))) (.cons (.plain rfl) .nil)) (ACalls.here (containsS_c _ _ (by omega)) ?_);refine sO ?_;refine aops_nil ?_;refine awp_cond rfl (fun h3=> ?_) (fun h3=> ?_)
    ·simp only [nf] at h3;refine asr ?_;refine sA ?_;refine aops_nil ?_;refine awp_ret ?_;refine retG (.inr rfl) (.cons (.tmp rfl) .nil) (VShift.of1 (AV.Imp.refl _) (.nil _)) ⟨congrArg (fun x:(Int)=>(AV.int x)) (show _=(Pn.chkX k0 e) from ?_),rfl⟩;have hb9:(Pn.nmE e).any (fun s=> !Pn.inN (Pn.hnames k0) s)=true:=List.any_eq_true.2 ⟨l[k],(hm9 _).1 (List.getElem_mem _),by unfold Pn.inN;simp_all⟩;rw [Pn.chkX,if_neg (show ¬ Pn.chkE e≠0 by omega),if_pos hb9]
    ·simp only [nf] at h3;refine awp_skip ?_;refine awp_region ?_;refine sY ?_ (hb:=by omega);refine sM ?_;refine aops_nil ?_;refine⟨k+1,?_,?_,Weak.of2 (by (repeat (first|exact .nil _|refine .cons rfl (by exact AV.Imp.refl _) ?_));done) (by (repeat (exact .refl _));done)⟩
     ·refine⟨by omega,?_⟩;intro i hi hik;by_cases e9:i=k
      ·subst e9;unfold Pn.inN;simp_all
      ·exact hinv i hi (by omega)
     ·omega
   ·simp only [nf] at h2;refine awp_exit ?_;refine awp_seq ?_;refine awp_seq ?_;refine awp_any0 (ks:=[.free,.free,.free,.free,.free,.free,.free,.free,.free,.free,.free]) (by kernel_rfl) (fun K=> ?_) ?_
    ·refine rW k1 ?_;refine rF ?_;refine rL .here ?_;refine dr_p (fun _=>by exact y_buildSlice (.cons (.plain rfl) inferInstance (by rfl) (.cons (.plain rfl) inferInstance (by rfl) .nil)) rfl (le_ rfl)) rfl ?_;refine dr_p (fun _=>by exact y_call (.plain rfl) (.cons (.imp (.plain rfl) (Sl.imp (enc:=encStV))) (.cons (.imp (.plain rfl) (Sl.imp (enc:=Go.Aw.encI))) .nil)) (ACalls.pure (bind_c (Pn.hnames k0) [0,0] (by simpa using hnl) (by omega)))) rfl ?_;refine dr_p (fun _=>by exact y_call (.plain rfl) (.cons (.imp (.plain rfl) (AV.Imp.agg (RowOf.imp (enc:=encE)))) (.cons (.imp (.plain rfl) (Sl.imp (enc:=encBd))) .nil)) (ACalls.pure (type_c e _ (by unfold Pn.bindM;rw [List.length_zipWith];omega)))) rfl ?_;refine rM ?_;refine rE ?_;refine rE ?_;refine rA ?_;refine rA ?_;refine dr_nil ⟨rfl,?_⟩;refine asr ?_;refine sM ?_;refine sR ?_;refine sM ?_;refine gM ?_;refine gF ?_;refine gL0 .here ?_;refine gR01 ?_;refine sK ?_;refine aops_nil ?_;refine awp_cond rfl (fun h4=> ?_) (fun h4=> ?_)
     ·simp only [nf] at h4;refine asr ?_;refine sA ?_;refine aops_nil ?_;refine awp_ret ?_;refine retG (.inr rfl) (.cons (.tmp rfl) .nil) (VShift.of1 (AV.Imp.refl _) (.nil _)) ⟨congrArg (fun x:(Int)=>(AV.int x)) (show _=(Pn.chkX k0 e) from ?_),rfl⟩;have hb9: ¬ (Pn.nmE e).any (fun s=> !Pn.inN (Pn.hnames k0) s)=true:=by
       rw [List.any_eq_true];rintro⟨s,hs,hn⟩;obtain⟨i,hi,rfl⟩:=List.getElem_of_mem ((hm9 s).2 hs);rw [hinv i hi (by omega)] at hn;cases hn
      rw [Pn.chkX,if_neg (show ¬ Pn.chkE e≠0 by omega),if_neg hb9,if_pos (by assumption)]
     ·simp only [nf] at h4;refine awp_skip ?_;refine asr ?_;refine sA ?_;refine aops_nil ?_;refine awp_ret ?_;refine retG (.inr rfl) (.cons (.tmp rfl) .nil) (VShift.of1 (AV.Imp.refl _) (.nil _)) ⟨congrArg (fun x:(Int)=>(AV.int x)) (show _=(Pn.chkX k0 e) from ?_),rfl⟩;have hb9: ¬ (Pn.nmE e).any (fun s=> !Pn.inN (Pn.hnames k0) s)=true:=by
       rw [List.any_eq_true];rintro⟨s,hs,hn⟩;obtain⟨i,hi,rfl⟩:=List.getElem_of_mem ((hm9 s).2 hs);rw [hinv i hi (by omega)] at hn;cases hn
      rw [Pn.chkX,if_neg (show ¬ Pn.chkE e≠0 by omega),if_neg hb9,if_neg (by simp_all)]
    ·kernel_rfl
theorem sgchk_c (x:Pn.Sg) :ACalls Tryz.prog 37 [(AV.agg (encSg x))] [] (fun v st=>v=(AV.int (Pn.sgchk x))∧st=[]):=by
  refine acalls_body Tryz.func37 (by kernel_rfl) rfl Tryz.ntmps37 (le_ rfl) ?_;rw [Tryz.results37];refine asr ?_;refine sB fun n1=> ?_;refine sA ?_;refine aops_nil ?_;refine awp_seq ?_;have hkc:(1≤x.kind∧x.kind≤10)∨(x.kind<1∨10<x.kind):=by omega
  rcases hkc with hk|hk
  ·refine awp_region ?_;refine sF ?_;refine sL .here ?_;refine aops_call (blt_lt rfl) (.plain rfl) (.cons (.plain rfl) .nil) (ACalls.here (known_c x.kind hk) ?_);refine sM ?_;refine sE ?_;refine sE ?_;refine sC fun n3=> ?_;refine st_s (fun _=>by exact y_storeW (by rfl) rfl (.plain rfl) (.plain rfl) (by exact .here) (by rfl)) ?_;refine sA ?_;refine aops_nil ?_;refine awp_seq ?_;refine asr ?_;refine sM ?_;refine sO ?_;refine aops_nil ?_;refine awp_cond rfl (fun h1=> ?_) (fun h1=> ?_)
   ·cases h1
   ·simp only [nf] at h1;refine awp_skip ?_;refine asr ?_;refine sF ?_;refine sF ?_;refine sL k1 ?_;refine sQ ?_;refine sM ?_;refine gF ?_;refine gF0 ?_;refine gL0 k1 ?_;refine gQ0 ?_;refine sJ ?_;refine sM ?_;refine gF ?_;refine gF0 ?_;refine gL0 k1 ?_;refine st_g rfl rfl rfl SaysI.out (fun hc _=>by exact y_strEq (.opt rfl hc) (.plain rfl)) rfl ?_;refine sJ ?_;refine sM ?_;refine gF ?_;refine gF0 ?_;refine gL0 k1 ?_;refine gQ0 ?_;refine sJ ?_;refine sM ?_;refine gF ?_;refine gF0 ?_;refine gL0 k1 ?_;refine gN0 ?_;refine gQ0 ?_;refine sJ ?_;refine sA ?_;refine aops_nil ?_;refine awp_seq ?_;refine asr ?_;refine sF ?_;refine sL .here ?_;refine sQ ?_;refine sM ?_;refine gF ?_;refine gL0 k1 ?_;refine gR0 ?_;refine sJ ?_;refine sM ?_;refine gF ?_;refine gL0 .here ?_;refine gQ0 ?_;refine gM0 ?_;refine gM ?_;refine gO0 ?_;refine st_g rfl rfl rfl SaysI.out (fun hc _=>by exact y_and' hc (.opt rfl hc) rfl rfl) rfl ?_;refine sK ?_;refine sM ?_;refine gF ?_;refine gL0 k1 ?_;refine gR0 ?_;refine gM0 ?_;refine gF ?_;refine gL0 k1 ?_;refine gN0 ?_;refine gG0 ?_;refine st_g rfl rfl rfl SaysI.out (fun hc _=>by exact y_and' hc (.opt rfl hc) rfl rfl) rfl ?_;refine sK ?_;refine aops_nil ?_;refine awp_cond rfl (fun h2=> ?_) (fun h2=> ?_)
    ·simp only [nf] at h2;have hr:Pn.bad1 x=true:=by
      simp only [Pn.nil_nil,Sv.same_nil] at h2;unfold Pn.bad1 Pn.noneX;simp_all [show ({data:= #[]}:ByteArray)=ByteArray.empty from rfl]
     refine asr ?_;refine sA ?_;refine aops_nil ?_;refine awp_ret ?_;refine retG (.inr rfl) (.cons (.tmp rfl) .nil) (VShift.of1 (AV.Imp.refl _) (.nil _)) ⟨congrArg (fun x:(Int)=>(AV.int x)) (show _=(Pn.sgchk x) from ?_),rfl⟩;rw [Pn.sgchk,if_neg (by omega),if_pos hr]
    ·simp only [nf] at h2;have hr: ¬ Pn.bad1 x=true:=by
      simp only [Pn.nil_nil,Sv.same_nil] at h2;unfold Pn.bad1 Pn.noneX;simp_all [show ({data:= #[]}:ByteArray)=ByteArray.empty from rfl];obtain⟨⟨a9,b9⟩,c9⟩:=h2;exact⟨⟨fun h=>a9.resolve_left (fun n=>n h),fun h=>b9.resolve_left (fun n=>n h)⟩,fun h=>c9.resolve_left h⟩
     refine awp_skip ?_;refine awp_seq ?_;refine asr ?_;refine sF ?_;refine sL k1 ?_;refine sF ?_;refine sL .here ?_;refine sS ?_;refine sM ?_;refine gF ?_;refine gL0 k1 ?_;refine gF ?_;refine gL0 .here ?_;refine gG01 ?_;refine sK ?_;refine aops_nil ?_;refine awp_cond rfl (fun h3=> ?_) (fun h3=> ?_)
     ·simp only [nf] at h3;refine asr ?_;refine sA ?_;refine aops_nil ?_;refine awp_ret ?_;refine retG (.inr rfl) (.cons (.tmp rfl) .nil) (VShift.of1 (AV.Imp.refl _) (.nil _)) ⟨congrArg (fun x:(Int)=>(AV.int x)) (show _=(Pn.sgchk x) from ?_),rfl⟩;rw [Pn.sgchk,if_neg (by omega),if_neg hr,if_pos (by omega)]
     ·simp only [nf] at h3;refine awp_skip ?_;refine awp_seq ?_;refine asr ?_;refine sF ?_;refine sL k1 ?_;refine sN ?_;refine sG ?_;refine aops_nil ?_;refine awp_cond rfl (fun h4=> ?_) (fun h4=> ?_)
      ·simp only [nf] at h4;refine asr ?_;refine sA ?_;refine aops_nil ?_;refine awp_ret ?_;refine retG (.inr rfl) (.cons (.tmp rfl) .nil) (VShift.of1 (AV.Imp.refl _) (.nil _)) ⟨congrArg (fun x:(Int)=>(AV.int x)) (show _=(Pn.sgchk x) from ?_),rfl⟩;rw [Pn.sgchk,if_neg (by omega),if_neg hr,if_neg (by omega),if_pos (by omega)]
      ·simp only [nf] at h4;refine awp_skip ?_;refine awp_seq ?_;refine asr ?_;refine sF ?_;refine sL k1 ?_;refine aops_call (blt_lt rfl) (.plain rfl) (.cons (.plain rfl) (.cons (.imp (.plain rfl) Fun.imp) .nil)) (ACalls.here (containsFI_c x.items (by omega) 70 [] (fun n=> !Pn.num n) [] (fun z _=>notnum70_c z)) ?_);refine aops_nil ?_;refine awp_cond rfl (fun h5=> ?_) (fun h5=> ?_)
       ·refine asr ?_;refine sA ?_;refine aops_nil ?_;refine awp_ret ?_;refine retG (.inr rfl) (.cons (.tmp rfl) .nil) (VShift.of1 (AV.Imp.refl _) (.nil _)) ⟨congrArg (fun x:(Int)=>(AV.int x)) (show _=(Pn.sgchk x) from ?_),rfl⟩;rw [Pn.sgchk,if_neg (by omega),if_neg hr,if_neg (by omega),if_neg (by omega),if_pos (by simp_all)]
       ·refine awp_skip ?_;refine awp_seq ?_;refine asr ?_;refine sF ?_;refine sL .here ?_;refine sQ ?_;refine aops_nil ?_;refine awp_cond rfl (fun h6=> ?_) (fun h6=> ?_)
        ·simp only [nf] at h6;refine asr ?_;refine sA ?_;refine aops_nil ?_;refine awp_ret ?_;refine retG (.inr rfl) (.cons (.tmp rfl) .nil) (VShift.of1 (AV.Imp.refl _) (.nil _)) ⟨congrArg (fun x:(Int)=>(AV.int x)) (show _=(Pn.sgchk x) from ?_),rfl⟩;rw [Pn.sgchk,if_neg (by omega),if_neg hr,if_neg (by omega),if_neg (by omega),if_neg (by simp_all),if_pos (by omega)]
        ·simp only [nf] at h6;refine awp_skip ?_;refine asr ?_;refine sW .here ?_;refine sF ?_;refine st_p (fun _=>by exact y_loadAggN (cs':=[_,_,_,_,_]) (.plain rfl) (by exact k1) (le_ rfl) (by rfl)) rfl ?_;refine aops_call (blt_lt rfl) (.plain rfl) (.cons (.imp (.plain rfl) (AV.Imp.agg (RowOf.imp (enc:=encHd)))) (.cons (.imp (.plain rfl) (AV.Imp.agg (RowOf.imp (enc:=encE)))) .nil)) (ACalls.here (chkX_c x.kind x.expr hk) ?_);refine sA ?_;refine aops_nil ?_;refine awp_ret ?_;refine retG (.inr rfl) (.cons (.tmp rfl) .nil) (VShift.of1 (AV.Imp.refl _) (.nil _)) ⟨congrArg (fun x:(Int)=>(AV.int x)) (show _=(Pn.sgchk x) from ?_),rfl⟩;rw [Pn.sgchk,if_neg (by omega),if_neg hr,if_neg (by omega),if_neg (by omega),if_neg (by simp_all),if_neg (by omega)]
  ·refine awp_region ?_;refine sF ?_;refine sL .here ?_;refine aops_call (blt_lt rfl) (.plain rfl) (.cons (.plain rfl) .nil) (ACalls.here (known0_c x.kind hk) ?_);refine sM ?_;refine sE ?_;refine sE ?_;refine sC fun n3=> ?_;refine st_s (fun _=>by exact y_storeW (by rfl) rfl (.plain rfl) (.plain rfl) (by exact .here) (by rfl)) ?_;refine sA ?_;refine aops_nil ?_;refine awp_seq ?_;refine asr ?_;refine sM ?_;refine sO ?_;refine aops_nil ?_;refine awp_cond rfl (fun h7=> ?_) (fun h7=> ?_)
   ·simp only [nf] at h7;refine asr ?_;refine sA ?_;refine aops_nil ?_;refine awp_ret ?_;refine retG (.inr rfl) (.cons (.tmp rfl) .nil) (VShift.of1 (AV.Imp.refl _) (.nil _)) ⟨congrArg (fun x:(Int)=>(AV.int x)) (show _=(Pn.sgchk x) from ?_),rfl⟩;rw [Pn.sgchk,if_pos (by omega)]
   ·cases h7
theorem sinp_c (x:Pn.Sg) :ACalls Tryz.prog 28 [(AV.agg (encSg x))] [] (fun v st=>v=(AV.int (Pn.sinp x))∧st=[]):=by
  refine acalls_body Tryz.func28 (by kernel_rfl) rfl Tryz.ntmps28 (le_ rfl) ?_;rw [Tryz.results28];refine asr ?_;refine sB fun n1=> ?_;refine sA ?_;refine aops_nil ?_;refine awp_seq ?_;refine asr ?_;refine sW .here ?_;refine aops_call (blt_lt rfl) (.plain rfl) (.cons (.imp (.plain rfl) (AV.Imp.agg (RowOf.imp (enc:=encSg)))) .nil) (ACalls.here (sgchk_c x) ?_);refine sR ?_;refine aops_nil ?_;refine awp_cond rfl (fun h1=> ?_) (fun h1=> ?_)
  ·simp only [nf] at h1;refine asr ?_;refine sA ?_;refine aops_nil ?_;refine awp_ret ?_;refine retG (.inr rfl) (.cons (.tmp rfl) .nil) (VShift.of1 (AV.Imp.refl _) (.nil _)) ⟨congrArg (fun x:(Int)=>(AV.int x)) (show _=(Pn.sinp x) from ?_),rfl⟩;rw [Pn.sinp,if_pos (show Pn.sgchk x≠0 by omega)]
  ·simp only [nf] at h1;refine awp_skip ?_;refine asr ?_;refine sF ?_;refine sL .here ?_;refine aops_call (blt_lt rfl) (.plain rfl) (.cons (.plain rfl) .nil) (ACalls.here (known_c x.kind (Pn.sgchk_ok (by omega)).kind) ?_);refine sM ?_;refine sE ?_;refine sE ?_;refine sC fun n2=> ?_;refine st_s (fun _=>by exact y_storeW (by rfl) rfl (.plain rfl) (.plain rfl) (by exact .here) (by rfl)) ?_;refine sA ?_;refine aops_nil ?_;refine asr ?_;refine sF ?_;refine sL .here ?_;refine sA ?_;refine aops_nil ?_;refine awp_ret ?_;refine retG (.inr rfl) (.cons (.tmp rfl) .nil) (VShift.of1 (AV.Imp.refl _) (.nil _)) ⟨congrArg (fun x:(Int)=>(AV.int x)) (show _=(Pn.sinp x) from ?_),rfl⟩;rw [Pn.sinp,if_neg (show ¬ Pn.sgchk x≠0 by omega)]
theorem sout_c (x:Pn.Sg) :ACalls Tryz.prog 38 [(AV.agg (encSg x))] [] (fun v st=>v=(AV.int (Pn.sout x))∧st=[]):=by
  refine acalls_body Tryz.func38 (by kernel_rfl) rfl Tryz.ntmps38 (le_ rfl) ?_;rw [Tryz.results38];refine asr ?_;refine sB fun n1=> ?_;refine sA ?_;refine aops_nil ?_;refine awp_seq ?_;refine asr ?_;refine sW .here ?_;refine aops_call (blt_lt rfl) (.plain rfl) (.cons (.imp (.plain rfl) (AV.Imp.agg (RowOf.imp (enc:=encSg)))) .nil) (ACalls.here (sgchk_c x) ?_);refine sR ?_;refine aops_nil ?_;refine awp_cond rfl (fun h1=> ?_) (fun h1=> ?_)
  ·simp only [nf] at h1;refine asr ?_;refine sA ?_;refine aops_nil ?_;refine awp_ret ?_;refine retG (.inr rfl) (.cons (.tmp rfl) .nil) (VShift.of1 (AV.Imp.refl _) (.nil _)) ⟨congrArg (fun x:(Int)=>(AV.int x)) (show _=(Pn.sout x) from ?_),rfl⟩;rw [Pn.sout,if_pos (show Pn.sgchk x≠0 by omega)]
  ·simp only [nf] at h1;refine awp_skip ?_;refine asr ?_;refine sF ?_;refine sL .here ?_;refine aops_call (blt_lt rfl) (.plain rfl) (.cons (.plain rfl) .nil) (ACalls.here (known_c x.kind (Pn.sgchk_ok (by omega)).kind) ?_);refine sM ?_;refine sE ?_;refine sE ?_;refine sC fun n2=> ?_;refine st_s (fun _=>by exact y_storeW (by rfl) rfl (.plain rfl) (.plain rfl) (by exact .here) (by rfl)) ?_;refine sA ?_;refine aops_nil ?_;refine asr ?_;refine sF ?_;refine sL .here ?_;refine sA ?_;refine aops_nil ?_;refine awp_ret ?_;refine retG (.inr rfl) (.cons (.tmp rfl) .nil) (VShift.of1 (AV.Imp.refl _) (.nil _)) ⟨congrArg (fun x:(Int)=>(AV.int x)) (show _=(Pn.sout x) from ?_),rfl⟩;rw [Pn.sout,if_neg (show ¬ Pn.sgchk x≠0 by omega)]
end Go.Proofs
set_option maxRecDepth 10000
namespace Go.Proofs
open Go.Aw Wl Pn
theorem indexI_c (l:List Int) (t:Int) (hl:l.length≤1000000):ACalls Tryz.prog 84 [(AV.sl 1 (List.map Go.Aw.encI l)),(AV.int t)] [] (fun v st=>v=(AV.int (idxI l t))∧st=[]):=by
  refine acalls_body Tryz.func84 (by kernel_rfl) rfl Tryz.ntmps84 (le_ rfl) ?_;rw [Tryz.results84];refine asr ?_;refine sA ?_;refine aops_nil ?_;refine awp_seq ?_;refine asr ?_;refine sM ?_;refine sN ?_;refine sM ?_;refine aops_nil ?_;refine awp_block ?_;refine awp_loop2 (X:=Nat) [0,1,7] (.cons rfl (.cons rfl (.cons rfl .nil))) (fun σ x=>((8,.int (x:Int)):Nat×AV)::σ) (fun R x=>R) (fun x=>x≤l.length∧(∀ i (h:i<l.length),i<x→l[i]≠t)) (fun x=>l.length - x) 0 (by exact Weak.of2 (by (repeat (first|exact .nil _|refine .cons rfl (by exact AV.Imp.refl _) ?_));done) (by (repeat (exact .refl _));done)) ⟨Nat.zero_le _,by omega⟩ ?_;rintro k ⟨hk,hinv⟩;refine asr ?_;refine sS ?_;refine aops_nil ?_;refine awp_seq ?_;refine awp_cond rfl (fun h1=> ?_) (fun h1=> ?_)
  ·simp only [nf] at h1;refine awp_skip ?_;refine awp_seq ?_;refine awp_block ?_;refine asr ?_;refine sM ?_;refine sA ?_;refine aops_nil ?_;refine asr ?_;refine sM ?_;refine sM ?_;refine sM ?_;refine st_p (fun _=>by exact y_indexMap (.plain rfl) (.plain rfl) rfl (by refine⟨?_,?_⟩;(omega);rfl)) rfl ?_;refine sU ?_;refine sQ ?_;refine aops_nil ?_;refine awp_cond rfl (fun h2=> ?_) (fun h2=> ?_)
   ·simp only [nf] at h2;refine asr ?_;refine sM ?_;refine sA ?_;refine aops_nil ?_;refine awp_ret ?_;refine retG (.inr rfl) (.cons (.tmp rfl) .nil) (VShift.of1 (AV.Imp.refl _) (.nil _)) ⟨congrArg (fun x:(Int)=>(AV.int x)) (show _=(idxI l t) from ?_),rfl⟩;exact (idxI_at l t k h1 h2.symm hinv).symm
   ·simp only [nf] at h2;refine awp_skip ?_;refine awp_region ?_;refine sY ?_ (hb:=by omega);refine sM ?_;refine aops_nil ?_;refine⟨k+1,?_,?_,Weak.of2 (by (repeat (first|exact .nil _|refine .cons rfl (by exact AV.Imp.refl _) ?_));done) (by (repeat (exact .refl _));done)⟩
    ·refine⟨by omega,?_⟩;intro i hi hik;by_cases e:i=k
     ·subst e;exact Ne.symm h2
     ·exact hinv i hi (by omega)
    ·omega
  ·simp only [nf] at h1;refine awp_exit ?_;refine asr ?_;refine sA ?_;refine aops_nil ?_;refine awp_ret ?_;refine retG (.inr rfl) (.cons (.tmp rfl) .nil) (VShift.of1 (AV.Imp.refl _) (.nil _)) ⟨congrArg (fun x:(Int)=>(AV.int x)) (show _=(idxI l t) from ?_),rfl⟩;exact (idxI_no l t (fun i hi=>hinv i hi (by omega))).symm
theorem containsI_c (l:List Int) (t:Int) (hl:l.length≤1000000):ACalls Tryz.prog 172 [(AV.sl 1 (List.map Go.Aw.encI l)),(AV.int t)] [] (fun v st=>v=(AV.bool (decide (0≤idxI l t)))∧st=[]):=by
  refine acalls_body Tryz.func172 (by kernel_rfl) rfl Tryz.ntmps172 (le_ rfl) ?_;rw [Tryz.results172];refine asr ?_;refine sA ?_;refine aops_nil ?_;refine asr ?_;refine sM ?_;refine sM ?_;refine aops_call (blt_lt rfl) (.plain rfl) (.cons (.imp (.plain rfl) (Sl.imp (enc:=Go.Aw.encI))) (.cons (.plain rfl) .nil)) (ACalls.here (indexI_c _ _ (by assumption)) ?_);refine st_p (fun _=>by exact y_geq (.plain rfl) (.plain rfl)) rfl ?_;refine sA ?_;refine aops_nil ?_;refine awp_ret ?_;refine retG (.inr rfl) (.cons (.tmp rfl) .nil) (VShift.of1 (AV.Imp.refl _) (.nil _)) ⟨congrArg (fun x:(Bool)=>(AV.bool x)) (show _=(decide (0≤idxI l t)) from ?_),rfl⟩;rfl
theorem sbnd_c (x:Pn.Sg) (hx:Pn.Sgok x):ACalls Tryz.prog 170 [(AV.agg (encSg x))] [] (fun v st=>v=(AV.tup [(AV.int ((Pn.sbnd x).1)),(AV.int ((Pn.sbnd x).2))])∧st=[]):=by
  refine acalls_body Tryz.func170 (by kernel_rfl) rfl Tryz.ntmps170 (le_ rfl) ?_;rw [Tryz.results170];have hs2:=hx.size2;refine asr ?_;refine sB fun n1=> ?_;refine sA ?_;refine sA ?_;refine aops_nil ?_;refine awp_seq ?_;refine asr ?_;refine sF ?_;refine sL .here ?_;refine aops_nil ?_;refine awp_block ?_;refine asr ?_;refine sQ ?_;refine sA ?_;refine aops_nil ?_;refine awp_cond rfl (fun h1=> ?_) (fun h1=> ?_)
  ·simp only [nf] at h1;refine asr ?_;refine sF ?_;refine sL .here ?_;refine sN ?_;refine sA ?_;refine sA ?_;refine aops_nil ?_;refine awp_ret ?_;refine retG (.inr rfl) (.cons (.tmp rfl) (.cons (.tmp rfl) .nil)) (VShift.of2 (AV.Imp.tup (.cons (AV.Imp.refl _) (.cons (AV.Imp.refl _) .nil))) (.nil _)) ⟨congrArg (fun x:(Int)×(Int)=>(AV.tup [(AV.int x.1),(AV.int x.2)])) (show (_,_)=(Pn.sbnd x) from ?_),rfl⟩;rw [Pn.sbnd,if_pos (by assumption)]
  ·simp only [nf] at h1;refine asr ?_;refine sQ ?_;refine sA ?_;refine aops_nil ?_;refine awp_cond rfl (fun h2=> ?_) (fun h2=> ?_)
   ·simp only [nf] at h2;refine asr ?_;refine sF ?_;refine sL .here ?_;refine sA ?_;refine sA ?_;refine aops_nil ?_;refine awp_ret ?_;refine retG (.inr rfl) (.cons (.tmp rfl) (.cons (.tmp rfl) .nil)) (VShift.of2 (AV.Imp.tup (.cons (AV.Imp.refl _) (.cons (AV.Imp.refl _) .nil))) (.nil _)) ⟨congrArg (fun x:(Int)×(Int)=>(AV.tup [(AV.int x.1),(AV.int x.2)])) (show (_,_)=(Pn.sbnd x) from ?_),rfl⟩;rw [Pn.sbnd,if_neg (by assumption),if_pos (by assumption)]
   ·simp only [nf] at h2;refine asr ?_;refine sQ ?_;refine sA ?_;refine aops_nil ?_;refine awp_cond rfl (fun h3=> ?_) (fun h3=> ?_)
    ·simp only [nf] at h3;refine asr ?_;refine sA ?_;refine sA ?_;refine aops_nil ?_;refine awp_ret ?_;refine retG (.inr rfl) (.cons (.tmp rfl) (.cons (.tmp rfl) .nil)) (VShift.of2 (AV.Imp.tup (.cons (AV.Imp.refl _) (.cons (AV.Imp.refl _) .nil))) (.nil _)) ⟨congrArg (fun x:(Int)×(Int)=>(AV.tup [(AV.int x.1),(AV.int x.2)])) (show (_,_)=(Pn.sbnd x) from ?_),rfl⟩;rw [Pn.sbnd,if_neg (by assumption),if_neg (by assumption),if_pos (by assumption)]
    ·simp only [nf] at h3;refine asr ?_;refine sQ ?_;refine sA ?_;refine aops_nil ?_;refine awp_cond rfl (fun h4=> ?_) (fun h4=> ?_)
     ·simp only [nf] at h4;refine asr ?_;refine sA ?_;refine sA ?_;refine aops_nil ?_;refine awp_ret ?_;refine retG (.inr rfl) (.cons (.tmp rfl) (.cons (.tmp rfl) .nil)) (VShift.of2 (AV.Imp.tup (.cons (AV.Imp.refl _) (.cons (AV.Imp.refl _) .nil))) (.nil _)) ⟨congrArg (fun x:(Int)×(Int)=>(AV.tup [(AV.int x.1),(AV.int x.2)])) (show (_,_)=(Pn.sbnd x) from ?_),rfl⟩;rw [Pn.sbnd,if_neg (by assumption),if_neg (by assumption),if_neg (by assumption),if_pos (by assumption)]
     ·simp only [nf] at h4;refine asr ?_;refine sQ ?_;refine sA ?_;refine aops_nil ?_;refine awp_cond rfl (fun h5=> ?_) (fun h5=> ?_)
      ·simp only [nf] at h5;refine awp_seq ?_;refine awp_any0 (ks:=[.free,.free,.free,.free,.free]) (by kernel_rfl) (fun K=> ?_) ?_
       ·refine rF ?_;refine rL .here ?_;refine dr_p (fun _=>by exact y_sub (.plain rfl) (.plain rfl) (by omega)) rfl ?_;refine rA ?_;refine rA ?_;refine dr_nil ⟨rfl,?_⟩;refine awp_ret ?_;refine retG (.inr rfl) (.cons (.tmp rfl) (.cons (.tmp rfl) .nil)) (VShift.of2 (AV.Imp.tup (.cons (AV.Imp.refl _) (.cons (AV.Imp.refl _) .nil))) (.nil _)) ⟨congrArg (fun x:(Int)×(Int)=>(AV.tup [(AV.int x.1),(AV.int x.2)])) (show (_,_)=(Pn.sbnd x) from ?_),rfl⟩;rw [Pn.sbnd,if_neg (by assumption),if_neg (by assumption),if_neg (by assumption),if_neg (by assumption),if_pos (by assumption)]
       ·kernel_rfl
      ·simp only [nf] at h5;refine awp_skip ?_;refine asr ?_;refine sA ?_;refine sA ?_;refine aops_nil ?_;refine awp_ret ?_;refine retG (.inr rfl) (.cons (.tmp rfl) (.cons (.tmp rfl) .nil)) (VShift.of2 (AV.Imp.tup (.cons (AV.Imp.refl _) (.cons (AV.Imp.refl _) .nil))) (.nil _)) ⟨congrArg (fun x:(Int)×(Int)=>(AV.tup [(AV.int x.1),(AV.int x.2)])) (show (_,_)=(Pn.sbnd x) from ?_),rfl⟩;rw [Pn.sbnd,if_neg (by assumption),if_neg (by assumption),if_neg (by assumption),if_neg (by assumption),if_neg (by assumption)]
theorem sval_c (y:Pn.Sg) (s:Pn.Ss) (hx:Pn.Sgok y):ACalls Tryz.prog 147 [(AV.agg (encSg y)),(AV.agg (encSt s))] [] (fun v st=>v=(AV.bool (Pn.sval y s))∧st=[]):=by
  refine acalls_body Tryz.func147 (by kernel_rfl) rfl Tryz.ntmps147 (le_ rfl) ?_;rw [Tryz.results147];have hbd:=Pn.sbnd_bd hx;refine asr ?_;refine sB fun n1=> ?_;refine sB fun n2=> ?_;refine sA ?_;refine aops_nil ?_;refine asr ?_;refine sW k1 ?_;refine aops_call (blt_lt rfl) (.plain rfl) (.cons (.imp (.plain rfl) (AV.Imp.agg (RowOf.imp (enc:=encSg)))) .nil) (ACalls.here (sbnd_c y hx) ?_);refine sM ?_;refine sE ?_;refine sE ?_;refine sA ?_;refine sA ?_;refine aops_nil ?_;refine awp_seq ?_;refine asr ?_;refine sF ?_;refine sL .here ?_;refine sS ?_;refine sM ?_;refine gF ?_;refine gL0 .here ?_;refine gM ?_;refine gG01 ?_;refine sK ?_;refine sM ?_;refine gF ?_;refine gL0 .here ?_;refine gN0 ?_;refine gM ?_;refine gG01 ?_;refine sK ?_;refine aops_nil ?_;refine awp_cond rfl (fun h1=> ?_) (fun h1=> ?_)
  ·simp only [nf] at h1;refine asr ?_;refine sA ?_;refine aops_nil ?_;refine awp_ret ?_;refine retG (.inr rfl) (.cons (.tmp rfl) .nil) (VShift.of1 (AV.Imp.refl _) (.nil _)) ⟨congrArg (fun x:(Bool)=>(AV.bool x)) (show _=(Pn.sval y s) from ?_),rfl⟩;rw [Pn.sval,if_pos (by omega)]
  ·simp only [nf] at h1;refine awp_skip ?_;refine awp_seq ?_;refine asr ?_;refine sF ?_;refine sL .here ?_;refine aops_call (blt_lt rfl) (.plain rfl) (.cons (.plain rfl) (.cons (.imp (.plain rfl) Fun.imp) .nil)) (ACalls.here (containsFI_c s.held (by omega) 171 [] (fun n=> !Pn.num n) [] (fun z _=>notnum171_c z)) ?_);refine aops_nil ?_;refine awp_cond rfl (fun h2=> ?_) (fun h2=> ?_)
   ·refine asr ?_;refine sA ?_;refine aops_nil ?_;refine awp_ret ?_;refine retG (.inr rfl) (.cons (.tmp rfl) .nil) (VShift.of1 (AV.Imp.refl _) (.nil _)) ⟨congrArg (fun x:(Bool)=>(AV.bool x)) (show _=(Pn.sval y s) from ?_),rfl⟩;rw [Pn.sval,if_neg (by omega),if_pos (by simp_all)]
   ·refine awp_skip ?_;refine awp_seq ?_;refine asr ?_;refine sF ?_;refine sL k1 ?_;refine aops_nil ?_;refine awp_block ?_;refine asr ?_;refine sQ ?_;refine sA ?_;refine aops_nil ?_;refine awp_cond rfl (fun h3=> ?_) (fun h3=> ?_)
    ·simp only [nf] at h3;refine asr ?_;refine sF ?_;refine sL .here ?_;refine sO ?_;refine sM ?_;refine gF ?_;refine gL0 .here ?_;refine gN0 ?_;refine gQ0 ?_;refine sK ?_;refine sA ?_;refine aops_nil ?_;refine awp_ret ?_;refine retG (.inr rfl) (.cons (.tmp rfl) .nil) (VShift.of1 (AV.Imp.refl _) (.nil _)) ⟨congrArg (fun x:(Bool)=>(AV.bool x)) (show _=(Pn.sval y s) from ?_),rfl⟩;rw [Pn.sval,if_neg (by omega),if_neg (by simp_all),if_pos (by omega)];all_goals rfl
    ·simp only [nf] at h3;refine asr ?_;refine sQ ?_;refine sA ?_;refine aops_nil ?_;refine awp_cond rfl (fun h4=> ?_) (fun h4=> ?_)
     ·simp only [nf] at h4;refine awp_seq ?_;refine asr ?_;refine sF ?_;refine sL .here ?_;refine sN ?_;refine sM ?_;refine aops_nil ?_;refine awp_block ?_;refine awp_loop2 (X:=Nat) [3,49,50] (.cons rfl (.cons rfl (.cons rfl .nil))) (fun σ x=>((51,.int (x:Int)):Nat×AV)::σ) (fun R x=> .cells n2 (encSt s)::R) (fun x=>x≤s.held.length∧(∀ i,i<x→Pn.mgBad s.held i=false)) (fun x=>s.held.length - x) 0 (by exact Weak.of2 (by (repeat (first|exact .nil _|refine .cons rfl (by exact AV.Imp.refl _) ?_));done) (by (repeat (exact .refl _));done)) ⟨Nat.zero_le _,by omega⟩ ?_;rintro k ⟨hk,hinv⟩;refine asr ?_;refine sS ?_;refine aops_nil ?_;refine awp_seq ?_;refine awp_cond rfl (fun h5=> ?_) (fun h5=> ?_)
      ·simp only [nf] at h5;refine awp_skip ?_;refine awp_seq ?_;refine awp_block ?_;refine asr ?_;refine sM ?_;refine st_p (fun _=>by exact y_indexMap (.plain rfl) (.plain rfl) rfl (by refine⟨?_,?_⟩;(omega);rfl)) rfl ?_;refine sU ?_;refine sA ?_;refine sA ?_;refine aops_nil ?_;refine awp_seq ?_;have hgk:s.held.getD k default=s.held[k]:=by rw [List.getD,List.getElem?_eq_getElem (by assumption),Option.getD_some]
       have hkm:((k:Int) - 1).toNat=k - 1:=by omega
       refine awp_region ?_;refine sM ?_;refine sS ?_;refine sM ?_;refine gM ?_;refine gG0 ?_;refine sK ?_;refine sM ?_;refine gM ?_;refine gG0 ?_;refine gM0 ?_;refine gF ?_;refine gL0 .here ?_;refine gM ?_;refine st_g rfl rfl rfl SaysI.out (fun hc _=>by exact y_sub (.opt rfl hc) (.plain rfl) (by omega)) rfl ?_;refine st_g rfl rfl rfl SaysI.out (fun hc _=>by exact y_indexT (l:=s.held) (.opt rfl hc) (.opt rfl hc) (by simp at hc;omega) (by simp at hc;omega)) rfl ?_;refine gU0 ?_;refine gM ?_;refine st_g rfl rfl rfl SaysI.out (fun hc _=>by exact y_geq (.opt rfl hc) (.opt rfl hc)) rfl ?_;refine st_g rfl rfl rfl SaysI.out (fun hc _=>by exact y_and' hc (.opt rfl hc) rfl rfl) rfl ?_;refine sK ?_;refine aops_nil ?_;refine awp_cond rfl (fun h6=> ?_) (fun h6=> ?_)
       ·simp only [nf] at h6;have hbk:Pn.mgBad s.held k=true:=by
         rw [Pn.mgBad,hgk];simp_all
        refine asr ?_;refine sA ?_;refine aops_nil ?_;refine awp_ret ?_;refine retG (.inr rfl) (.cons (.tmp rfl) .nil) (VShift.of1 (AV.Imp.refl _) (.nil _)) ⟨congrArg (fun x:(Bool)=>(AV.bool x)) (show _=(Pn.sval y s) from ?_),rfl⟩;rw [Pn.sval,if_neg (by omega),if_neg (by simp_all),if_neg (by omega),if_pos (by omega),Pn.mgOk_bad (by assumption) hbk];rfl
       ·simp only [nf] at h6;have hbk:Pn.mgBad s.held k=false:=by
         rw [Pn.mgBad,hgk];simp_all;intro h9;have h10:k≠0:=by omega
         simp_all
        refine awp_skip ?_;refine awp_region ?_;refine sY ?_ (hb:=by omega);refine sM ?_;refine aops_nil ?_;refine⟨k+1,?_,?_,Weak.of2 (by (repeat (first|exact .nil _|refine .cons rfl (by exact AV.Imp.refl _) ?_));done) (by (repeat (exact .refl _));done)⟩
        ·refine⟨by omega,?_⟩;intro i hik;by_cases e:i=k
         ·subst e;exact hbk
         ·exact hinv i (by omega)
        ·omega
      ·simp only [nf] at h5;refine awp_exit ?_;refine asr ?_;refine sF ?_;refine sL .here ?_;refine sF ?_;refine sL .here ?_;refine sN ?_;refine sQ ?_;refine st_p (fun _=>by exact y_eqBool (by rfl) (.plain rfl) (.plain rfl)) rfl ?_;refine sA ?_;refine aops_nil ?_;refine awp_ret ?_;refine retG (.inr rfl) (.cons (.tmp rfl) .nil) (VShift.of1 (AV.Imp.refl _) (.nil _)) ⟨congrArg (fun x:(Bool)=>(AV.bool x)) (show _=(Pn.sval y s) from ?_),rfl⟩;rw [Pn.sval,if_neg (by omega),if_neg (by simp_all),if_neg (by omega),if_pos (by omega),Pn.mgOk_good (fun i hi=>hinv i (by omega))];all_goals rfl
     ·simp only [nf] at h4;refine asr ?_;refine sQ ?_;refine sA ?_;refine aops_nil ?_;refine awp_cond rfl (fun h7=> ?_) (fun h7=> ?_)
      ·simp only [nf] at h7;refine asr ?_;refine sF ?_;refine sL .here ?_;refine sF ?_;refine sL .here ?_;refine sQ ?_;refine st_p (fun _=>by exact y_eqBool (by rfl) (.plain rfl) (.plain rfl)) rfl ?_;refine sM ?_;refine gF ?_;refine gL0 .here ?_;refine gS0 ?_;refine gM0 ?_;refine gF ?_;refine gL0 .here ?_;refine gN0 ?_;refine gQ0 ?_;refine st_g rfl rfl rfl SaysI.out (fun hc _=>by exact y_or' hc (.opt rfl hc) rfl rfl) rfl ?_;refine sJ ?_;refine sA ?_;refine aops_nil ?_;refine awp_ret ?_;refine retG (.inr rfl) (.cons (.tmp rfl) .nil) (VShift.of1 (AV.Imp.refl _) (.nil _)) ⟨congrArg (fun x:(Bool)=>(AV.bool x)) (show _=(Pn.sval y s) from ?_),rfl⟩;rw [Pn.sval,if_neg (by omega),if_neg (by simp_all),if_neg (by omega),if_neg (by omega),if_pos (by omega)];all_goals first|rfl|simp_all
      ·simp only [nf] at h7;refine awp_skip ?_;refine asr ?_;refine sA ?_;refine aops_nil ?_;refine awp_ret ?_;refine retG (.inr rfl) (.cons (.tmp rfl) .nil) (VShift.of1 (AV.Imp.refl _) (.nil _)) ⟨congrArg (fun x:(Bool)=>(AV.bool x)) (show _=(Pn.sval y s) from ?_),rfl⟩;rw [Pn.sval,if_neg (by omega),if_neg (by simp_all),if_neg (by omega),if_neg (by omega),if_neg (by omega)]
theorem sended_c (y:Pn.Sg) (s:Pn.Ss) (i:Int) (hz:y.kind=9→(0≤s.count∧s.count≤3)∧0≤i∧i≤1) (hh:s.held.length≤1000000):ACalls Tryz.prog 148 [(AV.agg (encSg y)),(AV.agg (encSt s)),(AV.int i)] [] (fun v st=>v=(AV.bool (Pn.sended y s i))∧st=[]):=by
  refine acalls_body Tryz.func148 (by kernel_rfl) rfl Tryz.ntmps148 (le_ rfl) ?_;rw [Tryz.results148];refine asr ?_;refine sB fun n1=> ?_;refine sB fun n2=> ?_;refine sA ?_;refine aops_nil ?_;refine awp_seq ?_;refine asr ?_;refine sF ?_;refine sL k1 ?_;refine aops_nil ?_;refine awp_block ?_;refine asr ?_;refine sQ ?_;refine sA ?_;refine aops_nil ?_;refine awp_cond rfl (fun h1=> ?_) (fun h1=> ?_)
  ·simp only [nf] at h1;refine asr ?_;refine sF ?_;refine sL .here ?_;refine sM ?_;refine aops_call (blt_lt rfl) (.plain rfl) (.cons (.imp (.plain rfl) (Sl.imp (enc:=Go.Aw.encI))) (.cons (.plain rfl) .nil)) (ACalls.here (containsI_c s.held i hh) ?_);refine sA ?_;refine aops_nil ?_;refine awp_ret ?_;refine retG (.inr rfl) (.cons (.tmp rfl) .nil) (VShift.of1 (AV.Imp.refl _) (.nil _)) ⟨congrArg (fun x:(Bool)=>(AV.bool x)) (show _=(Pn.sended y s i) from ?_),rfl⟩;rw [Pn.sended,if_pos (by omega)]
  ·simp only [nf] at h1;refine asr ?_;refine sQ ?_;refine sA ?_;refine aops_nil ?_;refine awp_cond rfl (fun h2=> ?_) (fun h2=> ?_)
   ·simp only [nf] at h2;refine awp_seq ?_;obtain⟨hz1,hz2⟩:=hz (by omega);refine awp_region ?_;refine sF ?_;refine sL .here ?_;refine sM ?_;refine st_p (fun _=>by exact y_shrK (.plain rfl) (.plain rfl) (shrK _ s.count i hz1 hz2)) rfl ?_;refine st_p (fun _=>by exact y_andK (.plain rfl) (.plain rfl) (and1K _ _ (by rcases (show i=0∨i=1 by omega) with h2|h2<;>rw [h2]<;>simp<;>omega))) rfl ?_;refine sQ ?_;refine sA ?_;refine aops_nil ?_;refine awp_ret ?_;refine retG (.inr rfl) (.cons (.tmp rfl) .nil) (VShift.of1 (AV.Imp.refl _) (.nil _)) ⟨congrArg (fun x:(Bool)=>(AV.bool x)) (show _=(Pn.sended y s i) from ?_),rfl⟩;rw [Pn.sended,if_neg (by omega),if_pos (by omega)];all_goals rfl
   ·simp only [nf] at h2;refine awp_skip ?_;refine asr ?_;refine sF ?_;refine sL .here ?_;refine sA ?_;refine aops_nil ?_;refine awp_ret ?_;refine retG (.inr rfl) (.cons (.tmp rfl) .nil) (VShift.of1 (AV.Imp.refl _) (.nil _)) ⟨congrArg (fun x:(Bool)=>(AV.bool x)) (show _=(Pn.sended y s i) from ?_),rfl⟩;rw [Pn.sended,if_neg (by omega),if_neg (by omega)]
theorem sneed_c (y:Pn.Sg) (s:Pn.Ss) :ACalls Tryz.prog 101 [(AV.agg (encSg y)),(AV.agg (encSt s))] [] (fun v st=>v=(AV.tup [(AV.sl 1 (List.map Go.Aw.encI ((Pn.sneed y s).1))),(AV.int ((Pn.sneed y s).2))])∧st=[]):=by
  refine acalls_body Tryz.func101 (by kernel_rfl) rfl Tryz.ntmps101 (le_ rfl) ?_;rw [Tryz.results101];refine asr ?_;refine sB fun n1=> ?_;refine sB fun n2=> ?_;refine sA ?_;refine sA ?_;refine aops_nil ?_;refine awp_seq ?_;refine asr ?_;refine sW k1 ?_;refine aops_call (blt_lt rfl) (.plain rfl) (.cons (.imp (.plain rfl) (AV.Imp.agg (RowOf.imp (enc:=encSg)))) .nil) (ACalls.here (sgchk_c y) ?_);refine sA ?_;refine aops_nil ?_;refine asr ?_;refine sM ?_;refine sR ?_;refine aops_nil ?_;refine awp_cond rfl (fun h1=> ?_) (fun h1=> ?_)
  ·simp only [nf] at h1;refine asr ?_;refine sM ?_;refine sA ?_;refine sA ?_;refine aops_nil ?_;refine awp_ret ?_;refine retG (.inr rfl) (.cons (.tmp rfl) (.cons (.tmp rfl) .nil)) (VShift.of2 (AV.Imp.tup (.cons (Sl.imp (enc:=Go.Aw.encI)) (.cons (AV.Imp.refl _) .nil))) (.nil _)) ⟨congrArg (fun x:(List (Int))×(Int)=>(AV.tup [(AV.sl 1 (List.map Go.Aw.encI x.1)),(AV.int x.2)])) (show (_,_)=(Pn.sneed y s) from ?_),rfl⟩;rw [Pn.sneed,if_pos (show Pn.sgchk y≠0 by omega)];all_goals rfl
  ·simp only [nf] at h1;refine awp_skip ?_;refine awp_seq ?_;refine awp_seq ?_;have hgk:Pn.Sgok y:=Pn.sgchk_ok (by omega);refine awp_region ?_;refine sW k1 ?_;refine sW .here ?_;refine aops_call (blt_lt rfl) (.plain rfl) (.cons (.imp (.plain rfl) (AV.Imp.agg (RowOf.imp (enc:=encSg)))) (.cons (.imp (.plain rfl) (AV.Imp.agg (RowOf.imp (enc:=encSt)))) .nil)) (ACalls.here (sval_c y s hgk) ?_);refine sO ?_;refine aops_nil ?_;refine awp_cond rfl (fun h2=> ?_) (fun h2=> ?_)
   ·simp only [nf] at h2;refine asr ?_;refine sA ?_;refine sA ?_;refine aops_nil ?_;refine awp_ret ?_;refine retG (.inr rfl) (.cons (.tmp rfl) (.cons (.tmp rfl) .nil)) (VShift.of2 (AV.Imp.tup (.cons (Sl.imp (enc:=Go.Aw.encI)) (.cons (AV.Imp.refl _) .nil))) (.nil _)) ⟨congrArg (fun x:(List (Int))×(Int)=>(AV.tup [(AV.sl 1 (List.map Go.Aw.encI x.1)),(AV.int x.2)])) (show (_,_)=(Pn.sneed y s) from ?_),rfl⟩;rw [Pn.sneed,if_neg (show ¬ Pn.sgchk y≠0 by omega),if_pos (by simp_all)];all_goals rfl
   ·simp only [nf] at h2;refine awp_skip ?_;refine awp_seq ?_;refine awp_block ?_;refine awp_seq ?_;have hsvt:Pn.sval y s=true:=by simp_all
    have hsv:=Pn.sval_ok hsvt;have hbd:=Pn.sbnd_bd hgk;refine awp_region ?_;refine sF ?_;refine sL .here ?_;refine sM ?_;refine gF ?_;refine gL0 k1 ?_;refine gQ0 ?_;refine sK ?_;refine sA ?_;refine aops_nil ?_;refine awp_cond rfl (fun h3=> ?_) (fun h3=> ?_)
    ·simp only [nf] at h3;refine asr ?_;refine sA ?_;refine sA ?_;refine aops_nil ?_;refine awp_ret ?_;refine retG (.inr rfl) (.cons (.tmp rfl) (.cons (.tmp rfl) .nil)) (VShift.of2 (AV.Imp.tup (.cons (Sl.imp (enc:=Go.Aw.encI)) (.cons (AV.Imp.refl _) .nil))) (.nil _)) ⟨congrArg (fun x:(List (Int))×(Int)=>(AV.tup [(AV.sl 1 (List.map Go.Aw.encI x.1)),(AV.int x.2)])) (show (_,_)=(Pn.sneed y s) from ?_),rfl⟩;rw [Pn.sneed,if_neg (show ¬ Pn.sgchk y≠0 by omega),if_neg (by simp_all),if_pos (by simp_all)];all_goals rfl
    ·simp only [nf] at h3;refine asr ?_;refine sF ?_;refine sL k1 ?_;refine sQ ?_;refine sM ?_;refine gW k1 ?_;refine gW .here ?_;refine gF ?_;refine gL0 .here ?_;refine st_g rfl rfl rfl SaysI.out (fun hc _=>by exact y_call (.plain rfl) (.cons (.imp (.opt rfl hc) (AV.Imp.agg (RowOf.imp (enc:=encSg)))) (.cons (.imp (.opt rfl hc) (AV.Imp.agg (RowOf.imp (enc:=encSt)))) (.cons (.opt rfl hc) .nil))) (ACalls.pure (sended_c y s _ (fun h9=>by (simp at hc;omega)) (by omega)))) rfl ?_;refine sJ ?_;refine sA ?_;refine aops_nil ?_;refine awp_cond rfl (fun h4=> ?_) (fun h4=> ?_)
     ·simp only [nf] at h4;refine asr ?_;refine sF ?_;refine sL .here ?_;refine st_p (fun _=>by exact y_sub (.plain rfl) (.plain rfl) (by omega)) rfl ?_;refine st_p (fun _=>by exact y_buildSlice (.cons (.plain rfl) inferInstance (by rfl) .nil) rfl (le_ rfl)) rfl ?_;refine sA ?_;refine sA ?_;refine aops_nil ?_;refine awp_ret ?_;refine retG (.inr rfl) (.cons (.tmp rfl) (.cons (.tmp rfl) .nil)) (VShift.of2 (AV.Imp.tup (.cons (Sl.imp (enc:=Go.Aw.encI)) (.cons (AV.Imp.refl _) .nil))) (.nil _)) ⟨congrArg (fun x:(List (Int))×(Int)=>(AV.tup [(AV.sl 1 (List.map Go.Aw.encI x.1)),(AV.int x.2)])) (show (_,_)=(Pn.sneed y s) from ?_),rfl⟩;rw [Pn.sneed,if_neg (show ¬ Pn.sgchk y≠0 by omega),if_neg (by simp_all),if_neg (by simp_all),if_pos (by simp_all)];all_goals rfl
     ·simp only [nf] at h4;refine asr ?_;refine sF ?_;refine sL k1 ?_;refine sQ ?_;refine sA ?_;refine aops_nil ?_;refine awp_cond rfl (fun h5=> ?_) (fun h5=> ?_)
      ·simp only [nf] at h5;refine asr ?_;refine sF ?_;refine sL .here ?_;refine st_p (fun _=>by exact y_buildSlice (.cons (.plain rfl) inferInstance (by rfl) .nil) rfl (le_ rfl)) rfl ?_;refine sA ?_;refine sA ?_;refine aops_nil ?_;refine awp_ret ?_;refine retG (.inr rfl) (.cons (.tmp rfl) (.cons (.tmp rfl) .nil)) (VShift.of2 (AV.Imp.tup (.cons (Sl.imp (enc:=Go.Aw.encI)) (.cons (AV.Imp.refl _) .nil))) (.nil _)) ⟨congrArg (fun x:(List (Int))×(Int)=>(AV.tup [(AV.sl 1 (List.map Go.Aw.encI x.1)),(AV.int x.2)])) (show (_,_)=(Pn.sneed y s) from ?_),rfl⟩;rw [Pn.sneed,if_neg (show ¬ Pn.sgchk y≠0 by omega),if_neg (by simp_all),if_neg (by simp_all),if_neg (by simp_all),if_pos (by omega)];all_goals rfl
      ·simp only [nf] at h5;refine asr ?_;refine sF ?_;refine sL k1 ?_;refine sQ ?_;refine sM ?_;refine gW k1 ?_;refine gW .here ?_;refine st_g rfl rfl rfl SaysI.out (fun hc _=>by exact y_call (.plain rfl) (.cons (.imp (.opt rfl hc) (AV.Imp.agg (RowOf.imp (enc:=encSg)))) (.cons (.imp (.opt rfl hc) (AV.Imp.agg (RowOf.imp (enc:=encSt)))) (.cons (.plain rfl) .nil))) (ACalls.pure (sended_c y s _ (fun h9=>by (refine⟨?_,by decide⟩;have:=(Pn.sbnd_k y).1 h9;rw [this] at hsv;simp at hsv;omega)) (by omega)))) rfl ?_;refine gM0 ?_;refine gF ?_;refine gL0 .here ?_;refine gN0 ?_;refine gG0 ?_;refine st_g rfl rfl rfl SaysI.out (fun hc _=>by exact y_or' hc (.opt rfl hc) rfl rfl) rfl ?_;refine sJ ?_;refine sA ?_;refine aops_nil ?_;refine awp_cond rfl (fun h6=> ?_) (fun h6=> ?_)
       ·simp only [nf] at h6;refine asr ?_;refine st_p (fun _=>by exact y_buildSlice (.cons (.plain rfl) inferInstance (by rfl) .nil) rfl (le_ rfl)) rfl ?_;refine sA ?_;refine sA ?_;refine aops_nil ?_;refine awp_ret ?_;refine retG (.inr rfl) (.cons (.tmp rfl) (.cons (.tmp rfl) .nil)) (VShift.of2 (AV.Imp.tup (.cons (Sl.imp (enc:=Go.Aw.encI)) (.cons (AV.Imp.refl _) .nil))) (.nil _)) ⟨congrArg (fun x:(List (Int))×(Int)=>(AV.tup [(AV.sl 1 (List.map Go.Aw.encI x.1)),(AV.int x.2)])) (show (_,_)=(Pn.sneed y s) from ?_),rfl⟩;rw [Pn.sneed,if_neg (show ¬ Pn.sgchk y≠0 by omega),if_neg (by simp_all),if_neg (by simp_all),if_neg (by simp_all),if_neg (by omega),if_pos (by simp_all)];all_goals rfl
       ·simp only [nf] at h6;refine awp_skip ?_;refine asr ?_;refine st_p (fun _=>by exact y_buildSlice (.cons (.plain rfl) inferInstance (by rfl) .nil) rfl (le_ rfl)) rfl ?_;refine sA ?_;refine sA ?_;refine aops_nil ?_;refine awp_ret ?_;refine retG (.inr rfl) (.cons (.tmp rfl) (.cons (.tmp rfl) .nil)) (VShift.of2 (AV.Imp.tup (.cons (Sl.imp (enc:=Go.Aw.encI)) (.cons (AV.Imp.refl _) .nil))) (.nil _)) ⟨congrArg (fun x:(List (Int))×(Int)=>(AV.tup [(AV.sl 1 (List.map Go.Aw.encI x.1)),(AV.int x.2)])) (show (_,_)=(Pn.sneed y s) from ?_),rfl⟩;rw [Pn.sneed,if_neg (show ¬ Pn.sgchk y≠0 by omega),if_neg (by simp_all),if_neg (by simp_all),if_neg (by simp_all),if_neg (by omega),if_neg (by rintro⟨a9,b9⟩;simp_all)];all_goals rfl
end Go.Proofs
