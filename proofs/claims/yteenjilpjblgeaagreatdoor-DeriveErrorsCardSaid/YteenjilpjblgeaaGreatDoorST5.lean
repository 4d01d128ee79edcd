/- A part of the proofs of this seat's statements: S116, S117, S119, S120, S121, S122. It has no conditions of its own. -/
import Derived.Test.YteenjilpjblgeaaGreatDoorA2
import Derived.Test.YteenjilpjblgeaaGreatDoorST4
import Derived.Test.YteenjilpjblgeaaGreatDoorST1
import Derived.Test.YteenjilpjblgeaaGreatDoorST3
import Derived.Test.YteenjilpjblgeaaGreatDoorS5
import Derived.Test.YteenjilpjblgeaaGreatDoorDT1
namespace Go.Ab
open Go Go.Proofs
set_option maxRecDepth 100000
set_option maxHeartbeats 4000000
set_option linter.all false
def derE(l:List Ch)(ok:Bool)(p:Pf):Pf×Int:=if firstI Ch.err l≠0 then(noPf,firstI Ch.err l) else if ok=false then(noPf,4) else doneR p
theorem dExFalsoW_c(f:Fm)(p:Pf)(hf:f.full<50000000000)(hp:p.full<50000000000):
 PC E 37 [.agg f.view,.agg p.view] (.tup [.agg (derE [.fm f,.pf p] (decide ((nothW f.dp 262144 f 0).2≥0)) (exfP (nothW f.dp 262144 f 0).1 p)).1.view,.i (derE [.fm f,.pf p] (decide ((nothW f.dp 262144 f 0).2≥0)) (exfP (nothW f.dp 262144 f 0).1 p)).2]):=by
 have h1:=chk_c [.fm f,.pf p] (by simp) (by simp only[List.mem_cons,List.not_mem_nil,or_false];rintro x (rfl|rfl)<;>simp only[Ch.full]<;>omega)
 unfold derE
 unfold chV at h1
 by_cases e:firstI Ch.err [.fm f,.pf p]=0
 case neg=>
  rw[if_pos e]
  refine M.F Tryz.func37 ?_
  repeat'(first|refine M.go ?_|refine M.c2 (h1) ?_|((with_reducible refine D.aw ?_);(fail_if_success with_reducible refine D.stopR (id:=4) ?_);(fail_if_success with_reducible refine D.stopS (id:=4) ?_);first|refine M.ga ?_|refine AW.condS U (fun h=> ?_) (fun h=> ?_))|refine M.gk ?_|fail)
  all_goals first
   |rfl
   |(exfalso;simp at h;exact e h)
   |trace_state
 rw[if_neg (by simp[e])]
 rw[e] at h1
 have he:=firstI_zero e
 have ef:f.err=0:=he (.fm f) (by simp)
 have c1:=exFalsoW_c f p ef
 have nf:=nothW_full f.dp f 262144 0 ((Fm.err_iff f).1 ef).1 (by omega)
 have ff:falseF.full≤100:=by decide
 have c2:=ddone_c (exfP (nothW f.dp 262144 f 0).1 p) (by rw[exfP_full];omega)
 generalize exfP (nothW f.dp 262144 f 0).1 p=P at*
 by_cases hr:(nothW f.dp 262144 f 0).2≥0
 ·rw [decide_eq_true hr] at c1 ⊢
  rw[if_neg (by simp)]
  generalize doneR P=Q0 at*
  refine M.F Tryz.func37 ?_
  repeat'(first|refine M.gw ?_|refine M.c2 (h1) ?_|refine M.c2 (c1) ?_|refine M.c2 (c2) ?_|fail)
  rfl
 ·rw [decide_eq_false hr] at c1 ⊢
  rw[if_pos rfl]
  refine M.F Tryz.func37 ?_
  repeat'(first|refine M.gw ?_|refine M.c2 (h1) ?_|refine M.c2 (c1) ?_|fail)
  rfl
def orE(a b:Fm):Int:=if liftFErr a 0 1≠0 then liftFErr a 0 1 else if liftFErr b 0 1≠0 then liftFErr b 0 1 else(orA a b).err
theorem lft_fle(f:Fm)(fr by_:Int):(f.lft fr by_).full≤f.full:=Fm.re_fle (fun b t=>Tm.re_fle (fun i c=>by simp[liftG,Tm.full,Tm.fulls,Ty.size,Ty.sizes]) t 0) f 0
theorem orW_c(a b:Fm)(fa:a.full<34359738368)(fb:b.full<34359738368):PC E 56 [.agg a.view,.agg b.view] (.tup [.agg (if orE a b=0 then orA a b else noFm).view,.i (orE a b)]):=by
 have h1:=fLift_c a 0 1 (by omega)
 have h2:=fLift_c b 0 1 (by omega)
 by_cases ha:liftFErr a 0 1=0
 case neg=>
  have e:orE a b=liftFErr a 0 1:=by unfold orE;rw[if_pos ha]
  rw[if_neg ha] at h1
  rw[e,if_neg ha]
  refine M.F Tryz.func56 ?_
  repeat'(first|refine M.go ?_|refine M.c2 (h1) ?_|((with_reducible refine D.aw ?_);(fail_if_success with_reducible refine D.stopR (id:=4) ?_);(fail_if_success with_reducible refine D.stopS (id:=4) ?_);first|refine M.ga ?_|refine AW.condS U (fun h=> ?_) (fun h=> ?_))|refine M.gk ?_|fail)
  all_goals first
   |rfl
   |(exfalso;simp at h;exact ha h)
   |trace_state
 by_cases hb:liftFErr b 0 1=0
 case neg=>
  have e:orE a b=liftFErr b 0 1:=by unfold orE;rw[if_neg (by simp[ha]),if_pos hb]
  rw[if_neg hb] at h2
  rw[if_pos ha,ha] at h1
  rw[e,if_neg hb]
  refine M.F Tryz.func56 ?_
  repeat'(first|refine M.gw ?_|refine M.c2 (h1) ?_|refine M.c2 (h2) ?_|refine AW.condS U (fun h=> ?_) (fun h=> ?_)|fail)
  all_goals first
   |rfl
   |(exfalso;simp at h;exact hb h)
   |trace_state
 have e:orE a b=(orA a b).err:=by unfold orE;rw[if_neg (by simp[ha]),if_neg (by simp[hb])]
 rw[e]
 exact or_c a b ha hb fa fb (lft_fle a 0 1) (lft_fle b 0 1)
theorem someP_full(f:Fm)(t:Tm)(p:Pf):(someP f t p).full=2+f.full+t.full+p.full:=by
 simp only[someP,pf_full1,no_size,List.map_cons,List.map_nil,List.sum_cons,List.sum_nil];omega
theorem andP_full(p q:Pf):(andP p q).full=2+p.full+q.full:=by
 simp only[andP,pf_full1,no_size,List.map_cons,List.map_nil,List.sum_cons,List.sum_nil];omega
theorem impP_full(f:Fm)(p:Pf):(impP f p).full=2+f.full+p.full:=by
 simp only[impP,pf_full1,no_size,List.map_cons,List.map_nil,List.sum_cons,List.sum_nil];omega
theorem impEP_full(p q:Pf):(impEP p q).full=2+p.full+q.full:=by
 simp only[impEP,pf_full1,no_size,List.map_cons,List.map_nil,List.sum_cons,List.sum_nil];omega
theorem orA_full(a b:Fm):(orA a b).full≤100+a.full+b.full:=by
 have h1:=lft_fle a 0 1
 have h2:=lft_fle b 0 1
 simp only[orA,orF,zeroF,natT,falseF,eqF,Fm.full,Fm.fulls,Tm.fulls,Tm.full,Ty.size,Ty.sizes,List.map_cons,List.map_nil,List.sum_cons,List.sum_nil]
 omega
def lftR(a b:Fm)(p:Pf):Pf×Int:=derE [.fm a,.fm b,.pf p] (decide (orE a b=0∧(nothW b.dp 262144 b 0).2≥0)) (lftW a b p (nothW b.dp 262144 b 0).1)
def rgtR(a b:Fm)(p:Pf):Pf×Int:=derE [.fm a,.fm b,.pf p] (decide (orE a b=0∧(nothW a.dp 262144 a 0).2≥0)) (rgtW a b p (nothW a.dp 262144 a 0).1)
theorem dorLW_c(a b:Fm)(p:Pf)(ha:a.full<1000000000)(hb:b.full<1000000000)(hp:p.full<1000000000):
 PC E 102 [.agg a.view,.agg b.view,.bool true,.agg p.view] (.tup [.agg (lftR a b p).1.view,.i (lftR a b p).2]):=by
 have hck:=chk_c [.fm a,.fm b,.pf p] (by simp) (by simp only[List.mem_cons,List.not_mem_nil,or_false];rintro x (rfl|rfl|rfl)<;>simp only[Ch.full]<;>omega)
 unfold lftR derE
 unfold chV at hck
 by_cases e:firstI Ch.err [.fm a,.fm b,.pf p]=0
 case neg=>
  rw[if_pos e]
  refine M.F Tryz.func102 ?_
  repeat'(first|refine M.go ?_|refine M.c2 (hck) ?_|((with_reducible refine D.aw ?_);(fail_if_success with_reducible refine D.stopR (id:=4) ?_);(fail_if_success with_reducible refine D.stopS (id:=4) ?_);first|refine M.ga ?_|refine AW.condS U (fun h=> ?_) (fun h=> ?_))|refine M.gk ?_|fail)
  all_goals first
   |rfl
   |(exfalso;simp at h;exact e h)
   |trace_state
 rw[if_neg (by simp[e])]
 rw[e] at hck
 have he:=firstI_zero e
 have ea:a.err=0:=he (.fm a) (by simp)
 have eb:b.err=0:=he (.fm b) (by simp)
 have ep:p.err=0:=he (.pf p) (by simp)
 have h1:=orW_c a b (by omega) (by omega)
 by_cases ho:orE a b=0
 case neg=>
  rw[if_neg ho] at h1
  rw[decide_eq_false (by simp[ho]),if_pos rfl]
  refine M.F Tryz.func102 ?_
  repeat'(first|refine M.go ?_|refine M.c2 (hck) ?_|refine M.c2 (h1) ?_|((with_reducible refine D.aw ?_);(fail_if_success with_reducible refine D.stopR (id:=7) ?_);(fail_if_success with_reducible refine D.stopS (id:=7) ?_);first|refine M.ga ?_|refine AW.condS U (fun h=> ?_) (fun h=> ?_))|refine M.gk ?_|fail)
  all_goals first
   |rfl
   |(exfalso;simp at h;exact ho h)
   |trace_state
 rw[if_pos ho,ho] at h1
 have h2:=dzero_c
 have h3:=uphP_c p 0 1 (by omega) (nd_of p ((Pf.err_iff p).1 ep).1)
 have h4:=hyp_c 0
 have h5:=drefl_c zT
 have h6:=dimpE_c (hypP 0) (reflP zT)
 have h7:=exFalsoW_c b (impEP (hypP 0) (reflP zT)) eb
 have nf:=nothW_full b.dp b 262144 0 ((Fm.err_iff b).1 eb).1 (by omega)
 by_cases hr:(nothW b.dp 262144 b 0).2≥0
 case neg=>
  rw[decide_eq_false (by simp[hr]),if_pos rfl]
  rw[decide_eq_false hr] at h7
  generalize exfP (nothW b.dp 262144 b 0).1 (impEP (hypP 0) (reflP zT))=w at*
  generalize orA a b=o at*
  generalize p.uph 0 1=pu at*
  refine M.F Tryz.func102 ?_
  repeat'(first|refine M.gw ?_|refine M.c2 (hck) ?_|refine M.c2 (h1) ?_|refine M.c2 (h2) ?_|refine M.c2 (h3) ?_|refine M.c2 (h4) ?_|refine M.c2 (h5) ?_|refine M.c2 (h6) ?_|refine M.c2 (h7) ?_|fail)
  all_goals first
   |rfl
   |trace_state
 rw[decide_eq_true hr] at h7
 rw[decide_eq_true ⟨ho,hr⟩,if_neg (by simp)]
 have fo:=orA_full a b
 have fu:=uph_full p 0 1
 have h12:(lftW a b p (nothW b.dp 262144 b 0).1).full<200000000000:=by
  have q1:(eqF zT zT).full≤100:=by decide
  have q2:(notF (eqF zT zT)).full≤100:=by decide
  have q3:falseF.full≤100:=by decide
  have q4:zT.full≤100:=by decide
  have q5:(reflP zT).full≤100:=by decide
  have q6:(hypP 0).full=2:=hyp_full 0
  rw[lftW,someP_full,andP_full,impP_full,impP_full,exfP_full,impEP_full]
  omega
 have h8:=isZero_c zT
 have h9:=dnot_c (eqF zT zT)
 have h10:=dimpI_c (eqF zT zT) (p.uph 0 1)
 have h15:=ddone_c (lftW a b p (nothW b.dp 262144 b 0).1) h12
 unfold lftW at h15 ⊢
 generalize exfP (nothW b.dp 262144 b 0).1 (impEP (hypP 0) (reflP zT))=w at*
 generalize orA a b=o at*
 generalize p.uph 0 1=pu at*
 have h11:=dimpI_c (notF (eqF zT zT)) w
 have h13:=dnode_c 3 [impP (eqF zT zT) pu,impP (notF (eqF zT zT)) w]
 have h14:=dexI_c o zT (andP (impP (eqF zT zT) pu) (impP (notF (eqF zT zT)) w))
 unfold someP at h15 ⊢
 generalize doneR (Pf.mk 10 0 (.mk 0 []) [zT] [o] [andP (impP (eqF zT zT) pu) (impP (notF (eqF zT zT)) w)])=Q0 at*
 refine M.F Tryz.func102 ?_
 repeat'(first|refine M.gw ?_|refine M.c2 (hck) ?_|refine M.c2 (h1) ?_|refine M.c2 (h2) ?_|refine M.c2 (h3) ?_|refine M.c2 (h4) ?_|refine M.c2 (h5) ?_|refine M.c2 (h6) ?_|refine M.c2 (h7) ?_|refine M.c2 (h8) ?_|refine M.c2 (h9) ?_|refine M.c2 (h10) ?_|refine M.c2 (h11) ?_|refine M.c2 (h13) ?_|refine M.c2 (h14) ?_|refine M.c2 (h15) ?_|fail)
 all_goals first
  |rfl
  |trace_state
theorem dorRW_c(a b:Fm)(p:Pf)(ha:a.full<1000000000)(hb:b.full<1000000000)(hp:p.full<1000000000):
 PC E 102 [.agg a.view,.agg b.view,.bool false,.agg p.view] (.tup [.agg (rgtR a b p).1.view,.i (rgtR a b p).2]):=by
 have hck:=chk_c [.fm a,.fm b,.pf p] (by simp) (by simp only[List.mem_cons,List.not_mem_nil,or_false];rintro x (rfl|rfl|rfl)<;>simp only[Ch.full]<;>omega)
 unfold rgtR derE
 unfold chV at hck
 by_cases e:firstI Ch.err [.fm a,.fm b,.pf p]=0
 case neg=>
  rw[if_pos e]
  refine M.F Tryz.func102 ?_
  repeat'(first|refine M.go ?_|refine M.c2 (hck) ?_|((with_reducible refine D.aw ?_);(fail_if_success with_reducible refine D.stopR (id:=4) ?_);(fail_if_success with_reducible refine D.stopS (id:=4) ?_);first|refine M.ga ?_|refine AW.condS U (fun h=> ?_) (fun h=> ?_))|refine M.gk ?_|fail)
  all_goals first
   |rfl
   |(exfalso;simp at h;exact e h)
   |trace_state
 rw[if_neg (by simp[e])]
 rw[e] at hck
 have he:=firstI_zero e
 have ea:a.err=0:=he (.fm a) (by simp)
 have eb:b.err=0:=he (.fm b) (by simp)
 have ep:p.err=0:=he (.pf p) (by simp)
 have h1:=orW_c a b (by omega) (by omega)
 by_cases ho:orE a b=0
 case neg=>
  rw[if_neg ho] at h1
  rw[decide_eq_false (by simp[ho]),if_pos rfl]
  refine M.F Tryz.func102 ?_
  repeat'(first|refine M.go ?_|refine M.c2 (hck) ?_|refine M.c2 (h1) ?_|((with_reducible refine D.aw ?_);(fail_if_success with_reducible refine D.stopR (id:=7) ?_);(fail_if_success with_reducible refine D.stopS (id:=7) ?_);first|refine M.ga ?_|refine AW.condS U (fun h=> ?_) (fun h=> ?_))|refine M.gk ?_|fail)
  all_goals first
   |rfl
   |(exfalso;simp at h;exact ho h)
   |trace_state
 rw[if_pos ho,ho] at h1
 have h2:=dzero_c
 have h3:=uphP_c p 0 1 (by omega) (nd_of p ((Pf.err_iff p).1 ep).1)
 have h4:=hyp_c 0
 have h2':=dsucc_c zT
 have h6:=symW_c (sT zT) (hypP 0) (by decide)
 have h7:=exFalsoW_c a (symW (sT zT) (hypP 0)) ea
 have nf:=nothW_full a.dp a 262144 0 ((Fm.err_iff a).1 ea).1 (by omega)
 have q5:=symW_full (sT zT) (hypP 0)
 by_cases hr:(nothW a.dp 262144 a 0).2≥0
 case neg=>
  rw[decide_eq_false (by simp[hr]),if_pos rfl]
  rw[decide_eq_false hr] at h7
  generalize exfP (nothW a.dp 262144 a 0).1 (symW (sT zT) (hypP 0))=w at*
  generalize symW (sT zT) (hypP 0)=sy at*
  generalize orA a b=o at*
  generalize p.uph 0 1=pu at*
  refine M.F Tryz.func102 ?_
  repeat'(first|refine M.gw ?_|refine M.c2 (hck) ?_|refine M.c2 (h1) ?_|refine M.c2 (h2) ?_|refine M.c2 (h3) ?_|refine M.c2 (h4) ?_|refine M.c2 (h2') ?_|refine M.c2 (h6) ?_|refine M.c2 (h7) ?_|fail)
  all_goals first
   |rfl
   |trace_state
 rw[decide_eq_true hr] at h7
 rw[decide_eq_true ⟨ho,hr⟩,if_neg (by simp)]
 have fo:=orA_full a b
 have fu:=uph_full p 0 1
 have h12:(rgtW a b p (nothW a.dp 262144 a 0).1).full<200000000000:=by
  have q1:(eqF (sT zT) zT).full≤100:=by decide
  have q2:(notF (eqF (sT zT) zT)).full≤100:=by decide
  have q3:falseF.full≤100:=by decide
  have q4:(sT zT).full≤100:=by decide
  have q6:(hypP 0).full=2:=hyp_full 0
  rw[rgtW,someP_full,andP_full,impP_full,impP_full,exfP_full]
  omega
 have h8:=isZero_c (sT zT)
 have h9:=dnot_c (eqF (sT zT) zT)
 have h11:=dimpI_c (notF (eqF (sT zT) zT)) (p.uph 0 1)
 have h15:=ddone_c (rgtW a b p (nothW a.dp 262144 a 0).1) h12
 unfold rgtW at h15 ⊢
 generalize exfP (nothW a.dp 262144 a 0).1 (symW (sT zT) (hypP 0))=w at*
 generalize symW (sT zT) (hypP 0)=sy at*
 generalize orA a b=o at*
 generalize p.uph 0 1=pu at*
 have h10:=dimpI_c (eqF (sT zT) zT) w
 have h13:=dnode_c 3 [impP (eqF (sT zT) zT) w,impP (notF (eqF (sT zT) zT)) pu]
 have h14:=dexI_c o (sT zT) (andP (impP (eqF (sT zT) zT) w) (impP (notF (eqF (sT zT) zT)) pu))
 unfold someP at h15 ⊢
 generalize doneR (Pf.mk 10 0 (.mk 0 []) [sT zT] [o] [andP (impP (eqF (sT zT) zT) w) (impP (notF (eqF (sT zT) zT)) pu)])=Q0 at*
 refine M.F Tryz.func102 ?_
 repeat'(first|refine M.gw ?_|refine M.c2 (hck) ?_|refine M.c2 (h1) ?_|refine M.c2 (h2) ?_|refine M.c2 (h3) ?_|refine M.c2 (h4) ?_|refine M.c2 (h2') ?_|refine M.c2 (h6) ?_|refine M.c2 (h7) ?_|refine M.c2 (h8) ?_|refine M.c2 (h9) ?_|refine M.c2 (h10) ?_|refine M.c2 (h11) ?_|refine M.c2 (h13) ?_|refine M.c2 (h14) ?_|refine M.c2 (h15) ?_|fail)
 all_goals first
  |rfl
  |trace_state
theorem dLeftW_c(a b:Fm)(p:Pf)(ha:a.full<1000000000)(hb:b.full<1000000000)(hp:p.full<1000000000):
 PC E 38 [.agg a.view,.agg b.view,.agg p.view] (.tup [.agg (lftR a b p).1.view,.i (lftR a b p).2]):=by
 have h:=dorLW_c a b p ha hb hp
 generalize lftR a b p=P at*
 refine M.F Tryz.func38 ?_
 repeat'(first|refine M.gw ?_|refine M.c2 (h) ?_|fail)
 rfl
theorem dRightW_c(a b:Fm)(p:Pf)(ha:a.full<1000000000)(hb:b.full<1000000000)(hp:p.full<1000000000):
 PC E 39 [.agg a.view,.agg b.view,.agg p.view] (.tup [.agg (rgtR a b p).1.view,.i (rgtR a b p).2]):=by
 have h:=dorRW_c a b p ha hb hp
 generalize rgtR a b p=P at*
 refine M.F Tryz.func39 ?_
 repeat'(first|refine M.gw ?_|refine M.c2 (h) ?_|fail)
 rfl
theorem knownW_c(a b:Fm)(x:Tm)(v:Int)(fa:a.full<1000000000)(fb:b.full<1000000000):
 AC E 106 [.agg x.view,.i v,.ptr 0 0,.ptr 1 0] ⟨2,[(0,.var a.view),(1,.var b.view)]⟩ (.agg (knownW x a b v).view) ⟨2,[(0,.var a.view),(1,.var b.view)]⟩:=by
 have h1:=isZero_c x
 have h2:=upFmW_c a v (by omega)
 have h3:=upFmW_c b v (by omega)
 have h4:=dnot_c (eqF x zT)
 unfold knownW
 generalize a.lw 0 v=a1 at*
 generalize b.lw 0 v=b1 at*
 have h5:=form_c 3 [eqF x zT,a1]
 have h6:=form_c 3 [notF (eqF x zT),b1]
 have h7:=form_c 2 [twoF 3 (eqF x zT) a1,twoF 3 (notF (eqF x zT)) b1]
 obtain⟨k1,s1,p1,q1⟩:=a1
 obtain⟨k2,s2,p2,q2⟩:=b1
 refine M.F Tryz.func106 ?_
 repeat'(first|refine M.gw ?_|refine M.c2 (h1) ?_|refine M.c2 (h2) ?_|refine M.c2 (h3) ?_|refine M.c2 (h4) ?_|refine M.c2 (h5) ?_|refine M.c2 (h6) ?_|refine M.c2 (h7) ?_|fail)
 (exact M.n2 [some 0,some 1] (h8:=(by simp[tupV,V.wk,V.wks,constV,Ty.view,Tm.view,Fm.view,twoF,Fm.kind,Fm.ty,Fm.terms,Fm.args,Ty.kind,Ty.args])))
theorem twoF_full(k:Int)(a b:Fm):(twoF k a b).full=2+a.full+b.full:=by
 simp only[twoF,Fm.full,Fm.fulls,List.map_cons,List.map_nil,List.sum_cons,List.sum_nil,Ty.size,Ty.sizes];omega
theorem notF_full(a:Fm):(notF a).full≤20+a.full:=by
 have:falseF.full≤15:=by decide
 have e:notF a=twoF 3 a falseF:=rfl
 rw[e,twoF_full];omega
theorem knownW_full(x:Tm)(a b:Fm)(v:Int):(knownW x a b v).full≤100+2*x.full+a.full+b.full:=by
 have h1:=flw_full a 0 v
 have h2:=flw_full b 0 v
 have h3:=notF_full (eqF x zT)
 have h4:zT.full≤10:=by decide
 rw[knownW,twoF_full,twoF_full,twoF_full]
 rw[eqf_fl] at*
 omega
def casR(a b d:Fm)(p q r:Pf):Pf×Int:=derR [.fm a,.fm b,.fm d,.pf p,.pf q,.pf r] (casesW a b d p q r)
theorem dCasesW_c(a b d:Fm)(p q r:Pf)(ha:a.full<1000000000)(hb:b.full<1000000000)(hd:d.full<1000000000)(hp:p.full<1000000000)(hq:q.full<1000000000)(hr:r.full<1000000000):
 PC E 42 [.agg a.view,.agg b.view,.agg d.view,.agg p.view,.agg q.view,.agg r.view] (.tup [.agg (casR a b d p q r).1.view,.i (casR a b d p q r).2]):=by
 have hck:=chk_c [.fm a,.fm b,.fm d,.pf p,.pf q,.pf r] (by simp) (by simp only[List.mem_cons,List.not_mem_nil,or_false];rintro x (rfl|rfl|rfl|rfl|rfl|rfl)<;>simp only[Ch.full]<;>omega)
 unfold casR derR
 unfold chV at hck
 by_cases e:firstI Ch.err [.fm a,.fm b,.fm d,.pf p,.pf q,.pf r]=0
 case neg=>
  rw[if_pos e]
  refine M.F Tryz.func42 ?_
  repeat'(first|refine M.go ?_|refine M.c2 (hck) ?_|((with_reducible refine D.aw ?_);(fail_if_success with_reducible refine D.stopR (id:=4) ?_);(fail_if_success with_reducible refine D.stopS (id:=4) ?_);first|refine M.ga ?_|refine AW.condS U (fun h=> ?_) (fun h=> ?_))|refine M.gk ?_|fail)
  all_goals first
   |rfl
   |(exfalso;simp at h;exact e h)
   |trace_state
 rw[if_neg (by simp[e])]
 rw[e] at hck
 have he:=firstI_zero e
 have eq_:q.err=0:=he (.pf q) (by simp)
 have er:r.err=0:=he (.pf r) (by simp)
 have v0:=tvar_c 0
 have n1:=knownW_c a b (vT 0) 2 ha hb
 have n2:=knownW_c a b zT 1 ha hb
 have n3:=knownW_c a b nxT 2 ha hb
 have u1:=upFmW_c d 2 (by omega)
 have z0:=dzero_c
 have u2:=uphP_c q 1 2 (by omega) (nd_of q ((Pf.err_iff q).1 eq_).1)
 have u3:=uphP_c r 2 3 (by omega) (nd_of r ((Pf.err_iff r).1 er).1)
 have y0:=hyp_c 0
 have r1:=dnode_c 4 [hypP 0]
 have r2:=drefl_c zT
 have r3:=dimpE_c (andLP (hypP 0)) (reflP zT)
 have s1:=dsucc_c (vT 0)
 have s2:=isZero_c nxT
 have s3:=symW_c nxT (hypP 0) (by decide)
 have s4:=dabsurd_c (symW nxT (hypP 0))
 have s5:=dimpI_c (eqF nxT zT) (absurdP (symW nxT (hypP 0)))
 have t1:=dnode_c 5 [hypP 0]
 have t2:=dimpE_c (andRP (hypP 0)) difW
 have g1:=knownW_full zT a b 1
 have g2:=knownW_full nxT a b 2
 have g3:=knownW_full (vT 0) a b 2
 have g4:(reflP zT).full≤100:=by decide
 have g5:difW.full≤1000:=by decide
 have g6:(vT 0).full=2:=vT_full 0
 have g7:=uph_full q 1 2
 have g8:=uph_full r 2 3
 have g9:=flw_full d 0 2
 have ga:zT.full≤10:=by decide
 have gb:nxT.full≤10:=by decide
 have gc:=hyp_full 0
 have h12:(casesW a b d p q r).full<200000000000:=by
  simp only[casesW,impEP,indP,caseWB,caseWS,caseWF,impP,andLP,andRP,pf_full1,no_size,twoF_full,gc,g6,List.map_cons,List.map_nil,List.sum_cons,List.sum_nil]
  omega
 have h15:=ddone_c (casesW a b d p q r) h12
 clear g1 g2 g3 g4 g5 g6 g7 g8 g9 ga gb gc h12 e eq_ er he
 unfold casesW caseWB caseWS caseWF difW at*
 generalize q.uph 1 2=qu at*
 generalize r.uph 2 3=ru at*
 generalize absurdP (symW nxT (hypP 0))=dd at*
 generalize symW nxT (hypP 0)=sy at*
 generalize knownW (vT 0) a b 2=K1 at*
 generalize knownW zT a b 1=K2 at*
 generalize knownW nxT a b 2=K3 at*
 generalize d.lw 0 2=du at*
 have c1:=form_c 3 [K1,du]
 have r4:=dimpE_c qu (impEP (andLP (hypP 0)) (reflP zT))
 have r5:=dimpI_c K2 (impEP qu (impEP (andLP (hypP 0)) (reflP zT)))
 have t3:=dimpE_c ru (impEP (andRP (hypP 0)) (impP (eqF nxT zT) dd))
 have t4:=dimpI_c K3 (impEP ru (impEP (andRP (hypP 0)) (impP (eqF nxT zT) dd)))
 have w1:=ind_c 16 (twoF 3 K1 du) (vT 0) (impP K2 (impEP qu (impEP (andLP (hypP 0)) (reflP zT)))) (impP K3 (impEP ru (impEP (andRP (hypP 0)) (impP (eqF nxT zT) dd))))
 have w2:=dimpE_c (indP (twoF 3 K1 du) (vT 0) (impP K2 (impEP qu (impEP (andLP (hypP 0)) (reflP zT)))) (impP K3 (impEP ru (impEP (andRP (hypP 0)) (impP (eqF nxT zT) dd))))) (hypP 0)
 have w3:=dnode_c 11 [p,impEP (indP (twoF 3 K1 du) (vT 0) (impP K2 (impEP qu (impEP (andLP (hypP 0)) (reflP zT)))) (impP K3 (impEP ru (impEP (andRP (hypP 0)) (impP (eqF nxT zT) dd))))) (hypP 0)]
 generalize doneR (Pf.mk 11 0 (.mk 0 []) [] [] [p,impEP (indP (twoF 3 K1 du) (vT 0) (impP K2 (impEP qu (impEP (andLP (hypP 0)) (reflP zT)))) (impP K3 (impEP ru (impEP (andRP (hypP 0)) (impP (eqF nxT zT) dd))))) (hypP 0)])=Q0 at*
 obtain⟨k1,k2,k3,k4⟩:=K1
 obtain⟨d1,d2,d3,d4⟩:=du
 refine M.F Tryz.func42 ?_
 repeat'(first|refine M.go ?_|refine M.c2 (hck) ?_|((with_reducible refine D.aw ?_);(fail_if_success with_reducible refine D.stopR (id:=4) ?_);(fail_if_success with_reducible refine D.stopS (id:=4) ?_);first|refine M.ga ?_)|refine M.gk ?_|fail)
 repeat'(first|refine M.go ?_|refine M.c2 (v0) ?_|(apply L.cvr (n1) [0,1] rfl;rfl;rfl;rfl;rfl;rfl;rfl;rfl;(focus((repeat'(first|exact trivial|refine And.intro ?_ ?_|refine⟨_,U,_,U,_,U,?_⟩|exact VLe.refl _));done));rfl;rfl;rfl;rfl;rfl)|refine M.c2 (u1) ?_|refine M.c2 (c1) ?_|((with_reducible refine D.aw ?_);(fail_if_success with_reducible refine D.stopR (id:=6) ?_);(fail_if_success with_reducible refine D.stopS (id:=6) ?_);first|refine M.ga ?_)|refine M.gk ?_|fail)
 repeat'(first|refine M.go ?_|refine M.c2 (z0) ?_|(apply L.cvr (n2) [0,1] rfl;rfl;rfl;rfl;rfl;rfl;rfl;rfl;(focus((repeat'(first|exact trivial|refine And.intro ?_ ?_|refine⟨_,U,_,U,_,U,?_⟩|exact VLe.refl _));done));rfl;rfl;rfl;rfl;rfl)|refine M.c2 (u2) ?_|refine M.c2 (y0) ?_|refine M.c2 (r1) ?_|refine M.c2 (r2) ?_|refine M.c2 (r3) ?_|refine M.c2 (r4) ?_|refine M.c2 (r5) ?_|((with_reducible refine D.aw ?_);(fail_if_success with_reducible refine D.stopR (id:=7) ?_);(fail_if_success with_reducible refine D.stopS (id:=7) ?_);first|refine M.ga ?_)|refine M.gk ?_|fail)
 repeat'(first|refine M.go ?_|refine M.c2 (v0) ?_|refine M.c2 (s1) ?_|((with_reducible refine D.aw ?_);(fail_if_success with_reducible refine D.stopR (id:=8) ?_);(fail_if_success with_reducible refine D.stopS (id:=8) ?_);first|refine M.ga ?_)|refine M.gk ?_|fail)
 repeat'(first|refine M.go ?_|refine M.c2 (s2) ?_|refine M.c2 (y0) ?_|refine M.c2 (s3) ?_|refine M.c2 (s4) ?_|refine M.c2 (s5) ?_|((with_reducible refine D.aw ?_);(fail_if_success with_reducible refine D.stopR (id:=9) ?_);(fail_if_success with_reducible refine D.stopS (id:=9) ?_);first|refine M.ga ?_)|refine M.gk ?_|fail)
 repeat'(first|refine M.go ?_|(apply L.cvr (n3) [0,1] rfl;rfl;rfl;rfl;rfl;rfl;rfl;rfl;(focus((repeat'(first|exact trivial|refine And.intro ?_ ?_|refine⟨_,U,_,U,_,U,?_⟩|exact VLe.refl _));done));rfl;rfl;rfl;rfl;rfl)|refine M.c2 (u3) ?_|refine M.c2 (y0) ?_|refine M.c2 (t1) ?_|refine M.c2 (t2) ?_|refine M.c2 (t3) ?_|refine M.c2 (t4) ?_|((with_reducible refine D.aw ?_);(fail_if_success with_reducible refine D.stopR (id:=10) ?_);(fail_if_success with_reducible refine D.stopS (id:=10) ?_);first|refine M.ga ?_)|refine M.gk ?_|fail)
 repeat'(first|refine M.go ?_|refine M.c2 (v0) ?_|refine M.c2 (w1) ?_|refine M.c2 (y0) ?_|refine M.c2 (w2) ?_|((with_reducible refine D.aw ?_);(fail_if_success with_reducible refine D.stopR (id:=11) ?_);(fail_if_success with_reducible refine D.stopS (id:=11) ?_);first|refine M.ga ?_)|refine M.gk ?_|fail)
 repeat'(first|refine M.gw ?_|refine M.c2 (w3) ?_|refine M.c2 (h15) ?_|fail)
 all_goals first
  |rfl
  |trace_state
def numR(f:Fm)(p q:Pf):Pf×Int:=derR [.fm f,.pf p,.pf q] (numbersW f p q)
def lisR(f:Fm)(p q:Pf):Pf×Int:=derR [.fm f,.pf p,.pf q] (listsW f p q)
theorem dNumbersW_c(f:Fm)(p q:Pf)(hf:f.full<1000000000)(hp:p.full<1000000000)(hq:q.full<1000000000):
 PC E 40 [.agg f.view,.agg p.view,.agg q.view] (.tup [.agg (numR f p q).1.view,.i (numR f p q).2]):=by
 have h1:=chk_c [.fm f,.pf p,.pf q] (by simp) (by simp only[List.mem_cons,List.not_mem_nil,or_false];rintro x (rfl|rfl|rfl)<;>simp only[Ch.full]<;>omega)
 unfold numR derR
 unfold chV at h1
 by_cases e:firstI Ch.err [.fm f,.pf p,.pf q]=0
 case neg=>
  rw[if_pos e]
  refine M.F Tryz.func40 ?_
  repeat'(first|refine M.go ?_|refine M.c2 (h1) ?_|((with_reducible refine D.aw ?_);(fail_if_success with_reducible refine D.stopR (id:=4) ?_);(fail_if_success with_reducible refine D.stopS (id:=4) ?_);first|refine M.ga ?_|refine AW.condS U (fun h=> ?_) (fun h=> ?_))|refine M.gk ?_|fail)
  all_goals first
   |rfl
   |(exfalso;simp at h;exact e h)
   |trace_state
 rw[if_neg (by simp[e])]
 rw[e] at h1
 have he:=firstI_zero e
 have ep:p.err=0:=he (.pf p) (by simp)
 have eq_:q.err=0:=he (.pf q) (by simp)
 have h2:=uphP_c q 2 1 (by omega) (nd_of q ((Pf.err_iff q).1 eq_).1)
 have h3:=uphP_c p 1 0 (by omega) (nd_of p ((Pf.err_iff p).1 ep).1)
 have h4:=tvar_c 0
 have h6:=lwFm_c f 1 1 (by omega) (by omega)
 have hn:=tnat_c
 have g7:=uph_full q 2 1
 have g8:=uph_full p 1 0
 have g9:=flw_full f 1 1
 have h9:=ddone_c (numbersW f p q) (by simp only[numbersW,pf_full1,no_size,List.map_cons,List.map_nil,List.sum_cons,List.sum_nil,vT_full,Ty.size,Ty.sizes,natT];omega)
 clear g7 g8 g9 e ep eq_ he
 unfold numbersW at h9 ⊢
 generalize q.uph 2 1=qu at*
 generalize p.uph 1 0=pu at*
 generalize f.lw 1 1=fu at*
 have h5:=allE_c [vT 0] qu (by simp)
 simp only[List.foldl_cons,List.foldl_nil] at h5
 have h7:=ind_c 16 fu (vT 0) pu (.mk 9 0 (.mk 0 []) [vT 0] [] [qu])
 have h8:=allI_c natT (.mk 16 0 (.mk 0 []) [vT 0] [fu] [pu,.mk 9 0 (.mk 0 []) [vT 0] [] [qu]])
 generalize doneR (Pf.mk 8 0 natT [] [] [Pf.mk 16 0 (.mk 0 []) [vT 0] [fu] [pu,Pf.mk 9 0 (.mk 0 []) [vT 0] [] [qu]]])=Q0 at*
 refine M.F Tryz.func40 ?_
 repeat'(first|refine M.gw ?_|refine M.c2 (h1) ?_|refine M.c2 (h2) ?_|refine M.c2 (h3) ?_|refine M.c2 (h4) ?_|refine M.c2 (h5) ?_|refine M.c2 (h6) ?_|refine M.c2 (h7) ?_|refine M.c2 (h8) ?_|refine M.c2 (hn) ?_|refine M.c2 (h9) ?_|fail)
 all_goals first
  |rfl
  |trace_state
theorem dListsW_c(f:Fm)(p q:Pf)(hf:f.full<1000000000)(hp:p.full<1000000000)(hq:q.full<1000000000):
 PC E 41 [.agg f.view,.agg p.view,.agg q.view] (.tup [.agg (lisR f p q).1.view,.i (lisR f p q).2]):=by
 have h1:=chk_c [.fm f,.pf p,.pf q] (by simp) (by simp only[List.mem_cons,List.not_mem_nil,or_false];rintro x (rfl|rfl|rfl)<;>simp only[Ch.full]<;>omega)
 unfold lisR derR
 unfold chV at h1
 by_cases e:firstI Ch.err [.fm f,.pf p,.pf q]=0
 case neg=>
  rw[if_pos e]
  refine M.F Tryz.func41 ?_
  repeat'(first|refine M.go ?_|refine M.c2 (h1) ?_|((with_reducible refine D.aw ?_);(fail_if_success with_reducible refine D.stopR (id:=4) ?_);(fail_if_success with_reducible refine D.stopS (id:=4) ?_);first|refine M.ga ?_|refine AW.condS U (fun h=> ?_) (fun h=> ?_))|refine M.gk ?_|fail)
  all_goals first
   |rfl
   |(exfalso;simp at h;exact e h)
   |trace_state
 rw[if_neg (by simp[e])]
 rw[e] at h1
 have he:=firstI_zero e
 have ep:p.err=0:=he (.pf p) (by simp)
 have eq_:q.err=0:=he (.pf q) (by simp)
 have h2:=uphP_c q 3 1 (by omega) (nd_of q ((Pf.err_iff q).1 eq_).1)
 have h3:=uphP_c p 1 0 (by omega) (nd_of p ((Pf.err_iff p).1 ep).1)
 have h4:=tvar_c 0
 have h4':=tvar_c 1
 have h6:=lwFm_c f 1 1 (by omega) (by omega)
 have hn:=tlist_c
 have g7:=uph_full q 3 1
 have g8:=uph_full p 1 0
 have g9:=flw_full f 1 1
 have h9:=ddone_c (listsW f p q) (by simp only[listsW,pf_full1,no_size,List.map_cons,List.map_nil,List.sum_cons,List.sum_nil,vT_full,Ty.size,Ty.sizes,listT];omega)
 clear g7 g8 g9 e ep eq_ he
 unfold listsW at h9 ⊢
 generalize q.uph 3 1=qu at*
 generalize p.uph 1 0=pu at*
 generalize f.lw 1 1=fu at*
 have h5:=allE_c [vT 1,vT 0] qu (by simp)
 simp only[List.foldl_cons,List.foldl_nil] at h5
 have h7:=ind_c 17 fu (vT 0) pu (.mk 9 0 (.mk 0 []) [vT 0] [] [.mk 9 0 (.mk 0 []) [vT 1] [] [qu]])
 have h8:=allI_c listT (.mk 17 0 (.mk 0 []) [vT 0] [fu] [pu,.mk 9 0 (.mk 0 []) [vT 0] [] [.mk 9 0 (.mk 0 []) [vT 1] [] [qu]]])
 generalize doneR (Pf.mk 8 0 listT [] [] [Pf.mk 17 0 (.mk 0 []) [vT 0] [fu] [pu,Pf.mk 9 0 (.mk 0 []) [vT 0] [] [Pf.mk 9 0 (.mk 0 []) [vT 1] [] [qu]]]])=Q0 at*
 refine M.F Tryz.func41 ?_
 repeat'(first|refine M.gw ?_|refine M.c2 (h1) ?_|refine M.c2 (h2) ?_|refine M.c2 (h3) ?_|refine M.c2 (h4) ?_|refine M.c2 (h4') ?_|refine M.c2 (h5) ?_|refine M.c2 (h6) ?_|refine M.c2 (h7) ?_|refine M.c2 (h8) ?_|refine M.c2 (hn) ?_|refine M.c2 (h9) ?_|fail)
 all_goals first
  |rfl
  |trace_state
def eqS:Sto:=⟨1,[(0,.var [.fn (.func 48) [] []])]⟩
mutual
def Tm.sml:Tm→Bool
 | .mk _ i _ xs=>decide (0≤i)&&decide (i<1000)&&Tm.smls xs
def Tm.smls:List Tm→Bool
 |[]=>true
 |t::l=>t.sml&&Tm.smls l
end
mutual
def Fm.sml:Fm→Bool
 | .mk _ _ ts zs=>ts.all Tm.sml&&Fm.smls zs
def Fm.smls:List Fm→Bool
 |[]=>true
 |t::l=>t.sml&&Fm.smls l
end
mutual
def Pf.sml:Pf→Bool
 | .mk _ i _ ts fs zs=>decide (0≤i)&&decide (i<1000)&&ts.all Tm.sml&&fs.all Fm.sml&&Pf.smls zs
def Pf.smls:List Pf→Bool
 |[]=>true
 |t::l=>t.sml&&Pf.smls l
end
def atP(i j:Int):Pf:=allEP (numOf i) (allEP (numOf j) eqP)
def oneF(i j:Int):Fm:=sameF (numOf j) (numOf i)
theorem Gf.up{g:List Ty}{f:Fm}{n m:Nat}(h:Gf g f n)(hm:n≤m):Gf g f m:=⟨h.sh,Nat.le_trans h.sz hm,h.ok⟩
theorem cntPf_c:∀(b:Nat) (t:Pf) (most:Int),t.full≤b→-100≤most∧most≤1000000000→PC E 85 [.agg t.view,.i most] (.i (t.cn most)):=by
 intro b
 induction b with
 |zero=>intro t most h;have:=t.full_pos;omega
 |succ b ih=>
 intro t most hsz hm
 have hsz':=t.full_eq
 have he:=Pf.cn_eq most t
 have hbt:=t.ty.cn_bd (most-1)
 have h1:=cntTy_c _ t.ty (most-1) (Nat.le_refl _) (by omega)
 refine M.F Tryz.func85 ?_
 repeat'(first|refine M.gw ?_|refine M.c2 (h1) ?_|fail)
 generalize hn0:1+t.ty.cn (most-1)=n0 at*
 have hn1:2≤n0∧(n0≤2∨n0≤most+1):=by omega
 have hall:=Tm.cns_bd most t.terms n0
 clear hbt h1 hn0
 refine AW.cutT (ι:=Unit) (fun _=>([(1,.i most),(2,.ptr 0 0),(5,.i (Tm.cns most n0 t.terms))],⟨1,[(0,.var t.view)]⟩)) ?_ ?_
 ·refine AW.block (AW.upto t.terms.length (fun i=>(i:Int)<Tm.cns most n0 (t.terms.take i)∧(Tm.cns most n0 (t.terms.take i)≤2∨Tm.cns most n0 (t.terms.take i)≤most+2))
   (fun i=>([(1,.i most),(2,.ptr 0 0),(5,.i (Tm.cns most n0 (t.terms.take i))),(6,.i i)],⟨1,[(0,.var t.view)]⟩))
   ⟨by simp[Tm.cns];omega,by simp[Tm.cns];omega⟩ (M.W [some 0]) fun i hi hP=> ?_)
  obtain⟨p1,p2⟩:=hP
  by_cases hlt:i<t.terms.length
  ·by_cases hle:Tm.cns most n0 (t.terms.take i)≤most
   ·have htk:=Tm.cns_take hlt hle
    have hs2:=lsum_mem Tm.full (List.getElem_mem hlt)
    have hx:=t.terms[i].cn_bd (most-Tm.cns most n0 (t.terms.take i))
    have hc:=cntTm_c _ t.terms[i] (most-Tm.cns most n0 (t.terms.take i)) (Nat.le_refl _) (by omega)
    repeat'(first|refine M.go ?_|((fail_if_success refine AX.wt U ?_);refine AX.gs U U (fun _=>trivial) (fun h=> ?_) (fun h=> ?_))|((with_reducible refine D.aw ?_);(fail_if_success with_reducible refine D.stopR (id:=5) ?_);(fail_if_success with_reducible refine D.stopS (id:=5) ?_);first|refine M.ga ?_|refine AW.condS U (fun h=> ?_) (fun h=> ?_))|refine M.gk ?_|fail)
    all_goals first
     |(exfalso;simp at h;omega)
     |(exfalso;simp at*;omega)
     |skip
    refine K.sq (AW.block ?_)
    repeat'(first|refine M.gw ?_|refine M.c2 (hc) ?_|fail)
    refine⟨hlt,(show((i+1:Nat):Int)<Tm.cns most n0 (t.terms.take (i+1))∧(Tm.cns most n0 (t.terms.take (i+1))≤2∨Tm.cns most n0 (t.terms.take (i+1))≤most+2) by omega),?_⟩
    simp only[htk]
    exact(M.W [some 0])
   ·have e:=Tm.cns_end hle
    rw[←e]
    repeat'(first|refine M.go ?_|((fail_if_success refine AX.wt U ?_);refine AX.gs U U (fun _=>trivial) (fun h=> ?_) (fun h=> ?_))|((with_reducible refine D.aw ?_);(fail_if_success with_reducible refine D.stopR (id:=5) ?_);(fail_if_success with_reducible refine D.stopS (id:=5) ?_);first|refine M.ga ?_|refine AW.condS U (fun h=> ?_) (fun h=> ?_))|refine M.gk ?_|fail)
    all_goals first
     |(exfalso;simp at*;omega)
     |(exfalso;simp at*;rw[e] at*;omega)
     |exact⟨(),(M.W [some 0])⟩
  ·have e:t.terms.take i=t.terms:=List.take_of_length_le (by omega)
   rw[e]
   repeat'(first|refine M.go ?_|((fail_if_success refine AX.wt U ?_);refine AX.gs U U (fun _=>trivial) (fun h=> ?_) (fun h=> ?_))|((with_reducible refine D.aw ?_);(fail_if_success with_reducible refine D.stopR (id:=5) ?_);(fail_if_success with_reducible refine D.stopS (id:=5) ?_);first|refine M.ga ?_|refine AW.condS U (fun h=> ?_) (fun h=> ?_))|refine M.gk ?_|fail)
   all_goals first
    |(exfalso;simp at*;omega)
    |exact⟨(),(M.W [some 0])⟩
 intro _
 generalize Tm.cns most n0 t.terms=n1 at*
 have hn2:2≤n1∧(n1≤2∨n1≤most+2):=by omega
 clear hall hn1
 have hall:=Fm.cns_bd3 most t.forms n1
 repeat'(first|refine M.gw ?_|fail)
 refine AW.cutT (ι:=Unit) (fun _=>([(1,.i most),(2,.ptr 0 0),(5,.i (Fm.cns most n1 t.forms))],⟨1,[(0,.var t.view)]⟩)) ?_ ?_
 ·refine AW.block (AW.upto t.forms.length (fun i=>(i:Int)<Fm.cns most n1 (t.forms.take i)∧(Fm.cns most n1 (t.forms.take i)≤2∨Fm.cns most n1 (t.forms.take i)≤most+2))
   (fun i=>([(1,.i most),(2,.ptr 0 0),(5,.i (Fm.cns most n1 (t.forms.take i))),(7,.i i)],⟨1,[(0,.var t.view)]⟩))
   ⟨by simp[Fm.cns];omega,by simp[Fm.cns];omega⟩ (M.W [some 0]) fun i hi hP=> ?_)
  obtain⟨p1,p2⟩:=hP
  by_cases hlt:i<t.forms.length
  ·by_cases hle:Fm.cns most n1 (t.forms.take i)≤most
   ·have htk:=Fm.cns_take hlt hle
    have hs2:=lsum_mem Fm.full (List.getElem_mem hlt)
    have hx:=t.forms[i].cn_bd (most-Fm.cns most n1 (t.forms.take i))
    have hc:=cntFm_c _ t.forms[i] (most-Fm.cns most n1 (t.forms.take i)) (Nat.le_refl _) (by omega)
    repeat'(first|refine M.go ?_|((fail_if_success refine AX.wt U ?_);refine AX.gs U U (fun _=>trivial) (fun h=> ?_) (fun h=> ?_))|((with_reducible refine D.aw ?_);(fail_if_success with_reducible refine D.stopR (id:=9) ?_);(fail_if_success with_reducible refine D.stopS (id:=9) ?_);first|refine M.ga ?_|refine AW.condS U (fun h=> ?_) (fun h=> ?_))|refine M.gk ?_|fail)
    all_goals first
     |(exfalso;simp at h;omega)
     |(exfalso;simp at*;omega)
     |skip
    refine K.sq (AW.block ?_)
    repeat'(first|refine M.gw ?_|refine M.c2 (hc) ?_|fail)
    refine⟨hlt,(show((i+1:Nat):Int)<Fm.cns most n1 (t.forms.take (i+1))∧(Fm.cns most n1 (t.forms.take (i+1))≤2∨Fm.cns most n1 (t.forms.take (i+1))≤most+2) by omega),?_⟩
    simp only[htk]
    exact(M.W [some 0])
   ·have e:=Fm.cns_end hle
    rw[←e]
    repeat'(first|refine M.go ?_|((fail_if_success refine AX.wt U ?_);refine AX.gs U U (fun _=>trivial) (fun h=> ?_) (fun h=> ?_))|((with_reducible refine D.aw ?_);(fail_if_success with_reducible refine D.stopR (id:=9) ?_);(fail_if_success with_reducible refine D.stopS (id:=9) ?_);first|refine M.ga ?_|refine AW.condS U (fun h=> ?_) (fun h=> ?_))|refine M.gk ?_|fail)
    all_goals first
     |(exfalso;simp at*;omega)
     |(exfalso;simp at*;rw[e] at*;omega)
     |exact⟨(),(M.W [some 0])⟩
  ·have e:t.forms.take i=t.forms:=List.take_of_length_le (by omega)
   rw[e]
   repeat'(first|refine M.go ?_|((fail_if_success refine AX.wt U ?_);refine AX.gs U U (fun _=>trivial) (fun h=> ?_) (fun h=> ?_))|((with_reducible refine D.aw ?_);(fail_if_success with_reducible refine D.stopR (id:=9) ?_);(fail_if_success with_reducible refine D.stopS (id:=9) ?_);first|refine M.ga ?_|refine AW.condS U (fun h=> ?_) (fun h=> ?_))|refine M.gk ?_|fail)
   all_goals first
    |(exfalso;simp at*;omega)
    |exact⟨(),(M.W [some 0])⟩
 intro _
 generalize Fm.cns most n1 t.forms=n2 at*
 have hn3:2≤n2∧(n2≤2∨n2≤most+2):=by omega
 clear hall hn2
 repeat'(first|refine M.gw ?_|fail)
 refine AW.block (AW.upto t.args.length (fun i=>(i:Int)<Pf.cns most n2 (t.args.take i)∧(Pf.cns most n2 (t.args.take i)≤2∨Pf.cns most n2 (t.args.take i)≤most+2))
  (fun i=>([(1,.i most),(2,.ptr 0 0),(5,.i (Pf.cns most n2 (t.args.take i))),(8,.i i)],⟨1,[(0,.var t.view)]⟩))
  ⟨by simp[Pf.cns];omega,by simp[Pf.cns];omega⟩ (M.W [some 0]) fun i hi hP=> ?_)
 obtain⟨p1,p2⟩:=hP
 by_cases hlt:i<t.args.length
 ·by_cases hle:Pf.cns most n2 (t.args.take i)≤most
  ·have htk:=Pf.cns_take hlt hle
   have hs2:=lsum_mem Pf.full (List.getElem_mem hlt)
   have hx:=t.args[i].cn_bd (most-Pf.cns most n2 (t.args.take i))
   have hc:=ih t.args[i] (most-Pf.cns most n2 (t.args.take i)) (by omega) (by omega)
   repeat'(first|refine M.go ?_|((fail_if_success refine AX.wt U ?_);refine AX.gs U U (fun _=>trivial) (fun h=> ?_) (fun h=> ?_))|((with_reducible refine D.aw ?_);(fail_if_success with_reducible refine D.stopR (id:=13) ?_);(fail_if_success with_reducible refine D.stopS (id:=13) ?_);first|refine M.ga ?_|refine AW.condS U (fun h=> ?_) (fun h=> ?_))|refine M.gk ?_|fail)
   all_goals first
    |(exfalso;simp at h;omega)
    |(exfalso;simp at*;omega)
    |skip
   refine K.sq (AW.block ?_)
   repeat'(first|refine M.gw ?_|refine M.c2 (hc) ?_|fail)
   refine⟨hlt,(show((i+1:Nat):Int)<Pf.cns most n2 (t.args.take (i+1))∧(Pf.cns most n2 (t.args.take (i+1))≤2∨Pf.cns most n2 (t.args.take (i+1))≤most+2) by omega),?_⟩
   simp only[htk]
   exact(M.W [some 0])
  ·have e:=Pf.cns_end hle
   repeat'(first|refine M.go ?_|((fail_if_success refine AX.wt U ?_);refine AX.gs U U (fun _=>trivial) (fun h=> ?_) (fun h=> ?_))|((with_reducible refine D.aw ?_);(fail_if_success with_reducible refine D.stopR (id:=13) ?_);(fail_if_success with_reducible refine D.stopS (id:=13) ?_);first|refine M.ga ?_|refine AW.condS U (fun h=> ?_) (fun h=> ?_))|refine M.gk ?_|fail)
   all_goals first
    |(exfalso;simp at*;omega)
    |(rw[he,e];rfl)
 ·have e:t.args.take i=t.args:=List.take_of_length_le (by omega)
  rw[e]
  repeat'(first|refine M.go ?_|((fail_if_success refine AX.wt U ?_);refine AX.gs U U (fun _=>trivial) (fun h=> ?_) (fun h=> ?_))|((with_reducible refine D.aw ?_);(fail_if_success with_reducible refine D.stopR (id:=13) ?_);(fail_if_success with_reducible refine D.stopS (id:=13) ?_);first|refine M.ga ?_|refine AW.condS U (fun h=> ?_) (fun h=> ?_))|refine M.gk ?_|fail)
  all_goals first
   |(exfalso;simp at*;omega)
   |(rw[he];rfl)
theorem terms12_c(t:Tm):PC E 21 [.agg t.view] (.i (t.cn 20000)):=by
 have h:=cntTm_c _ t 20000 (Nat.le_refl _) (by omega)
 refine M.F Tryz.func21 ?_
 repeat'(first|refine M.gw ?_|refine M.c2 (h) ?_|fail)
 rfl
theorem forms12_c(t:Fm):PC E 22 [.agg t.view] (.i (t.cn 20000)):=by
 have h:=cntFm_c _ t 20000 (Nat.le_refl _) (by omega)
 refine M.F Tryz.func22 ?_
 repeat'(first|refine M.gw ?_|refine M.c2 (h) ?_|fail)
 rfl
theorem proofs12_c(t:Pf):PC E 23 [.agg t.view] (.i (t.cn 20000)):=by
 have h:=cntPf_c _ t 20000 (Nat.le_refl _) (by omega)
 refine M.F Tryz.func23 ?_
 repeat'(first|refine M.gw ?_|refine M.c2 (h) ?_|fail)
 rfl
def earI(a b:Int):Int:=if a≠0 then a else b
theorem earlier_c(a b:Int):PC E 28 [.i a,.i b] (.i (earI a b)):=by
 by_cases h0:a=0
 ·have e:earI a b=b:=by unfold earI;rw[if_neg (by simp[h0])]
  rw[e]
  refine M.F Tryz.func28 ?_
  repeat'(first|refine M.gw ?_|refine AW.condS U (fun h=> ?_) (fun h=> ?_)|fail)
  all_goals first
   |rfl
   |(exfalso;simp at h;exact h h0)
 ·have e:earI a b=a:=by unfold earI;rw[if_pos h0]
  rw[e]
  refine M.F Tryz.func28 ?_
  repeat'(first|refine M.gw ?_|refine AW.condS U (fun h=> ?_) (fun h=> ?_)|fail)
  all_goals first
   |rfl
   |(exfalso;simp at h;exact h0 h)
def okE(F x:Int):Prop:=(F≠0→x=F)∧(F=0→x=0∨x=4)
theorem derR_okE{l:List Ch}{p:Pf}{F:Int}(h:firstI Ch.err l=F):okE F (derR l p).2:=by
 subst h
 unfold derR doneR
 by_cases h1:firstI Ch.err l≠0
 ·rw [if_pos h1];exact⟨fun _=>rfl,fun h=>absurd h h1⟩
 ·rw [if_neg h1]
  refine⟨fun h=>absurd h h1,fun _=> ?_⟩
  split
  ·exact .inl rfl
  ·exact .inr rfl
theorem derE_okE{l:List Ch}{ok:Bool}{p:Pf}{F:Int}(h:firstI Ch.err l=F):okE F (derE l ok p).2:=by
 subst h
 unfold derE doneR
 by_cases h1:firstI Ch.err l≠0
 ·rw [if_pos h1];exact⟨fun _=>rfl,fun h=>absurd h h1⟩
 ·rw [if_neg h1]
  refine⟨fun h=>absurd h h1,fun _=> ?_⟩
  split
  ·exact .inr rfl
  ·split
   ·exact .inl rfl
   ·exact .inr rfl
theorem fi_cons(x:Ch)(l:List Ch):firstI Ch.err (x::l)=earI x.err (firstI Ch.err l):=rfl
theorem fi_zero{x:Ch}(l:List Ch)(h:x.err=0):firstI Ch.err (x::l)=firstI Ch.err l:=by rw[fi_cons,h];rfl
theorem fi_last(x:Ch):firstI Ch.err [x]=x.err:=by
 rw[fi_cons]
 unfold earI
 by_cases h:x.err≠0
 ·rw [if_pos h]
 ·rw [if_neg h];exact(Decidable.not_not.1 h).symm
theorem earI_zero(a:Int):earI a 0=a:=by
 unfold earI
 by_cases h:a≠0
 ·rw [if_pos h]
 ·rw [if_neg h];exact(Decidable.not_not.1 h).symm
theorem all_in{P:Int→Prop}{l:List Int}(h:∀x∈l,P x)(m:Nat)(hm:m<l.length):P l[m]:=h _ (List.getElem_mem hm)
theorem deriveErrors_c(l:List Int)(s:Tm)(f:Fm)(p:Pf):PC E 4 [.s .int l,.agg s.view,.agg f.view,.agg p.view] (.bool true):=by
 have hsane:=sane12_c
 have hfew:=few_c l
 have hcs:=terms12_c s
 have hcf:=forms12_c f
 have hcp:=proofs12_c p
 by_cases hsm:l.length≤500∧s.cn 20000≤400∧f.cn 20000≤300∧p.cn 20000≤500
 case neg=>
  by_cases hl:l.length≤500
  case neg=>
   rw[decide_eq_false hl] at hfew
   refine M.F Tryz.func4 ?_
   repeat'(first|refine M.go ?_|refine M.c2 (hsane) ?_|refine M.c2 (hfew) ?_|((with_reducible refine D.aw ?_);(fail_if_success with_reducible refine D.stopR (id:=5) ?_);(fail_if_success with_reducible refine D.stopS (id:=5) ?_);first|refine M.ga ?_)|refine M.gk ?_|fail)
   all_goals first
    |rfl
    |(exfalso;simp at h;omega)
    |trace_state
  rw[decide_eq_true hl] at hfew
  refine M.F Tryz.func4 ?_
  repeat'(first|refine M.go ?_|refine M.c2 (hsane) ?_|refine M.c2 (hfew) ?_|refine M.c2 (hcs) ?_|refine M.c2 (hcf) ?_|refine M.c2 (hcp) ?_|((fail_if_success refine AX.wt U ?_);refine AX.gs U U (fun _=>trivial) (fun h=> ?_) (fun h=> ?_))|((with_reducible refine D.aw ?_);(fail_if_success with_reducible refine D.stopR (id:=5) ?_);(fail_if_success with_reducible refine D.stopS (id:=5) ?_);first|refine M.ga ?_|refine AW.condS U (fun h=> ?_) (fun h=> ?_))|refine M.gk ?_|fail)
  all_goals first
   |rfl
   |(exfalso;apply hsm;simp at*;omega)
   |trace_state
 obtain⟨hl,hs1,hf1,hp1⟩:=hsm
 have fs:s.full≤400:=by have:=(s.cn_bd 20000).2.2 (by omega);omega
 have ff:f.full≤300:=by have:=(f.cn_bd 20000).2.2 (by omega);omega
 have fp:p.full≤500:=by have:=(p.cn_bd 20000).2.2 (by omega);omega
 rw[decide_eq_true hl] at hfew
 have hnew:=new_c l
 have hd:(Dk.mk l 0).ok:=⟨Nat.zero_le _,by simp only;omega⟩
 obtain⟨d,hde⟩:∃d,d=Dk.mk l 0:=⟨_,rfl⟩
 rw[←hde] at hnew hd
 have hw:=world_c d hd
 have hg:=d.ctx_smalls
 have hgl:=d.ctx_len
 have n0:=d.n0
 have n1:=d.n1
 have f0:=terr_full n0.1.err
 have f1:=terr_full n1.1.err
 have e0:=n0.1.err
 have e1:=n1.1.err
 have hy:=refHyp_c 0
 have pe:(hypP 0).err=0:=hypP_err (by omega)
 have hmf:=mkFm_c 1 d.w2.2 d.ctx.1 1 (by omega) rfl (Dk.w2_ok hd) hg (by omega)
 have gf:=fm1_gf d.w2.2 hg
 have eh:=gf.err (by omega)
 have fh:=ferr_full eh
 generalize Dk.fm 1 d.w2.2 d.ctx.1=HH at*
 obtain⟨fh1,d9⟩:=HH
 simp only at hmf eh fh
 have hk1:=checkTmR_c s (by omega)
 have hk2:=rcheckP_c p (by omega)
 have hk3:=fcheckR_c f (by omega)
 have hE1:=earlier_c s.err p.err
 have hE2:=earlier_c f.err p.err
 generalize hF:earI s.err p.err=F at*
 generalize hG:earI f.err p.err=G at*
 generalize d.w0.1=t0 at*
 generalize d.w1.1=t1 at*
 generalize d.w2.1=t2 at*
 have c1:=dSymW_c s t0 p (by omega) (by omega) (by omega)
 have c2:=dTransW_c t0 s t1 (hypP 0) p (by omega) (by omega) (by omega) (by rw[hyp_full];omega) (by omega)
 have c3:=dCongW_c t0 s t1 p (by omega) (by omega) (by omega) (by omega)
 have c4:=dInjW_c t0 s p (by omega) (by omega) (by omega)
 have c5:=dAbsW_c s p (by omega) (by omega)
 have k1:firstI Ch.err [.tm s,.tm t0,.pf p]=F:=by rw[fi_cons,fi_zero _ (show(Ch.tm t0).err=0 from e0),fi_last];exact hF
 have k2:firstI Ch.err [.tm t0,.tm s,.tm t1,.pf (hypP 0),.pf p]=F:=by rw[fi_zero _ (show(Ch.tm t0).err=0 from e0),fi_cons,fi_zero _ (show(Ch.tm t1).err=0 from e1),fi_zero _ (show(Ch.pf (hypP 0)).err=0 from pe),fi_last];exact hF
 have k3:firstI Ch.err [.tm t0,.tm s,.tm t1,.pf p]=F:=by rw[fi_zero _ (show(Ch.tm t0).err=0 from e0),fi_cons,fi_zero _ (show(Ch.tm t1).err=0 from e1),fi_last];exact hF
 have k4:firstI Ch.err [.tm t0,.tm s,.pf p]=F:=by rw[fi_zero _ (show(Ch.tm t0).err=0 from e0),fi_cons,fi_last];exact hF
 have k5:firstI Ch.err [.tm s,.pf p]=F:=by rw[fi_cons,fi_last];exact hF
 have o1:=derR_okE (p:=symW s p) k1
 have o2:=derR_okE (p:=transW t0 (hypP 0) p) k2
 have o3:=derR_okE (p:=congW t0 s p) k3
 have o4:=derR_okE (p:=injW t0 p) k4
 have o5:=derR_okE (p:=absurdP p) k5
 have v1:=dExFalsoW_c f p (by omega) (by omega)
 have v2:=dLeftW_c f fh1 p (by omega) (by omega) (by omega)
 have v3:=dRightW_c fh1 f p (by omega) (by omega) (by omega)
 have v4:=dNumbersW_c f p (hypP 0) (by omega) (by omega) (by rw[hyp_full];omega)
 have v5:=dListsW_c f p (hypP 0) (by omega) (by omega) (by rw[hyp_full];omega)
 have v6:=dCasesW_c f fh1 fh1 (hypP 0) p (hypP 0) (by omega) (by omega) (by omega) (by rw[hyp_full];omega) (by omega) (by rw[hyp_full];omega)
 have j1:firstI Ch.err [.fm f,.pf p]=G:=by rw[fi_cons,fi_last];exact hG
 have j2:firstI Ch.err [.fm f,.fm fh1,.pf p]=G:=by rw[fi_cons,fi_zero _ (show(Ch.fm fh1).err=0 from eh),fi_last];exact hG
 have j3:firstI Ch.err [.fm fh1,.fm f,.pf p]=G:=by rw[fi_zero _ (show(Ch.fm fh1).err=0 from eh),fi_cons,fi_last];exact hG
 have j4:firstI Ch.err [.fm f,.pf p,.pf (hypP 0)]=G:=by rw[fi_cons,fi_cons,fi_last,show(Ch.pf (hypP 0)).err=0 from pe];rw[show earI (Ch.pf p).err 0=p.err from earI_zero _];exact hG
 have j6:firstI Ch.err [.fm f,.fm fh1,.fm fh1,.pf (hypP 0),.pf p,.pf (hypP 0)]=G:=by rw[fi_cons,fi_zero _ (show(Ch.fm fh1).err=0 from eh),fi_zero _ (show(Ch.fm fh1).err=0 from eh),fi_zero _ (show(Ch.pf (hypP 0)).err=0 from pe),fi_cons,fi_last,show(Ch.pf (hypP 0)).err=0 from pe];rw[show earI (Ch.pf p).err 0=p.err from earI_zero _];exact hG
 have p1:=derE_okE (ok:=decide ((nothW f.dp 262144 f 0).2≥0)) (p:=exfP (nothW f.dp 262144 f 0).1 p) j1
 have p2:okE G (lftR f fh1 p).2:=derE_okE j2
 have p3:okE G (rgtR fh1 f p).2:=derE_okE j3
 have p4:okE G (numR f p (hypP 0)).2:=derR_okE j4
 have p5:okE G (lisR f p (hypP 0)).2:=derR_okE j4
 have p6:okE G (casR f fh1 fh1 (hypP 0) p (hypP 0)).2:=derR_okE j6
 generalize derR [.tm s,.tm t0,.pf p] (symW s p)=R1 at*
 generalize derR [.tm t0,.tm s,.tm t1,.pf (hypP 0),.pf p] (transW t0 (hypP 0) p)=R2 at*
 generalize derR [.tm t0,.tm s,.tm t1,.pf p] (congW t0 s p)=R3 at*
 generalize derR [.tm t0,.tm s,.pf p] (injW t0 p)=R4 at*
 generalize derR [.tm s,.pf p] (absurdP p)=R5 at*
 generalize derE [.fm f,.pf p] (decide ((nothW f.dp 262144 f 0).2≥0)) (exfP (nothW f.dp 262144 f 0).1 p)=U1 at*
 generalize lftR f fh1 p=U2 at*
 generalize rgtR fh1 f p=U3 at*
 generalize numR f p (hypP 0)=U4 at*
 generalize lisR f p (hypP 0)=U5 at*
 generalize casR f fh1 fh1 (hypP 0) p (hypP 0)=U6 at*
 obtain⟨R1,r1⟩:=R1
 obtain⟨R2,r2⟩:=R2
 obtain⟨R3,r3⟩:=R3
 obtain⟨R4,r4⟩:=R4
 obtain⟨R5,r5⟩:=R5
 obtain⟨U1,u1⟩:=U1
 obtain⟨U2,u2⟩:=U2
 obtain⟨U3,u3⟩:=U3
 obtain⟨U4,u4⟩:=U4
 obtain⟨U5,u5⟩:=U5
 obtain⟨U6,u6⟩:=U6
 simp only at o1 o2 o3 o4 o5 p1 p2 p3 p4 p5 p6 c1 c2 c3 c4 c5 v1 v2 v3 v4 v5 v6
 have hX:∀x∈[r1,r2,r3,r4,r5],okE F x:=fun x hx=>by
  simp only[List.mem_cons,List.not_mem_nil,or_false] at hx
  rcases hx with rfl|rfl|rfl|rfl|rfl<;>assumption
 have hY:∀x∈[u1,u2,u3,u4,u5,u6],okE G x:=fun x hx=>by
  simp only[List.mem_cons,List.not_mem_nil,or_false] at hx
  rcases hx with rfl|rfl|rfl|rfl|rfl|rfl<;>assumption
 clear k1 k2 k3 k4 k5 j1 j2 j3 j4 j6 o1 o2 o3 o4 o5 p1 p2 p3 p4 p5 p6 hF hG f0 f1 e0 e1 n0 n1 gf eh fh pe
 have hypv:(hypP 0).view=(hypP 0).view:=rfl
 generalize hypP 0=hy0 at*
 generalize d.ctx.1=gg at*
 generalize d.wH=wH at*
 generalize d.w2.2=d5 at*
 refine M.F Tryz.func4 ?_
 repeat'(first|refine M.go ?_|refine M.c2 (hsane) ?_|refine M.c2 (hfew) ?_|refine M.c2 (hcs) ?_|refine M.c2 (hcf) ?_|refine M.c2 (hcp) ?_|((fail_if_success refine AX.wt U ?_);refine AX.gs U U (fun _=>trivial) (fun h=> ?_) (fun h=> ?_))|((with_reducible refine D.aw ?_);(fail_if_success with_reducible refine D.stopR (id:=5) ?_);(fail_if_success with_reducible refine D.stopS (id:=5) ?_);first|refine M.ga ?_|refine AW.condS U (fun h=> ?_) (fun h=> ?_))|refine M.gk ?_|fail)
 all_goals first
  |(exfalso;simp at*;omega)
  |skip
 repeat'(first|refine M.go ?_|refine M.cb (hnew) [] 1 ?_|refine M.cb (hw) [3] 0 ?_|refine M.c2 (hy) ?_|refine M.cb (hmf) [3] 0 ?_|refine M.c2 (hk1) ?_|refine M.c2 (hk2) ?_|refine M.c2 (hk3) ?_|refine M.c2 (hE1) ?_|refine M.c2 (hE2) ?_|((with_reducible refine D.aw ?_);(fail_if_success with_reducible refine D.stopR (id:=10) ?_);(fail_if_success with_reducible refine D.stopS (id:=10) ?_);first|refine M.ga ?_)|refine M.gk ?_|fail)
 refine AW.weak (a2:=[(5,.ptr 0 0),(6,.ptr 1 0),(7,.ptr 2 0),(11,.ptr 3 0),(12,.ptr 4 0),(13,.ptr 5 0),(14,.i F),(15,.i G)]) (σ2:=⟨6,[(0,.var s.view),(1,.var f.view),(2,.var p.view),(3,.var (t0.view++t1.view++t2.view)),(4,.var hy0.view),(5,.var fh1.view)]⟩) (M.W [some 0,some 1,some 2,some 5,some 6,some 7]) ?_
 repeat'(first|refine M.go ?_|refine M.c2 (c1) ?_|refine M.c2 (c2) ?_|refine M.c2 (c3) ?_|refine M.c2 (c4) ?_|refine M.c2 (c5) ?_|((with_reducible refine D.aw ?_);(fail_if_success with_reducible refine D.stopR (id:=16) ?_);(fail_if_success with_reducible refine D.stopS (id:=16) ?_);first|refine M.ga ?_)|refine M.gk ?_|fail)
 refine AW.range ([r1,r2,r3,r4,r5]:List Int).length (fun m=>True) (fun m=>([(5,.ptr 0 0),(6,.ptr 1 0),(7,.ptr 2 0),(12,.ptr 4 0),(13,.ptr 5 0),(14,.i F),(15,.i G),(122,.s .int [r1,r2,r3,r4,r5]),(123,.i ([r1,r2,r3,r4,r5]:List Int).length),(124,.i m)],⟨6,[(0,.var s.view),(1,.var f.view),(2,.var p.view),(3,.var (t0.view++t1.view++t2.view)),(4,.var hy0.view),(5,.var fh1.view)]⟩))
  (by simp) (fun m=>rfl) (fun m=>rfl) rfl trivial (M.W [some 0,some 1,some 2,some 3,some 4,some 5]) ?_ ?_
 ·intro m hm _
  obtain⟨q1,q2⟩:=all_in hX m hm
  repeat'(first|refine M.gw ?_|((fail_if_success refine AX.wt U ?_);refine AX.gs U U (fun _=>trivial) (fun h=> ?_) (fun h=> ?_))|refine AW.condS U (fun h=> ?_) (fun h=> ?_)|fail)
  all_goals first
   |exact⟨rfl,trivial,(M.W [some 0,some 1,some 2,some 3,some 4,some 5])⟩
   |(exfalso;simp_all;done)
   |(exfalso;simp_all;omega)
   |trace_state
 intro _
 repeat'(first|refine M.go ?_|refine M.c2 (v1) ?_|refine M.c2 (v2) ?_|refine M.c2 (v3) ?_|refine M.c2 (v4) ?_|refine M.c2 (v5) ?_|refine M.c2 (v6) ?_|((with_reducible refine D.aw ?_);(fail_if_success with_reducible refine D.stopR (id:=28) ?_);(fail_if_success with_reducible refine D.stopS (id:=28) ?_);first|refine M.ga ?_)|refine M.gk ?_|fail)
 refine AW.range ([u1,u2,u3,u4,u5,u6]:List Int).length (fun m=>True) (fun m=>([(5,.ptr 0 0),(6,.ptr 1 0),(7,.ptr 2 0),(12,.ptr 4 0),(13,.ptr 5 0),(14,.i F),(15,.i G),(198,.s .int [u1,u2,u3,u4,u5,u6]),(199,.i ([u1,u2,u3,u4,u5,u6]:List Int).length),(200,.i m)],⟨6,[(0,.var s.view),(1,.var f.view),(2,.var p.view),(3,.var (t0.view++t1.view++t2.view)),(4,.var hy0.view),(5,.var fh1.view)]⟩))
  (by simp) (fun m=>rfl) (fun m=>rfl) rfl trivial (M.W [some 0,some 1,some 2,some 3,some 4,some 5]) ?_ ?_
 ·intro m hm _
  obtain⟨q1,q2⟩:=all_in hY m hm
  repeat'(first|refine M.gw ?_|((fail_if_success refine AX.wt U ?_);refine AX.gs U U (fun _=>trivial) (fun h=> ?_) (fun h=> ?_))|refine AW.condS U (fun h=> ?_) (fun h=> ?_)|fail)
  all_goals first
   |exact⟨rfl,trivial,(M.W [some 0,some 1,some 2,some 3,some 4,some 5])⟩
   |(exfalso;simp_all;done)
   |(exfalso;simp_all;omega)
   |trace_state
 intro _
 repeat'(first|refine M.gw ?_|fail)
 all_goals first
  |rfl
  |trace_state
end Go.Ab
