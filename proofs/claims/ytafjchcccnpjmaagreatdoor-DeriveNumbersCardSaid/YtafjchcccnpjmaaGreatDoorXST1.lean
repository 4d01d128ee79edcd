/- A part of the proofs of this seat's statements: S23, S101, S104. It has no conditions of its own. -/
import Derived.Test.YtafjchcccnpjmaaGreatDoorXA1
import Derived.Test.YtafjchcccnpjmaaGreatDoorXD1
import Derived.Test.YtafjchcccnpjmaaGreatDoorXS1
import Derived.Test.YtafjchcccnpjmaaGreatDoorXDT1
import Derived.Test.YtafjchcccnpjmaaGreatDoorA2
import Derived.Test.YtafjchcccnpjmaaGreatDoorS2
import Derived.Test.YtafjchcccnpjmaaGreatDoorD1
import Derived.Test.YtafjchcccnpjmaaGreatDoorST3
namespace Go.Ab
open Go Go.Proofs
set_option maxRecDepth 100000
set_option linter.all false
theorem tnat_c:PC E 71 [] (.agg natT.view):=by
 refine M.F Tryz.func71 ?_
 repeat'(first|refine M.gw ?_|fail)
 rfl
end Go.Ab
namespace Go.Ab
open Go Go.Proofs
set_option maxRecDepth 100000
set_option maxHeartbeats 4000000
set_option linter.all false
theorem dtrec_c(k:Int)(s:Ty)(a b c:Tm):PC E 123 [.i k,.agg s.view,.agg a.view,.agg b.view,.agg c.view] (.agg (Tm.mk k 0 s [a,b,c]).view):=by
 refine M.F Tryz.func123 ?_
 repeat'(first|refine M.gw ?_|fail)
 rfl
theorem vrecur_c(b s o:Tm):PC E 122 [.agg b.view,.agg s.view,.agg o.view] (.agg (Tm.mk 6 0 natT [b,lmT natT (lmT natT s),o]).view):=by
 have h1:=tnat_c
 have h2:=tlam_c s [natT,natT] (by simp)
 have h3:=dtrec_c 6 natT b (lmT natT (lmT natT s)) o
 refine M.F Tryz.func122 ?_
 repeat'(first|refine M.gw ?_|refine M.c2 (h1) ?_|refine M.c2 (h2) ?_|refine M.c2 (h3) ?_|fail)
 rfl
theorem vpred_c:PC E 93 [] (.agg predT.view):=by
 have h1:=tof_c 4 []
 have h2:=tvar_c 1
 have h3:=tvar_c 0
 have h4:=vrecur_c zT (vT 1) (vT 0)
 have h5:=tnat_c
 have h6:=tlam_c (Tm.mk 6 0 natT [zT,lmT natT (lmT natT (vT 1)),vT 0]) [natT] (by simp)
 refine M.F Tryz.func93 ?_
 repeat'(first|refine M.gw ?_|refine M.c2 (h1) ?_|refine M.c2 (h2) ?_|refine M.c2 (h3) ?_|refine M.c2 (h4) ?_|refine M.c2 (h5) ?_|refine M.c2 (h6) ?_|fail)
 rfl
theorem dinj_c(s:Tm)(p:Pf)(hs:s.full<274877906944)(hsx:∀p∈s.vars 0,0≤p.1∧p.1<549755813888):PC E 53 [.agg s.view,.agg p.view] (.agg (injP s p).view):=by
 have h1:=dup_c s 1 (by omega) hs hsx
 have h2:=vpred_c
 have h3:=tvar_c 0
 have h4:=tapp_c predT [vT 0] (by simp)
 have h5:=deq_c (s.re (liftG 0 1) 0) (apT predT (vT 0))
 have h6:=drefl_c s
 have h7:=dsubst_c (eqF (s.re (liftG 0 1) 0) (apT predT (vT 0))) p (reflP s)
 refine M.F Tryz.func53 ?_
 repeat'(first|refine M.gw ?_|refine M.c2 (h1) ?_|refine M.c2 (h2) ?_|refine M.c2 (h3) ?_|refine M.c2 (h4) ?_|refine M.c2 (h5) ?_|refine M.c2 (h6) ?_|refine M.c2 (h7) ?_|fail)
 rfl
theorem dInj_c(s t:Tm)(p:Pf)(hs:s.full<50000000000)(ht:t.full<50000000000)(hp:p.full<50000000000)(hix:s.err=0→∀p∈s.vars 0,0≤p.1∧p.1<549755813888):
 PC E 20 [.agg s.view,.agg t.view,.agg p.view] (.tup [.agg (derR [.tm s,.tm t,.pf p] (injP s p)).1.view,.i (derR [.tm s,.tm t,.pf p] (injP s p)).2]):=by
 have h1:=chk_c [.tm s,.tm t,.pf p] (by simp) (by simp only[List.mem_cons,List.not_mem_nil,or_false];rintro x (rfl|rfl|rfl)<;>simp only[Ch.full]<;>omega)
 unfold derR
 unfold chV at h1
 by_cases e:firstI Ch.err [.tm s,.tm t,.pf p]=0
 case neg=>
  rw[if_pos e]
  refine M.F Tryz.func20 ?_
  repeat'(first|refine M.go ?_|refine M.c2 (h1) ?_|((with_reducible refine D.aw ?_);(fail_if_success with_reducible refine D.stopR (id:=4) ?_);(fail_if_success with_reducible refine D.stopS (id:=4) ?_);first|refine M.ga ?_|refine AW.condS U (fun h=> ?_) (fun h=> ?_))|refine M.gk ?_|fail)
  all_goals first
   |rfl
   |(exfalso;simp at h;exact e h)
   |trace_state
 rw[if_neg (by simp[e])]
 rw[e] at h1
 have he:=firstI_zero e
 have es:s.err=0:=he (.tm s) (by simp)
 have ls:=lift_full 0 1 s 0 ((Tm.err_iff s).1 es).1
 have sf:=terr_full es
 have h2:=dinj_c s p (by omega) (hix es)
 have h3:=ddone_c (injP s p) (by rw[injP,sub_full,eqf_fl,refl_fl,ls,ap_full,vT_full];have:predT.full≤100:=(by decide);omega)
 refine M.F Tryz.func20 ?_
 repeat'(first|refine M.gw ?_|refine M.c2 (h1) ?_|refine M.c2 (h2) ?_|refine M.c2 (h3) ?_|fail)
 all_goals first
  |rfl
  |trace_state
theorem dzero_c:PC E 94 [] (.agg zT.view):=by
 have h1:=tof_c 4 []
 refine M.F Tryz.func94 ?_
 repeat'(first|refine M.gw ?_|refine M.c2 (h1) ?_|fail)
 rfl
theorem dsucc_c(t:Tm):PC E 96 [.agg t.view] (.agg (sT t).view):=by
 have h1:=tof_c 5 [t]
 refine M.F Tryz.func96 ?_
 repeat'(first|refine M.gw ?_|refine M.c2 (h1) ?_|fail)
 rfl
theorem deither_c(s t n:Tm)(ht:t.full<274877906944)(htx:∀p∈t.vars 0,0≤p.1∧p.1<549755813888):PC E 95 [.agg s.view,.agg t.view,.agg n.view] (.agg (eitherT s t n).view):=by
 have h1:=tnat_c
 have h2:=dup_c t 2 (by omega) ht htx
 have h3:=tlam_c (t.re (liftG 0 2) 0) [natT,natT] (by simp)
 have h4:=dtrec_c 6 natT s (lmT natT (lmT natT (t.re (liftG 0 2) 0))) n
 refine M.F Tryz.func95 ?_
 repeat'(first|refine M.gw ?_|refine M.c2 (h1) ?_|refine M.c2 (h2) ?_|refine M.c2 (h3) ?_|refine M.c2 (h4) ?_|fail)
 rfl
theorem dabsurd_c(p:Pf):PC E 54 [.agg p.view] (.agg (absurdP p).view):=by
 have h1:=dzero_c
 have h2:=dsucc_c zT
 have h3:=tvar_c 0
 have h4:=deither_c zT (sT zT) (vT 0) (by decide) (by decide)
 have h5:=deq_c zT (eitherT zT (sT zT) (vT 0))
 have h6:=drefl_c zT
 have h7:=dsubst_c (eqF zT (eitherT zT (sT zT) (vT 0))) p (reflP zT)
 refine M.F Tryz.func54 ?_
 repeat'(first|refine M.gw ?_|refine M.c2 (h1) ?_|refine M.c2 (h2) ?_|refine M.c2 (h3) ?_|refine M.c2 (h4) ?_|refine M.c2 (h5) ?_|refine M.c2 (h6) ?_|refine M.c2 (h7) ?_|fail)
 rfl
theorem dAbsurd_c(t:Tm)(p:Pf)(ht:t.full<50000000000)(hp:p.full<50000000000):
 PC E 21 [.agg t.view,.agg p.view] (.tup [.agg (derR [.tm t,.pf p] (absurdP p)).1.view,.i (derR [.tm t,.pf p] (absurdP p)).2]):=by
 have h1:=chk_c [.tm t,.pf p] (by simp) (by simp only[List.mem_cons,List.not_mem_nil,or_false];rintro x (rfl|rfl)<;>simp only[Ch.full]<;>omega)
 unfold derR
 unfold chV at h1
 by_cases e:firstI Ch.err [.tm t,.pf p]=0
 case neg=>
  rw[if_pos e]
  refine M.F Tryz.func21 ?_
  repeat'(first|refine M.go ?_|refine M.c2 (h1) ?_|((with_reducible refine D.aw ?_);(fail_if_success with_reducible refine D.stopR (id:=4) ?_);(fail_if_success with_reducible refine D.stopS (id:=4) ?_);first|refine M.ga ?_|refine AW.condS U (fun h=> ?_) (fun h=> ?_))|refine M.gk ?_|fail)
  all_goals first
   |rfl
   |(exfalso;simp at h;exact e h)
   |trace_state
 rw[if_neg (by simp[e])]
 rw[e] at h1
 have h2:=dabsurd_c p
 have h3:=ddone_c (absurdP p) (by rw[absurdP,sub_full];have:(eqF zT (eitherT zT (sT zT) (vT 0))).full≤100:=(by decide);have:(reflP zT).full≤100:=(by decide);omega)
 refine M.F Tryz.func21 ?_
 repeat'(first|refine M.gw ?_|refine M.c2 (h1) ?_|refine M.c2 (h2) ?_|refine M.c2 (h3) ?_|fail)
 all_goals first
  |rfl
  |trace_state
theorem world2_c(d:Dk)(hd:d.ok):AC E 9 [.ptr 0 0] ⟨1,[(0,.var d.cells)]⟩ (.tup [.agg [.s .ty d.ctx.1,.slice (.own 1) (.t .fm d.wH)],.agg (d.w0.1.view++d.w1.1.view++d.w2.1.view)]) ⟨2,[(0,.var d.w2.2.cells),(1,.row)]⟩:=by
 have hg:=d.ctx_smalls
 have hgl:=d.ctx_len
 have h1:=mkSeq_c d hd
 have h2:=nat_c
 have ok0:=Dk.sqD_ok hd
 have ok1:d.w0.2.ok:=Dk.tm_ok 3 _ _ _ ok0
 have ok2:d.w1.2.ok:=Dk.tm_ok 3 _ _ _ ok1
 have t0:=term_c 3 (by omega) d.sqD d.ctx.1 natT 1 (by omega) ok0 hg small_nat (by omega) (by omega) (by omega)
 have t1:=term_c 3 (by omega) d.w0.2 d.ctx.1 natT 1 (by omega) ok1 hg small_nat (by omega) (by omega) (by omega)
 have t2:=term_c 3 (by omega) d.w1.2 d.ctx.1 natT 1 (by omega) ok2 hg small_nat (by omega) (by omega) (by omega)
 have e0:Dk.tm 3 d.sqD d.ctx.1 natT=d.w0:=rfl
 have e1:Dk.tm 3 d.w0.2 d.ctx.1 natT=d.w1:=rfl
 have e2:Dk.tm 3 d.w1.2 d.ctx.1 natT=d.w2:=rfl
 rw[e0] at t0
 rw[e1] at t1
 rw[e2] at t2
 have f0:=terr_full d.n0.1.err
 have f1:=terr_full d.n1.1.err
 have f2:=terr_full d.n2.1.err
 have q0:=eqFm_c d.w0.1 d.w1.1 (by omega) (by omega)
 have q1:=eqFm_c d.w1.1 d.w2.1 (by omega) (by omega)
 have hl:=d.sqH_len
 unfold Dk.wH
 generalize d.w0=w0 at*
 generalize d.w1=w1 at*
 generalize d.w2=w2 at*
 refine M.F Tryz.func9 ?_
 repeat'(first|refine M.gw ?_|refine M.cb (h1) [0] 0 ?_|refine M.c2 (h2) ?_|refine M.cb (t0) [0] 0 ?_|refine M.cb (t1) [0] 0 ?_|refine M.cb (t2) [0] 0 ?_|refine M.c2 (q0) ?_|refine M.c2 (q1) ?_|fail)
 refine K.rt [some 0,some 7] rfl rfl rfl rfl rfl ?_ rfl ?_
 ·exact ⟨⟨_,rfl,_,rfl,_,rfl,VsLe.refl _⟩,.inr ⟨_,rfl,rfl⟩,trivial⟩
 ·refine VLe.of_eq ?_
  simp[tupV,Ty.view,Tm.view,List.nil_append]
  rfl
theorem falseN_c:PC E 22 [] (.agg (eqF zT (sT zT)).view):=by
 have h1:=n_c 4 [] (by simp)
 have h2:=n_c 5 [.mk 4 0 (.mk 0 []) []] (by simp[Tm.full,Tm.fulls,Ty.size,Ty.sizes])
 have h3:=eqFm_c (.mk 4 0 (.mk 0 []) []) (.mk 5 0 (.mk 0 []) [.mk 4 0 (.mk 0 []) []]) (by simp[Tm.full,Tm.fulls,Ty.size,Ty.sizes]) (by simp[Tm.full,Tm.fulls,Ty.size,Ty.sizes])
 refine M.F Tryz.func22 ?_
 repeat'(first|refine M.gw ?_|refine M.c2 (h1) ?_|refine M.c2 (h2) ?_|refine M.c2 (h3) ?_|fail)
 rfl
theorem full_s(t:Tm):(sT t).full=2+t.full:=by simp[sT,Tm.full,Tm.fulls,Ty.size,Ty.sizes];try omega
theorem deriveNumbers_c(l:List Int):PC E 4 [.s .int l] (.bool true):=by
 have hsane:=sane12_c
 have hfew:=few_c l
 by_cases hl:l.length≤500
 case neg=>
  rw[decide_eq_false hl] at hfew
  refine M.F Tryz.func4 ?_
  repeat'(first|refine M.gw ?_|refine M.c2 (hsane) ?_|refine M.c2 (hfew) ?_|fail)
  rfl
 rw[decide_eq_true hl] at hfew
 have hnew:=new_c l
 have hd:(Dk.mk l 0).ok:=⟨Nat.zero_le _,by simp only;omega⟩
 obtain⟨d,hde⟩:∃d,d=Dk.mk l 0:=⟨_,rfl⟩
 rw[←hde] at hnew hd
 have hw:=world2_c d hd
 have hok:=d.nC_ok
 have hgl:=d.ctx_len
 have hg:=d.ctx_smalls
 have n0:=d.n0
 have n1:=d.n1
 have n2:=d.n2
 have hy0:=d.nhyp0
 have hy1:=d.nhyp1
 have hH1:=refHyp_c 1
 have hH0:=refHyp_c 0
 have p1e:(hypP 1).err=0:=hypP_err (by omega)
 have p0e:(hypP 0).err=0:=hypP_err (by omega)
 have f0:=terr_full n0.1.err
 have f1:=terr_full n1.1.err
 have f2:=terr_full n2.1.err
 have a1:=inj_acc hok (s:=d.w0.1) (t:=d.w2.1) n0.1 n2.1 (by omega) (by omega) p1e (by rw[hypP_size];omega) hy1
 have a2:=abs_acc hok (n:=d.w1.1) n1.1 (by omega) p0e (by rw[hypP_size];omega) hy0
 have s1:=injP_err n0.1 p1e (by rw[hypP_size];omega)
 have s2:=absP_err p0e (by rw[hypP_size];omega)
 have c1:=dInj_c d.w0.1 d.w2.1 (hypP 1) (by omega) (by omega) (by decide) (fun _=>num_ix n0.1 (by omega))
 have c2:=dAbsurd_c d.w1.1 (hypP 0) (by omega) (by decide)
 rw[derR_ok (by intro x hx;simp only[List.mem_cons,List.not_mem_nil,or_false] at hx;rcases hx with rfl|rfl|rfl;exact n0.1.err;exact n2.1.err;exact p1e) s1] at c1
 rw[derR_ok (by intro x hx;simp only[List.mem_cons,List.not_mem_nil,or_false] at hx;rcases hx with rfl|rfl;exact n1.1.err;exact p0e) s2] at c2
 have lf0:=lift_full 0 1 d.w0.1 0 n0.1.shape
 have fp:predT.full≤100:=by decide
 have k1:=takes_c hok (injP d.w0.1 (hypP 1)) (eqF d.w0.1 d.w2.1) (by rw[injP,sub_full,eqf_fl,refl_fl,hyp_full,ap_full,vT_full,lf0];omega) (by rw[eqf_fl];omega) a1
 have k2:=takes_c hok (absurdP (hypP 0)) (eqF zT (sT zT)) (by decide) (by decide) a2
 have q1:=eqFm_c d.w0.1 d.w2.1 (by omega) (by omega)
 have q2:=falseN_c
 have m0:=n_c 5 [d.w0.1] (by simp;omega)
 have m1:=n_c 5 [d.w1.1] (by simp;omega)
 have m2:=n_c 5 [d.w2.1] (by simp;omega)
 have mz:=n_c 4 [] (by simp)
 have q3:=eqFm_c (sT d.w0.1) (sT d.w2.1) (by rw[full_s];omega) (by rw[full_s];omega)
 have q4:=eqFm_c zT (sT d.w1.1) (by decide) (by rw[full_s];omega)
 have hwl:d.wH.length≤4:=by have:=d.sqH_len;simp[Dk.wH];omega
 unfold Dk.nC Dk.nH at k1 k2
 generalize d.w0.1=w0 at*
 generalize d.w1.1=w1 at*
 generalize d.w2.1=w2 at*
 generalize d.wH=H at*
 generalize d.ctx.1=gg at*
 generalize injP w0 (hypP 1)=P1 at*
 generalize absurdP (hypP 0)=P2 at*
 clear n0 n1 n2 hy0 hy1 s1 s2 a1 a2 lf0 f0 f1 f2 hok hg hgl p1e p0e fp
 refine M.F Tryz.func4 ?_
 repeat'(first|refine M.gw ?_|refine M.c2 (hsane) ?_|refine M.c2 (hfew) ?_|refine M.cb (hnew) [] 1 ?_|refine M.cb (hw) [0] 1 ?_|refine M.c2 (hH1) ?_|refine M.c2 (hH0) ?_|refine M.c2 (c1) ?_|refine M.c2 (c2) ?_|refine M.c2 (m0) ?_|refine M.c2 (m1) ?_|refine M.c2 (m2) ?_|refine M.c2 (mz) ?_|refine M.c2 (q1) ?_|refine M.c2 (q2) ?_|refine M.c2 (q3) ?_|refine M.c2 (q4) ?_|refine M.c2 (k1) ?_|refine M.c2 (k2) ?_|fail)
 all_goals first
  |rfl
  |trace_state
end Go.Ab
