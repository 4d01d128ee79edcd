/- A part of the proofs of this seat's statements: S111, S112, S113. It has no conditions of its own. -/
import Derived.Test.YthlkampfjlkniaaGreatDoorXA1
import Derived.Test.YthlkampfjlkniaaGreatDoorXD1
import Derived.Test.YthlkampfjlkniaaGreatDoorXDT1
import Derived.Test.YthlkampfjlkniaaGreatDoorXST1
import Derived.Test.YthlkampfjlkniaaGreatDoorA2
namespace Go.Ab
open Go Go.Proofs
set_option maxRecDepth 100000
set_option maxHeartbeats 4000000
set_option linter.all false
theorem dorR_c(a b:Fm)(g:List Ty)(ha:Gf g a 487)(hb:Gf g b 487)(hg:g.length≤100)(i:Int)(hi:0≤i∧i<1000000)(hr:0≤(noth a.dp 262144 a 0).2)(he:(rightP a b i (noth a.dp 262144 a 0).1).err=0):
 PC E 48 [.agg a.view,.agg b.view,.bool false,.agg (hypP i).view] (.tup [.agg (rightP a b i (noth a.dp 262144 a 0).1).view,.i 0]):=by
 have f1:=gf_full ha (by omega)
 have f2:=gf_full hb (by omega)
 have ea:=ha.err (by omega)
 have eb:=hb.err (by omega)
 have hck:=chk_c [.fm a,.fm b,.pf (hypP i)] (by simp) (by simp only[List.mem_cons,List.not_mem_nil,or_false];rintro x (rfl|rfl|rfl)<;>simp only[Ch.full,hyp_full]<;>omega)
 unfold chV at hck
 have e:firstI Ch.err [.fm a,.fm b,.pf (hypP i)]=0:=firstI_all (by
  intro x hx;simp only[List.mem_cons,List.not_mem_nil,or_false] at hx
  rcases hx with rfl|rfl|rfl
  ·exact ea
  ·exact eb
  ·exact hypP_err hi.1)
 rw[e] at hck
 have h1:=orA_c a b g ha hb hg
 have h2:=dzero_c
 have h3:=upHyp_c i 0 1 hi (by omega) (by omega)
 have h4:=hyp_c 0
 have h2':=dsucc_c zT
 have h6:=dsym_c (sT zT) (hypP 0) (by decide) (by decide)
 have h7:=exFalso_c a (symP (sT zT) (hypP 0)) g ea ha.ok hg
 rw[decide_eq_true (by omega)] at h7
 have nf:=noth_full a.dp a 262144 0 ha.sh (by omega)
 have fo:=gf_full (orA_gf ha hb) (by omega)
 have h12:(rightP a b i (noth a.dp 262144 a 0).1).full<200000000000:=by
  have q1:(eqF (sT zT) zT).full≤100:=by decide
  have q2:(notF (eqF (sT zT) zT)).full≤100:=by decide
  have q3:falseF.full≤100:=by decide
  have q4:(sT zT).full≤100:=by decide
  have q5:(symP (sT zT) (hypP 0)).full≤100:=by decide
  simp only[rightP,someP,andP,impP,exfP,pf_full1,no_size,hyp_full,List.map_cons,List.map_nil,List.sum_cons,List.sum_nil]
  omega
 have h8:=isZero_c (sT zT)
 have h9:=dnot_c (eqF (sT zT) zT)
 generalize hx:(noth a.dp 262144 a 0).1=x at*
 have h10:=dimpI_c (eqF (sT zT) zT) (exfP x (symP (sT zT) (hypP 0)))
 have h11:=dimpI_c (notF (eqF (sT zT) zT)) (hypP (i+1))
 have h13:=dnode_c 3 [impP (eqF (sT zT) zT) (exfP x (symP (sT zT) (hypP 0))),impP (notF (eqF (sT zT) zT)) (hypP (i+1))]
 have h14:=dexI_c (orA a b) (sT zT) (andP (impP (eqF (sT zT) zT) (exfP x (symP (sT zT) (hypP 0)))) (impP (notF (eqF (sT zT) zT)) (hypP (i+1))))
 have h15:=ddone_c (rightP a b i x) h12
 unfold doneR at h15
 rw[if_pos he] at h15
 unfold rightP someP at h15 ⊢
 generalize exfP x (symP (sT zT) (hypP 0))=w at*
 generalize orA a b=o at*
 refine M.F Tryz.func48 ?_
 repeat'(first|refine M.gw ?_|refine M.c2 (hck) ?_|refine M.c2 (h1) ?_|refine M.c2 (h2) ?_|refine M.c2 (h3) ?_|refine M.c2 (h4) ?_|refine M.c2 (h2') ?_|refine M.c2 (h6) ?_|refine M.c2 (h7) ?_|refine M.c2 (h8) ?_|refine M.c2 (h9) ?_|refine M.c2 (h10) ?_|refine M.c2 (h11) ?_|refine M.c2 (h13) ?_|refine M.c2 (h14) ?_|refine M.c2 (h15) ?_|fail)
 all_goals first
  |rfl
  |trace_state
theorem dLeft_c(a b:Fm)(g:List Ty)(ha:Gf g a 487)(hb:Gf g b 487)(hg:g.length≤100)(i:Int)(hi:0≤i∧i<1000000)(hr:0≤(noth b.dp 262144 b 0).2)(he:(leftP a b i (noth b.dp 262144 b 0).1).err=0):
 PC E 18 [.agg a.view,.agg b.view,.agg (hypP i).view] (.tup [.agg (leftP a b i (noth b.dp 262144 b 0).1).view,.i 0]):=by
 have h:=dorL_c a b g ha hb hg i hi hr he
 generalize leftP a b i (noth b.dp 262144 b 0).1=P at*
 refine M.F Tryz.func18 ?_
 repeat'(first|refine M.gw ?_|refine M.c2 (h) ?_|fail)
 rfl
theorem dRight_c(a b:Fm)(g:List Ty)(ha:Gf g a 487)(hb:Gf g b 487)(hg:g.length≤100)(i:Int)(hi:0≤i∧i<1000000)(hr:0≤(noth a.dp 262144 a 0).2)(he:(rightP a b i (noth a.dp 262144 a 0).1).err=0):
 PC E 19 [.agg a.view,.agg b.view,.agg (hypP i).view] (.tup [.agg (rightP a b i (noth a.dp 262144 a 0).1).view,.i 0]):=by
 have h:=dorR_c a b g ha hb hg i hi hr he
 generalize rightP a b i (noth a.dp 262144 a 0).1=P at*
 refine M.F Tryz.func19 ?_
 repeat'(first|refine M.gw ?_|refine M.c2 (h) ?_|fail)
 rfl
theorem upFm_c(f:Fm)(by_:Int)(hs:0≤by_∧by_<274877906944)(hf:f.full<137438953472)(hix:∀p∈f.tms 0,∀q∈p.1.vars 0,0≤q.1∧q.1<549755813888):PC E 52 [.agg f.view,.i by_] (.agg (f.lft 0 by_).view):=by
 have h:=liftFm_c f 0 by_ (by omega) hs hf hix
 generalize f.lft 0 by_=F0 at*
 refine M.F Tryz.func52 ?_
 repeat'(first|refine M.gw ?_|refine M.c2 (h) ?_|fail)
 rfl
theorem known_c(a b:Fm)(x:Tm)(v:Int)(hv:0≤v∧v<1000)(fa:a.full<1000000)(fb:b.full<1000000)(xa:∀p∈a.tms 0,∀q∈p.1.vars 0,0≤q.1∧q.1<549755813888)(xb:∀p∈b.tms 0,∀q∈p.1.vars 0,0≤q.1∧q.1<549755813888):
 AC E 49 [.agg x.view,.i v,.ptr 0 0,.ptr 1 0] ⟨2,[(0,.var a.view),(1,.var b.view)]⟩ (.agg (knownF x a b v).view) ⟨2,[(0,.var a.view),(1,.var b.view)]⟩:=by
 have h1:=isZero_c x
 have h2:=upFm_c a v (by omega) (by omega) xa
 have h3:=upFm_c b v (by omega) (by omega) xb
 have h4:=dnot_c (eqF x zT)
 unfold knownF
 generalize a.lft 0 v=a1 at*
 generalize b.lft 0 v=b1 at*
 have h5:=form_c 3 [eqF x zT,a1]
 have h6:=form_c 3 [notF (eqF x zT),b1]
 have h7:=form_c 2 [twoF 3 (eqF x zT) a1,twoF 3 (notF (eqF x zT)) b1]
 obtain⟨k1,s1,p1,q1⟩:=a1
 obtain⟨k2,s2,p2,q2⟩:=b1
 refine M.F Tryz.func49 ?_
 repeat'(first|refine M.gw ?_|refine M.c2 (h1) ?_|refine M.c2 (h2) ?_|refine M.c2 (h3) ?_|refine M.c2 (h4) ?_|refine M.c2 (h5) ?_|refine M.c2 (h6) ?_|refine M.c2 (h7) ?_|fail)
 (exact M.n2 [some 0,some 1] (h8:=(by simp[tupV,V.wk,V.wks,constV,Ty.view,Tm.view,Fm.view,twoF,Fm.kind,Fm.ty,Fm.terms,Fm.args,Ty.kind,Ty.args])))
theorem dCases_c(a b d:Fm)(g:List Ty)(ha:Gf g a 487)(hb:Gf g b 487)(hd:Gf g d 487)(hg:g.length≤100)(i j k:Int)(hi:0≤i∧i<1000000)(hj:0≤j∧j<1000000)(hk:0≤k∧k<1000000)(he:(casesP a b d (hypP i) (hypP (j+2)) (hypP (k+3))).err=0):
 PC E 20 [.agg a.view,.agg b.view,.agg d.view,.agg (hypP i).view,.agg (hypP j).view,.agg (hypP k).view] (.tup [.agg (casesP a b d (hypP i) (hypP (j+2)) (hypP (k+3))).view,.i 0]):=by
 have f1:=gf_full ha (by omega)
 have f2:=gf_full hb (by omega)
 have f3:=gf_full hd (by omega)
 have ea:=ha.err (by omega)
 have eb:=hb.err (by omega)
 have ed:=hd.err (by omega)
 have xa:=gf_ix ha (by omega) (by omega)
 have xb:=gf_ix hb (by omega) (by omega)
 have xd:=gf_ix hd (by omega) (by omega)
 have hck:=chk_c [.fm a,.fm b,.fm d,.pf (hypP i),.pf (hypP j),.pf (hypP k)] (by simp) (by simp only[List.mem_cons,List.not_mem_nil,or_false];rintro x (rfl|rfl|rfl|rfl|rfl|rfl)<;>simp only[Ch.full,hyp_full]<;>omega)
 unfold chV at hck
 have e:firstI Ch.err [.fm a,.fm b,.fm d,.pf (hypP i),.pf (hypP j),.pf (hypP k)]=0:=firstI_all (by
  intro x hx;simp only[List.mem_cons,List.not_mem_nil,or_false] at hx
  rcases hx with rfl|rfl|rfl|rfl|rfl|rfl
  ·exact ea
  ·exact eb
  ·exact ed
  ·exact hypP_err hi.1
  ·exact hypP_err hj.1
  ·exact hypP_err hk.1)
 rw[e] at hck
 have v0:=tvar_c 0
 have n1:=known_c a b (vT 0) 2 (by omega) (by omega) (by omega) xa xb
 have n2:=known_c a b zT 1 (by omega) (by omega) (by omega) xa xb
 have n3:=known_c a b nxT 2 (by omega) (by omega) (by omega) xa xb
 have u1:=upFm_c d 2 (by omega) (by omega) xd
 have c1:=form_c 3 [knownF (vT 0) a b 2,d.lft 0 2]
 have z0:=dzero_c
 have u2:=upHyp_c j 1 2 hj (by omega) (by omega)
 have u3:=upHyp_c k 2 3 hk (by omega) (by omega)
 have y0:=hyp_c 0
 have r1:=dnode_c 4 [hypP 0]
 have r2:=drefl_c zT
 have r3:=dimpE_c (andLP (hypP 0)) (reflP zT)
 have r4:=dimpE_c (hypP (j+2)) (impEP (andLP (hypP 0)) (reflP zT))
 have r5:=dimpI_c (knownF zT a b 1) (impEP (hypP (j+2)) (impEP (andLP (hypP 0)) (reflP zT)))
 have s1:=dsucc_c (vT 0)
 have s2:=isZero_c nxT
 have s3:=dsym_c nxT (hypP 0) (by decide) (by decide)
 have s4:=dabsurd_c (symP nxT (hypP 0))
 have s5:=dimpI_c (eqF nxT zT) (absurdP (symP nxT (hypP 0)))
 have t1:=dnode_c 5 [hypP 0]
 have t2:=dimpE_c (andRP (hypP 0)) difP
 have t3:=dimpE_c (hypP (k+3)) (impEP (andRP (hypP 0)) difP)
 have t4:=dimpI_c (knownF nxT a b 2) (impEP (hypP (k+3)) (impEP (andRP (hypP 0)) difP))
 have w1:=ind_c 16 (caseF a b d) (vT 0) (caseB a b (hypP (j+2))) (caseS a b (hypP (k+3)))
 have w2:=dimpE_c (indP (caseF a b d) (vT 0) (caseB a b (hypP (j+2))) (caseS a b (hypP (k+3)))) (hypP 0)
 have w3:=dnode_c 11 [hypP i,impEP (indP (caseF a b d) (vT 0) (caseB a b (hypP (j+2))) (caseS a b (hypP (k+3)))) (hypP 0)]
 have kf1:=known_sh ha hb (x:=zT) (by decide) (by decide) 1 (by omega)
 have kf2:=known_sh ha hb (x:=nxT) (by decide) (by decide) 2 (by omega)
 have kf3:=case_sh ha hb hd
 have g1:=ffull_le _ kf1.1
 have g2:=ffull_le _ kf2.1
 have g3:=ffull_le _ kf3.1
 have g4:(reflP zT).full≤100:=by decide
 have g5:difP.full≤1000:=by decide
 have g6:(vT 0).full=2:=vT_full 0
 have h12:(casesP a b d (hypP i) (hypP (j+2)) (hypP (k+3))).full<200000000000:=by
  simp only[casesP,impEP,indP,caseB,caseS,impP,andLP,andRP,pf_full1,no_size,hyp_full,List.map_cons,List.map_nil,List.sum_cons,List.sum_nil]
  omega
 have h15:=ddone_c (casesP a b d (hypP i) (hypP (j+2)) (hypP (k+3))) h12
 unfold doneR at h15
 rw[if_pos he] at h15
 clear kf1 kf2 kf3 g1 g2 g3 g4 g5 g6 h12 he e
 refine M.F Tryz.func20 ?_
 repeat'(first|refine M.go ?_|refine M.c2 (hck) ?_|((with_reducible refine D.aw ?_);(fail_if_success with_reducible refine D.stopR (id:=4) ?_);(fail_if_success with_reducible refine D.stopS (id:=4) ?_);first|refine M.ga ?_)|refine M.gk ?_|fail)
 repeat'(first|refine M.go ?_|refine M.c2 (v0) ?_|(apply L.cvr (n1) [0,1] rfl;rfl;rfl;rfl;rfl;rfl;rfl;rfl;(focus((repeat'(first|exact trivial|refine And.intro ?_ ?_|refine⟨_,U,_,U,_,U,?_⟩|exact VLe.refl _));done));rfl;rfl;rfl;rfl;rfl)|refine M.c2 (u1) ?_|refine M.c2 (c1) ?_|((with_reducible refine D.aw ?_);(fail_if_success with_reducible refine D.stopR (id:=6) ?_);(fail_if_success with_reducible refine D.stopS (id:=6) ?_);first|refine M.ga ?_)|refine M.gk ?_|fail)
 repeat'(first|refine M.go ?_|refine M.c2 (z0) ?_|(apply L.cvr (n2) [0,1] rfl;rfl;rfl;rfl;rfl;rfl;rfl;rfl;(focus((repeat'(first|exact trivial|refine And.intro ?_ ?_|refine⟨_,U,_,U,_,U,?_⟩|exact VLe.refl _));done));rfl;rfl;rfl;rfl;rfl)|refine M.c2 (u2) ?_|refine M.c2 (y0) ?_|refine M.c2 (r1) ?_|refine M.c2 (r2) ?_|refine M.c2 (r3) ?_|refine M.c2 (r4) ?_|refine M.c2 (r5) ?_|((with_reducible refine D.aw ?_);(fail_if_success with_reducible refine D.stopR (id:=7) ?_);(fail_if_success with_reducible refine D.stopS (id:=7) ?_);first|refine M.ga ?_)|refine M.gk ?_|fail)
 repeat'(first|refine M.go ?_|refine M.c2 (v0) ?_|refine M.c2 (s1) ?_|((with_reducible refine D.aw ?_);(fail_if_success with_reducible refine D.stopR (id:=8) ?_);(fail_if_success with_reducible refine D.stopS (id:=8) ?_);first|refine M.ga ?_)|refine M.gk ?_|fail)
 repeat'(first|refine M.go ?_|refine M.c2 (s2) ?_|refine M.c2 (y0) ?_|refine M.c2 (s3) ?_|refine M.c2 (s4) ?_|refine M.c2 (s5) ?_|((with_reducible refine D.aw ?_);(fail_if_success with_reducible refine D.stopR (id:=9) ?_);(fail_if_success with_reducible refine D.stopS (id:=9) ?_);first|refine M.ga ?_)|refine M.gk ?_|fail)
 repeat'(first|refine M.go ?_|(apply L.cvr (n3) [0,1] rfl;rfl;rfl;rfl;rfl;rfl;rfl;rfl;(focus((repeat'(first|exact trivial|refine And.intro ?_ ?_|refine⟨_,U,_,U,_,U,?_⟩|exact VLe.refl _));done));rfl;rfl;rfl;rfl;rfl)|refine M.c2 (u3) ?_|refine M.c2 (y0) ?_|refine M.c2 (t1) ?_|refine M.c2 (t2) ?_|refine M.c2 (t3) ?_|refine M.c2 (t4) ?_|((with_reducible refine D.aw ?_);(fail_if_success with_reducible refine D.stopR (id:=10) ?_);(fail_if_success with_reducible refine D.stopS (id:=10) ?_);first|refine M.ga ?_)|refine M.gk ?_|fail)
 repeat'(first|refine M.go ?_|refine M.c2 (v0) ?_|refine M.c2 (w1) ?_|refine M.c2 (y0) ?_|refine M.c2 (w2) ?_|((with_reducible refine D.aw ?_);(fail_if_success with_reducible refine D.stopR (id:=11) ?_);(fail_if_success with_reducible refine D.stopS (id:=11) ?_);first|refine M.ga ?_)|refine M.gk ?_|fail)
 repeat'(first|refine M.gw ?_|refine M.c2 (w3) ?_|refine M.c2 (h15) ?_|fail)
 all_goals first
  |rfl
  |trace_state
theorem rlfA_c(f:Fm)(g:List Ty)(h:Gf g f 487)(hg:g.length≤100):PC E 46 [.agg f.view,.i 0,.i 1] (.tup [.agg (f.lft 0 1).view,.i 0]):=by
 have ff:=gf_full h (by omega)
 have ix:=gf_ix h (by omega) hg
 have ef:=h.err (by omega)
 have h1:=fcheckR_c f (by omega)
 rw[ef] at h1
 have nf:=(fokT_near h.ok ef (by omega)).1
 have h2:=rleastF_c 536870912 (by omega) _ f (Nat.le_refl _) (by omega) h.sh
 have e2:leastF 536870912 f=true:=nf
 rw[e2] at h2
 have h3:=rupF0_c f 0 1 (by omega) (by omega) (by omega) h.sh ix
 have lf:=lft_full h.sh (fr:=0) (by_:=1) (by omega)
 have h4:=copyFm_c _ (f.lft 0 1) (Nat.le_refl _) (by omega)
 generalize f.lft 0 1=F0 at*
 refine M.F Tryz.func46 ?_
 repeat'(first|refine M.gw ?_|refine M.c2 (h1) ?_|refine M.c2 (h2) ?_|refine M.c2 (h3) ?_|refine M.c2 (h4) ?_|fail)
 all_goals first
  |rfl
  |trace_state
theorem rszA_c(f:Fm)(h:f.err=0):PC E 47 [.agg f.view] (.tup [.agg f.view,.i 0]):=by
 have hz:=((Fm.err_iff f).1 h).2
 have ff:=ferr_full h
 have h1:=fcountR_c _ f (Nat.le_refl _) (by omega)
 refine M.F Tryz.func47 ?_
 repeat'(first|refine M.gw ?_|refine M.c2 (h1) ?_|refine AW.condS U (fun h=> ?_) (fun h=> ?_)|fail)
 all_goals first
  |(exfalso;simp at h;omega)
  |rfl
  |trace_state
theorem rorA_c(a b:Fm)(g:List Ty)(ha:Gf g a 487)(hb:Gf g b 487)(hg:g.length≤100):PC E 16 [.agg a.view,.agg b.view] (.tup [.agg (orA a b).view,.i 0]):=by
 have h1:=rlfA_c a g ha hg
 have h2:=rlfA_c b g hb hg
 have fa:=gf_full ha (by omega)
 have fb:=gf_full hb (by omega)
 have la:=lft_full ha.sh (fr:=0) (by_:=1) (by omega)
 have lb:=lft_full hb.sh (fr:=0) (by_:=1) (by omega)
 have eo:=(orA_gf ha hb).err (by omega)
 have hs:=rszA_c (orA a b) eo
 have v0:=var_c 0
 have n4:=n_c 4 [] (by simp)
 have q1:=eqFm_c (vT 0) zT (by decide) (by decide)
 have q2:=falseN_c
 have z1:zeroF.full≤100:=by decide
 have z2:(notF zeroF).full≤200:=by decide
 unfold orA at hs ⊢
 generalize a.lft 0 1=x at*
 generalize b.lft 0 1=y at*
 have t1:=twoFm_c 3 zeroF x (by omega) (by omega)
 have t2:=twoFm_c 3 zeroF falseF (by decide) (by decide)
 have t3:=twoFm_c 3 (notF zeroF) y (by omega) (by omega)
 have t4:=twoFm_c 2 (twoF 3 zeroF x) (twoF 3 (notF zeroF) y) (by simp only[twoF,Fm.full,Fm.fulls,List.map_nil,List.sum_nil,Ty.size,Ty.sizes];omega) (by simp only[twoF,Fm.full,Fm.fulls,List.map_nil,List.sum_nil,Ty.size,Ty.sizes];omega)
 have t5:=qFm_c 5 natT (twoF 2 (twoF 3 zeroF x) (twoF 3 (notF zeroF) y)) (by decide) (by simp only[twoF,Fm.full,Fm.fulls,List.map_nil,List.sum_nil,Ty.size,Ty.sizes];omega)
 have hn:=nat_c
 obtain⟨k1,s1,p1,r1⟩:=x
 obtain⟨k2,s2,p2,r2⟩:=y
 refine M.F Tryz.func16 ?_
 repeat'(first|refine M.go ?_|refine M.c2 (h1) ?_|refine M.c2 (h2) ?_|((with_reducible refine D.aw ?_);(fail_if_success with_reducible refine D.stopR (id:=7) ?_);(fail_if_success with_reducible refine D.stopS (id:=7) ?_);first|refine M.ga ?_)|refine M.gk ?_|fail)
 repeat'(first|refine M.go ?_|refine M.c2 (v0) ?_|refine M.c2 (n4) ?_|refine M.c2 (q1) ?_|((with_reducible refine D.aw ?_);(fail_if_success with_reducible refine D.stopR (id:=8) ?_);(fail_if_success with_reducible refine D.stopS (id:=8) ?_);first|refine M.ga ?_)|refine M.gk ?_|fail)
 repeat'(first|refine M.go ?_|refine M.c2 (t1) ?_|((with_reducible refine D.aw ?_);(fail_if_success with_reducible refine D.stopR (id:=9) ?_);(fail_if_success with_reducible refine D.stopS (id:=9) ?_);first|refine M.ga ?_)|refine M.gk ?_|fail)
 repeat'(first|refine M.go ?_|refine M.c2 (q2) ?_|refine M.c2 (t2) ?_|refine M.c2 (t3) ?_|((with_reducible refine D.aw ?_);(fail_if_success with_reducible refine D.stopR (id:=10) ?_);(fail_if_success with_reducible refine D.stopS (id:=10) ?_);first|refine M.ga ?_)|refine M.gk ?_|fail)
 repeat'(first|refine M.gw ?_|refine M.c2 (hn) ?_|refine M.c2 (t4) ?_|refine M.c2 (t5) ?_|refine M.c2 (hs) ?_|fail)
 all_goals first
  |rfl
  |trace_state
theorem inf_c(d:Dk){p:Pf}{f:Fm}(ha:Acc d.oK p f)(he:p.err=0)(hp:p.full<274877906944):∃(x:Fm) (e:Int),PC E 14 [.s .fm [],.agg [.s .ty d.ctx.1,.s .fm d.oH],.agg p.view] (tupI x [] e):=by
 have hok:=d.oK_ok
 have hsum:=hok.sum
 have hu:=ha.uses hok he
 have k2:=kInfer_c d.oK.lems d.oK.hyps d.oK.tys p (fun f h=>by cases h) (fun f h=>by have:=ferr_full (hok.hyps f h).1;omega) (by omega) (by have:=hok.nl;omega) (by have:=hok.nh;omega) hp
 rw[hu] at k2
 exact⟨_,_,k2⟩
theorem pg_full{p:Pf}(h:p.err=0):p.full≤65*p.size:=pfull_le p ((Pf.err_iff p).1 h).1
theorem deriveOr_c(l:List Int):PC E 4 [.s .int l] (.bool true):=by
 have hsane:=sane12_c
 have hfew:=few_c l
 by_cases hl:l.length≤500
 case neg=>
  rw[decide_eq_false hl] at hfew
  refine M.F Tryz.func4 ?_
  repeat'(first|refine M.gw ?_|refine M.c2 (hsane) ?_|refine M.c2 (hfew) ?_|fail)
  rfl
 rw[decide_eq_true hl] at hfew
 have hnew:=new_c l
 have hd:(Dk.mk l 0).ok:=⟨Nat.zero_le _,by simp only;omega⟩
 obtain⟨d,hde⟩:∃d,d=Dk.mk l 0:=⟨_,rfl⟩
 rw[←hde] at hnew hd
 have hok:=d.oK_ok
 have hgl:=d.ctx_len
 have hs:=mkSeq_c d hd
 have ok1:=Dk.sqD_ok hd
 have m1:=mkFm_c 2 d.sqD d.ctx.1 2 (by omega) rfl ok1 d.ctx_smalls (by omega)
 rw[show Dk.fm 2 d.sqD d.ctx.1=d.oA from rfl] at m1
 have ok2:d.oA.2.ok:=Dk.fm_ok 2 _ _ ok1
 have m2:=mkFm_c 2 d.oA.2 d.ctx.1 2 (by omega) rfl ok2 d.ctx_smalls (by omega)
 rw[show Dk.fm 2 d.oA.2 d.ctx.1=d.oB from rfl] at m2
 have ok3:d.oB.2.ok:=Dk.fm_ok 2 _ _ ok2
 have m3:=mkFm_c 1 d.oB.2 d.ctx.1 1 (by omega) rfl ok3 d.ctx_smalls (by omega)
 rw[show Dk.fm 1 d.oB.2 d.ctx.1=d.oC from rfl] at m3
 have ga:=d.oA_gf
 have gb:=d.oB_gf
 have gc:=d.oC_gf
 have go:=orA_gf ga gb
 have fa:=gf_full ga (by omega)
 have fb:=gf_full gb (by omega)
 have fc:=gf_full gc (by omega)
 have fo:=gf_full go (by omega)
 have o1:=rorA_c d.oA.1 d.oB.1 d.ctx.1 ga gb (by omega)
 have t1:=twoFm_c 3 d.oA.1 d.oC.1 (by omega) (by omega)
 have t2:=twoFm_c 3 d.oB.1 d.oC.1 (by omega) (by omega)
 have y4:=refHyp_c 4
 have y3:=refHyp_c 3
 have y2:=refHyp_c 2
 have y1:=refHyp_c 1
 have y0:=refHyp_c 0
 have c1:=dLeft_c d.oA.1 d.oB.1 d.ctx.1 ga gb (by omega) 4 (by omega) d.oB_n.1 d.oL_err
 have c2:=dRight_c d.oA.1 d.oB.1 d.ctx.1 ga gb (by omega) 3 (by omega) d.oA_n.1 d.oR_err
 have c3:=dCases_c d.oA.1 d.oB.1 d.oC.1 d.ctx.1 ga gb gc (by omega) 2 1 0 (by omega) (by omega) (by omega) d.oX_err
 rw[show leftP d.oA.1 d.oB.1 4 (noth d.oB.1.dp 262144 d.oB.1 0).1=d.oL from rfl] at c1
 rw[show rightP d.oA.1 d.oB.1 3 (noth d.oA.1.dp 262144 d.oA.1 0).1=d.oR from rfl] at c2
 rw[show casesP d.oA.1 d.oB.1 d.oC.1 (hypP 2) (hypP (1+2)) (hypP (0+3))=d.oX from rfl] at c3
 have lL:=pg_full d.oL_err
 have lR:=pg_full d.oR_err
 have lX:=pg_full d.oX_err
 have sL:=((Pf.err_iff _).1 d.oL_err).2.2
 have sR:=((Pf.err_iff _).1 d.oR_err).2.2
 have sX:=((Pf.err_iff _).1 d.oX_err).2.2
 have k1:=takes_c hok d.oL (orA d.oA.1 d.oB.1) (by omega) (by omega) (d.oL_acc.takes hok d.oL_err (go.err (by omega)) go.ok)
 have k2:=takes_c hok d.oR (orA d.oA.1 d.oB.1) (by omega) (by omega) (d.oR_acc.takes hok d.oR_err (go.err (by omega)) go.ok)
 have k3:=takes_c hok d.oX d.oC.1 (by omega) (by omega) (d.oX_acc.takes hok d.oX_err (gc.err (by omega)) gc.ok)
 obtain⟨x1,e1,i1⟩:=inf_c d d.oL_acc d.oL_err (by omega)
 obtain⟨x2,e2,i2⟩:=inf_c d d.oR_acc d.oR_err (by omega)
 obtain⟨x3,e3,i3⟩:=inf_c d d.oX_acc d.oX_err (by omega)
 have hHl:=d.sqH_len
 unfold Dk.oK at k1 k2 k3
 unfold Dk.oH at k1 k2 k3 i1 i2 i3
 generalize d.oL=P1 at*
 generalize d.oR=P2 at*
 generalize d.oX=P3 at*
 generalize orA d.oA.1 d.oB.1=o at*
 generalize d.oA=pA at*
 generalize d.oB=pB at*
 generalize d.oC=pC at*
 generalize d.sqH=H at*
 generalize d.sqD=dd at*
 generalize d.ctx.1=gx at*
 clear hok ga gb gc go fa fb fc fo lL lR lX sL sR sX ok1 ok2 ok3 hd
 obtain⟨⟨a1,a2,a3,a4⟩,dA⟩:=pA
 obtain⟨⟨b1,b2,b3,b4⟩,dB⟩:=pB
 obtain⟨fC,dC⟩:=pC
 obtain⟨o2,o3,o4,o5⟩:=o
 simp only at*
 refine M.F Tryz.func4 ?_
 repeat'(first|refine M.go ?_|refine M.c2 (hsane) ?_|refine M.c2 (hfew) ?_|refine M.cb (hnew) [] 1 ?_|refine M.cb (hs) [0] 0 ?_|refine M.cb (m1) [0] 0 ?_|refine M.cb (m2) [0] 0 ?_|refine M.cb (m3) [0] 0 ?_|((with_reducible refine D.aw ?_);(fail_if_success with_reducible refine D.stopR (id:=8) ?_);(fail_if_success with_reducible refine D.stopS (id:=8) ?_);first|refine M.ga ?_)|refine M.gk ?_|fail)
 clear m1 m2 m3 hs hnew hsane hfew
 repeat'(first|refine M.go ?_|refine M.c2 (o1) ?_|((with_reducible refine D.aw ?_);(fail_if_success with_reducible refine D.stopR (id:=9) ?_);(fail_if_success with_reducible refine D.stopS (id:=9) ?_);first|refine M.ga ?_)|refine M.gk ?_|fail)
 repeat'(first|refine M.go ?_|refine M.c2 (t1) ?_|refine M.c2 (t2) ?_|((with_reducible refine D.aw ?_);(fail_if_success with_reducible refine D.stopR (id:=10) ?_);(fail_if_success with_reducible refine D.stopS (id:=10) ?_);first|refine M.ga ?_)|refine M.gk ?_|fail)
 repeat'(first|refine M.go ?_|refine M.c2 (y4) ?_|refine M.c2 (c1) ?_|((with_reducible refine D.aw ?_);(fail_if_success with_reducible refine D.stopR (id:=11) ?_);(fail_if_success with_reducible refine D.stopS (id:=11) ?_);first|refine M.ga ?_)|refine M.gk ?_|fail)
 repeat'(first|refine M.go ?_|refine M.c2 (y3) ?_|refine M.c2 (c2) ?_|((with_reducible refine D.aw ?_);(fail_if_success with_reducible refine D.stopR (id:=12) ?_);(fail_if_success with_reducible refine D.stopS (id:=12) ?_);first|refine M.ga ?_)|refine M.gk ?_|fail)
 repeat'(first|refine M.go ?_|refine M.c2 (y2) ?_|refine M.c2 (y1) ?_|refine M.c2 (y0) ?_|refine M.c2 (c3) ?_|((with_reducible refine D.aw ?_);(fail_if_success with_reducible refine D.stopR (id:=13) ?_);(fail_if_success with_reducible refine D.stopS (id:=13) ?_);first|refine M.ga ?_)|refine M.gk ?_|fail)
 refine AW.weak (a2:=[(4,.ptr 0 0),(5,.ptr 1 0),(6,.ptr 2 0),(7,.ptr 3 0),(8,.ptr 4 0),(9,.i 0),(10,.ptr 5 0),(11,.i 0),(12,.ptr 6 0),(13,.i 0),(14,.ptr 7 0),(15,.i 0)]) (σ2:=⟨9,[(0,.var [.s .ty gx,.slice (.own 8) (.t .fm (H++[.mk a1 a2 a3 a4,.mk b1 b2 b3 b4,.mk o2 o3 o4 o5,twoF 3 (.mk a1 a2 a3 a4) fC,twoF 3 (.mk b1 b2 b3 b4) fC]))]),(1,.var (Fm.mk a1 a2 a3 a4).view),(2,.var (Fm.mk b1 b2 b3 b4).view),(3,.var fC.view),(4,.var (Fm.mk o2 o3 o4 o5).view),(5,.var P1.view),(6,.var P2.view),(7,.var P3.view),(8,.row)]⟩) (M.W [some 1,some 2,some 3,some 4,some 5,some 8,some 9,some 10,some 7] (he:=(by(repeat'(first|exact trivial|exact Or.inr ⟨_,U,rfl⟩|refine And.intro ?_ ?_|refine⟨_,U,_,U,_,U,?_⟩|exact VLe.refl _|exact VLe.of_eq (by simp[Sto.upd,twoF])));done))) ?_
 repeat'(first|refine M.gw ?_|refine M.c2 (i3) ?_|refine M.c2 (i1) ?_|refine M.c2 (i2) ?_|refine M.c2 (k1) ?_|refine M.c2 (k2) ?_|refine M.c2 (k3) ?_|((fail_if_success refine AX.wt U ?_);refine AX.gs U U (fun _=>trivial) (fun h=> ?_) (fun h=> ?_))|fail)
 all_goals first
  |rfl
  |trace_state
end Go.Ab
