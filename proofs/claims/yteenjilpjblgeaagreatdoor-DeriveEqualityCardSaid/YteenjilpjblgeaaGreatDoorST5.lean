/- A part of the proofs of this seat's statements: S117, S118, S112. It has no conditions of its own. -/
import Derived.Test.YteenjilpjblgeaaGreatDoorA2
import Derived.Test.YteenjilpjblgeaaGreatDoorST4
import Derived.Test.YteenjilpjblgeaaGreatDoorST1
import Derived.Test.YteenjilpjblgeaaGreatDoorST3
import Derived.Test.YteenjilpjblgeaaGreatDoorS4
import Derived.Test.YteenjilpjblgeaaGreatDoorDT1
namespace Go.Ab
open Go Go.Proofs
set_option maxRecDepth 100000
set_option maxHeartbeats 4000000
set_option linter.all false
theorem knownW_c(a b:Fm)(x:Tm)(v:Int)(fa:a.full<1000000000)(fb:b.full<1000000000):
 AC E 106 [.agg x.view,.i v,.ptr 0 0,.ptr 1 0] ⟨2,[(0,.var a.view),(1,.var b.view)]⟩ (.agg (knownW x a b v).view) ⟨2,[(0,.var a.view),(1,.var b.view)]⟩:=by
 have h1:=isZero_c x
 have h2:=upFmW_c a v (by omega)
 have h3:=upFmW_c b v (by omega)
 have h4:=dnot_c (eqF x zT)
 unfold knownW
 generalize a.lw 0 v=a1 at*
 generalize b.lw 0 v=b1 at*
 have h5:=form_c 3 [eqF x zT,a1]
 have h6:=form_c 3 [notF (eqF x zT),b1]
 have h7:=form_c 2 [twoF 3 (eqF x zT) a1,twoF 3 (notF (eqF x zT)) b1]
 obtain⟨k1,s1,p1,q1⟩:=a1
 obtain⟨k2,s2,p2,q2⟩:=b1
 refine M.F Tryz.func106 ?_
 repeat'(first|refine M.gw ?_|refine M.c2 (h1) ?_|refine M.c2 (h2) ?_|refine M.c2 (h3) ?_|refine M.c2 (h4) ?_|refine M.c2 (h5) ?_|refine M.c2 (h6) ?_|refine M.c2 (h7) ?_|fail)
 (exact M.n2 [some 0,some 1] (h8:=(by simp[tupV,V.wk,V.wks,constV,Ty.view,Tm.view,Fm.view,twoF,Fm.kind,Fm.ty,Fm.terms,Fm.args,Ty.kind,Ty.args])))
theorem twoF_full(k:Int)(a b:Fm):(twoF k a b).full=2+a.full+b.full:=by
 simp only[twoF,Fm.full,Fm.fulls,List.map_cons,List.map_nil,List.sum_cons,List.sum_nil,Ty.size,Ty.sizes];omega
theorem notF_full(a:Fm):(notF a).full≤20+a.full:=by
 have:falseF.full≤15:=by decide
 have e:notF a=twoF 3 a falseF:=rfl
 rw[e,twoF_full];omega
theorem knownW_full(x:Tm)(a b:Fm)(v:Int):(knownW x a b v).full≤100+2*x.full+a.full+b.full:=by
 have h1:=flw_full a 0 v
 have h2:=flw_full b 0 v
 have h3:=notF_full (eqF x zT)
 have h4:zT.full≤10:=by decide
 rw[knownW,twoF_full,twoF_full,twoF_full]
 rw[eqf_fl] at*
 omega
def casR(a b d:Fm)(p q r:Pf):Pf×Int:=derR [.fm a,.fm b,.fm d,.pf p,.pf q,.pf r] (casesW a b d p q r)
theorem dCasesW_c(a b d:Fm)(p q r:Pf)(ha:a.full<1000000000)(hb:b.full<1000000000)(hd:d.full<1000000000)(hp:p.full<1000000000)(hq:q.full<1000000000)(hr:r.full<1000000000):
 PC E 42 [.agg a.view,.agg b.view,.agg d.view,.agg p.view,.agg q.view,.agg r.view] (.tup [.agg (casR a b d p q r).1.view,.i (casR a b d p q r).2]):=by
 have hck:=chk_c [.fm a,.fm b,.fm d,.pf p,.pf q,.pf r] (by simp) (by simp only[List.mem_cons,List.not_mem_nil,or_false];rintro x (rfl|rfl|rfl|rfl|rfl|rfl)<;>simp only[Ch.full]<;>omega)
 unfold casR derR
 unfold chV at hck
 by_cases e:firstI Ch.err [.fm a,.fm b,.fm d,.pf p,.pf q,.pf r]=0
 case neg=>
  rw[if_pos e]
  refine M.F Tryz.func42 ?_
  repeat'(first|refine M.go ?_|refine M.c2 (hck) ?_|((with_reducible refine D.aw ?_);(fail_if_success with_reducible refine D.stopR (id:=4) ?_);(fail_if_success with_reducible refine D.stopS (id:=4) ?_);first|refine M.ga ?_|refine AW.condS U (fun h=> ?_) (fun h=> ?_))|refine M.gk ?_|fail)
  all_goals first
   |rfl
   |(exfalso;simp at h;exact e h)
   |trace_state
 rw[if_neg (by simp[e])]
 rw[e] at hck
 have he:=firstI_zero e
 have eq_:q.err=0:=he (.pf q) (by simp)
 have er:r.err=0:=he (.pf r) (by simp)
 have v0:=tvar_c 0
 have n1:=knownW_c a b (vT 0) 2 ha hb
 have n2:=knownW_c a b zT 1 ha hb
 have n3:=knownW_c a b nxT 2 ha hb
 have u1:=upFmW_c d 2 (by omega)
 have z0:=dzero_c
 have u2:=uphP_c q 1 2 (by omega) (nd_of q ((Pf.err_iff q).1 eq_).1)
 have u3:=uphP_c r 2 3 (by omega) (nd_of r ((Pf.err_iff r).1 er).1)
 have y0:=hyp_c 0
 have r1:=dnode_c 4 [hypP 0]
 have r2:=drefl_c zT
 have r3:=dimpE_c (andLP (hypP 0)) (reflP zT)
 have s1:=dsucc_c (vT 0)
 have s2:=isZero_c nxT
 have s3:=symW_c nxT (hypP 0) (by decide)
 have s4:=dabsurd_c (symW nxT (hypP 0))
 have s5:=dimpI_c (eqF nxT zT) (absurdP (symW nxT (hypP 0)))
 have t1:=dnode_c 5 [hypP 0]
 have t2:=dimpE_c (andRP (hypP 0)) difW
 have g1:=knownW_full zT a b 1
 have g2:=knownW_full nxT a b 2
 have g3:=knownW_full (vT 0) a b 2
 have g4:(reflP zT).full≤100:=by decide
 have g5:difW.full≤1000:=by decide
 have g6:(vT 0).full=2:=vT_full 0
 have g7:=uph_full q 1 2
 have g8:=uph_full r 2 3
 have g9:=flw_full d 0 2
 have ga:zT.full≤10:=by decide
 have gb:nxT.full≤10:=by decide
 have gc:=hyp_full 0
 have h12:(casesW a b d p q r).full<200000000000:=by
  simp only[casesW,impEP,indP,caseWB,caseWS,caseWF,impP,andLP,andRP,pf_full1,no_size,twoF_full,gc,g6,List.map_cons,List.map_nil,List.sum_cons,List.sum_nil]
  omega
 have h15:=ddone_c (casesW a b d p q r) h12
 clear g1 g2 g3 g4 g5 g6 g7 g8 g9 ga gb gc h12 e eq_ er he
 unfold casesW caseWB caseWS caseWF difW at*
 generalize q.uph 1 2=qu at*
 generalize r.uph 2 3=ru at*
 generalize absurdP (symW nxT (hypP 0))=dd at*
 generalize symW nxT (hypP 0)=sy at*
 generalize knownW (vT 0) a b 2=K1 at*
 generalize knownW zT a b 1=K2 at*
 generalize knownW nxT a b 2=K3 at*
 generalize d.lw 0 2=du at*
 have c1:=form_c 3 [K1,du]
 have r4:=dimpE_c qu (impEP (andLP (hypP 0)) (reflP zT))
 have r5:=dimpI_c K2 (impEP qu (impEP (andLP (hypP 0)) (reflP zT)))
 have t3:=dimpE_c ru (impEP (andRP (hypP 0)) (impP (eqF nxT zT) dd))
 have t4:=dimpI_c K3 (impEP ru (impEP (andRP (hypP 0)) (impP (eqF nxT zT) dd)))
 have w1:=ind_c 16 (twoF 3 K1 du) (vT 0) (impP K2 (impEP qu (impEP (andLP (hypP 0)) (reflP zT)))) (impP K3 (impEP ru (impEP (andRP (hypP 0)) (impP (eqF nxT zT) dd))))
 have w2:=dimpE_c (indP (twoF 3 K1 du) (vT 0) (impP K2 (impEP qu (impEP (andLP (hypP 0)) (reflP zT)))) (impP K3 (impEP ru (impEP (andRP (hypP 0)) (impP (eqF nxT zT) dd))))) (hypP 0)
 have w3:=dnode_c 11 [p,impEP (indP (twoF 3 K1 du) (vT 0) (impP K2 (impEP qu (impEP (andLP (hypP 0)) (reflP zT)))) (impP K3 (impEP ru (impEP (andRP (hypP 0)) (impP (eqF nxT zT) dd))))) (hypP 0)]
 generalize doneR (Pf.mk 11 0 (.mk 0 []) [] [] [p,impEP (indP (twoF 3 K1 du) (vT 0) (impP K2 (impEP qu (impEP (andLP (hypP 0)) (reflP zT)))) (impP K3 (impEP ru (impEP (andRP (hypP 0)) (impP (eqF nxT zT) dd))))) (hypP 0)])=Q0 at*
 obtain⟨k1,k2,k3,k4⟩:=K1
 obtain⟨d1,d2,d3,d4⟩:=du
 refine M.F Tryz.func42 ?_
 repeat'(first|refine M.go ?_|refine M.c2 (hck) ?_|((with_reducible refine D.aw ?_);(fail_if_success with_reducible refine D.stopR (id:=4) ?_);(fail_if_success with_reducible refine D.stopS (id:=4) ?_);first|refine M.ga ?_)|refine M.gk ?_|fail)
 repeat'(first|refine M.go ?_|refine M.c2 (v0) ?_|(apply L.cvr (n1) [0,1] rfl;rfl;rfl;rfl;rfl;rfl;rfl;rfl;(focus((repeat'(first|exact trivial|refine And.intro ?_ ?_|refine⟨_,U,_,U,_,U,?_⟩|exact VLe.refl _));done));rfl;rfl;rfl;rfl;rfl)|refine M.c2 (u1) ?_|refine M.c2 (c1) ?_|((with_reducible refine D.aw ?_);(fail_if_success with_reducible refine D.stopR (id:=6) ?_);(fail_if_success with_reducible refine D.stopS (id:=6) ?_);first|refine M.ga ?_)|refine M.gk ?_|fail)
 repeat'(first|refine M.go ?_|refine M.c2 (z0) ?_|(apply L.cvr (n2) [0,1] rfl;rfl;rfl;rfl;rfl;rfl;rfl;rfl;(focus((repeat'(first|exact trivial|refine And.intro ?_ ?_|refine⟨_,U,_,U,_,U,?_⟩|exact VLe.refl _));done));rfl;rfl;rfl;rfl;rfl)|refine M.c2 (u2) ?_|refine M.c2 (y0) ?_|refine M.c2 (r1) ?_|refine M.c2 (r2) ?_|refine M.c2 (r3) ?_|refine M.c2 (r4) ?_|refine M.c2 (r5) ?_|((with_reducible refine D.aw ?_);(fail_if_success with_reducible refine D.stopR (id:=7) ?_);(fail_if_success with_reducible refine D.stopS (id:=7) ?_);first|refine M.ga ?_)|refine M.gk ?_|fail)
 repeat'(first|refine M.go ?_|refine M.c2 (v0) ?_|refine M.c2 (s1) ?_|((with_reducible refine D.aw ?_);(fail_if_success with_reducible refine D.stopR (id:=8) ?_);(fail_if_success with_reducible refine D.stopS (id:=8) ?_);first|refine M.ga ?_)|refine M.gk ?_|fail)
 repeat'(first|refine M.go ?_|refine M.c2 (s2) ?_|refine M.c2 (y0) ?_|refine M.c2 (s3) ?_|refine M.c2 (s4) ?_|refine M.c2 (s5) ?_|((with_reducible refine D.aw ?_);(fail_if_success with_reducible refine D.stopR (id:=9) ?_);(fail_if_success with_reducible refine D.stopS (id:=9) ?_);first|refine M.ga ?_)|refine M.gk ?_|fail)
 repeat'(first|refine M.go ?_|(apply L.cvr (n3) [0,1] rfl;rfl;rfl;rfl;rfl;rfl;rfl;rfl;(focus((repeat'(first|exact trivial|refine And.intro ?_ ?_|refine⟨_,U,_,U,_,U,?_⟩|exact VLe.refl _));done));rfl;rfl;rfl;rfl;rfl)|refine M.c2 (u3) ?_|refine M.c2 (y0) ?_|refine M.c2 (t1) ?_|refine M.c2 (t2) ?_|refine M.c2 (t3) ?_|refine M.c2 (t4) ?_|((with_reducible refine D.aw ?_);(fail_if_success with_reducible refine D.stopR (id:=10) ?_);(fail_if_success with_reducible refine D.stopS (id:=10) ?_);first|refine M.ga ?_)|refine M.gk ?_|fail)
 repeat'(first|refine M.go ?_|refine M.c2 (v0) ?_|refine M.c2 (w1) ?_|refine M.c2 (y0) ?_|refine M.c2 (w2) ?_|((with_reducible refine D.aw ?_);(fail_if_success with_reducible refine D.stopR (id:=11) ?_);(fail_if_success with_reducible refine D.stopS (id:=11) ?_);first|refine M.ga ?_)|refine M.gk ?_|fail)
 repeat'(first|refine M.gw ?_|refine M.c2 (w3) ?_|refine M.c2 (h15) ?_|fail)
 all_goals first
  |rfl
  |trace_state
def numR(f:Fm)(p q:Pf):Pf×Int:=derR [.fm f,.pf p,.pf q] (numbersW f p q)
def lisR(f:Fm)(p q:Pf):Pf×Int:=derR [.fm f,.pf p,.pf q] (listsW f p q)
theorem dNumbersW_c(f:Fm)(p q:Pf)(hf:f.full<1000000000)(hp:p.full<1000000000)(hq:q.full<1000000000):
 PC E 40 [.agg f.view,.agg p.view,.agg q.view] (.tup [.agg (numR f p q).1.view,.i (numR f p q).2]):=by
 have h1:=chk_c [.fm f,.pf p,.pf q] (by simp) (by simp only[List.mem_cons,List.not_mem_nil,or_false];rintro x (rfl|rfl|rfl)<;>simp only[Ch.full]<;>omega)
 unfold numR derR
 unfold chV at h1
 by_cases e:firstI Ch.err [.fm f,.pf p,.pf q]=0
 case neg=>
  rw[if_pos e]
  refine M.F Tryz.func40 ?_
  repeat'(first|refine M.go ?_|refine M.c2 (h1) ?_|((with_reducible refine D.aw ?_);(fail_if_success with_reducible refine D.stopR (id:=4) ?_);(fail_if_success with_reducible refine D.stopS (id:=4) ?_);first|refine M.ga ?_|refine AW.condS U (fun h=> ?_) (fun h=> ?_))|refine M.gk ?_|fail)
  all_goals first
   |rfl
   |(exfalso;simp at h;exact e h)
   |trace_state
 rw[if_neg (by simp[e])]
 rw[e] at h1
 have he:=firstI_zero e
 have ep:p.err=0:=he (.pf p) (by simp)
 have eq_:q.err=0:=he (.pf q) (by simp)
 have h2:=uphP_c q 2 1 (by omega) (nd_of q ((Pf.err_iff q).1 eq_).1)
 have h3:=uphP_c p 1 0 (by omega) (nd_of p ((Pf.err_iff p).1 ep).1)
 have h4:=tvar_c 0
 have h6:=lwFm_c f 1 1 (by omega) (by omega)
 have hn:=tnat_c
 have g7:=uph_full q 2 1
 have g8:=uph_full p 1 0
 have g9:=flw_full f 1 1
 have h9:=ddone_c (numbersW f p q) (by simp only[numbersW,pf_full1,no_size,List.map_cons,List.map_nil,List.sum_cons,List.sum_nil,vT_full,Ty.size,Ty.sizes,natT];omega)
 clear g7 g8 g9 e ep eq_ he
 unfold numbersW at h9 ⊢
 generalize q.uph 2 1=qu at*
 generalize p.uph 1 0=pu at*
 generalize f.lw 1 1=fu at*
 have h5:=allE_c [vT 0] qu (by simp)
 simp only[List.foldl_cons,List.foldl_nil] at h5
 have h7:=ind_c 16 fu (vT 0) pu (.mk 9 0 (.mk 0 []) [vT 0] [] [qu])
 have h8:=allI_c natT (.mk 16 0 (.mk 0 []) [vT 0] [fu] [pu,.mk 9 0 (.mk 0 []) [vT 0] [] [qu]])
 generalize doneR (Pf.mk 8 0 natT [] [] [Pf.mk 16 0 (.mk 0 []) [vT 0] [fu] [pu,Pf.mk 9 0 (.mk 0 []) [vT 0] [] [qu]]])=Q0 at*
 refine M.F Tryz.func40 ?_
 repeat'(first|refine M.gw ?_|refine M.c2 (h1) ?_|refine M.c2 (h2) ?_|refine M.c2 (h3) ?_|refine M.c2 (h4) ?_|refine M.c2 (h5) ?_|refine M.c2 (h6) ?_|refine M.c2 (h7) ?_|refine M.c2 (h8) ?_|refine M.c2 (hn) ?_|refine M.c2 (h9) ?_|fail)
 all_goals first
  |rfl
  |trace_state
theorem upF_bd(k b:Int):b≤upF k b∧upF k b≤b+1:=by unfold upF;split<;>omega
theorem rmarkF_c:∀(n:Nat) (f:Fm) (ks:List Int) (bl:Int),f.full≤n→n<549755813888→0≤bl→bl+n<549755813888→f.ixr→
 AC E 125 [.agg f.view,.i bl,.mp 0] ⟨1,[(0,.map .bl ks (List.replicate ks.length true))]⟩ (.tup []) ⟨1,[(0,.map .bl (nub ks (f.fvl bl)) (List.replicate (nub ks (f.fvl bl)).length true))]⟩:=by
 intro n
 induction n with
 |zero=>intro f b bl h;have:=f.full_pos;omega
 |succ n ih=>
 intro f ks bl hsz hb hbl hbn hix
 have hsz':=f.full_eq
 have hlen:=lsum_len Fm.full Fm.full_pos f.args
 have hlen2:=lsum_len Tm.full Tm.full_pos f.terms
 have hbe:=rfbelow_c f
 have hup:=upF_bd f.kind bl
 have hpl:=upF_plus f.kind bl
 have hend:nub ks (f.fvl bl)=nub (nub ks (f.terms.flatMap fun t=>fre (t.vars bl))) (f.args.flatMap fun a=>a.fvl (upF f.kind bl)):=by rw[fvl_eq,nub_app]
 rw[hend]
 obtain⟨k0,hk0⟩:∃k0,k0=nub ks (f.terms.flatMap fun t=>fre (t.vars bl)):=⟨_,rfl⟩
 rw[←hk0]
 have hu0:0≤upF f.kind 0∧upF f.kind 0≤1:=by have:=upF_bd f.kind 0;omega
 refine M.F Tryz.func125 ?_
 repeat'(first|refine M.gw ?_|refine L.lkb U U U U U U U U U U ?_|((fail_if_success refine AX.wt U ?_);refine AX.gs U U (fun _=>trivial) (fun h=> ?_) (fun h=> ?_))|((with_reducible refine D.sblk ?_);refine K.sq (AW.block ?_))|((with_reducible refine D.blk ?_);refine AW.block ?_)|refine K.sq (AW.condS U (fun h=> ?_) (fun h=> ?_))|refine AW.condS U (fun h=> ?_) (fun h=> ?_)|((with_reducible show @LE.le Nat _ _ _);omega)|((with_reducible show @LT.lt Nat _ _ _);omega)|fail)
 refine AW.range f.terms.length (fun m=>True)
  (fun m=>([(1,.i bl),(2,.mp 0),(3,.ptr 1 0),(11,.s .tm f.terms),(12,.i f.terms.length),(13,.i m)],⟨2,[(0,.map .bl (nub ks ((f.terms.take m).flatMap fun t=>fre (t.vars bl))) (List.replicate (nub ks ((f.terms.take m).flatMap fun t=>fre (t.vars bl))).length true)),(1,.var f.view)]⟩))
  (by omega) (fun m=>rfl) (fun m=>rfl) rfl trivial (by simp only[List.take_zero,List.flatMap_nil,List.flatten_nil,nub_nil];exact(M.W [some 0,some 1])) ?_ ?_
 ·intro m hm hP
  have hs2:=lsum_mem Tm.full (List.getElem_mem hm)
  have hc:=rmark_c _ f.terms[m] (nub ks ((f.terms.take m).flatMap fun t=>fre (t.vars bl))) bl (Nat.le_refl _) (by omega) (by omega) (by omega) (Fm.ixr_terms hix (List.getElem_mem hm) bl)
  repeat'(first|refine M.gw ?_|refine M.cb (hc) [0] 0 ?_|refine L.lkb U U U U U U U U U U ?_|((fail_if_success refine AX.wt U ?_);refine AX.gs U U (fun _=>trivial) (fun h=> ?_) (fun h=> ?_))|((with_reducible refine D.sblk ?_);refine K.sq (AW.block ?_))|((with_reducible refine D.blk ?_);refine AW.block ?_)|refine K.sq (AW.condS U (fun h=> ?_) (fun h=> ?_))|refine AW.condS U (fun h=> ?_) (fun h=> ?_)|((with_reducible show @LE.le Nat _ _ _);omega)|((with_reducible show @LT.lt Nat _ _ _);omega)|fail)
  refine⟨rfl,trivial,?_⟩
  exact(M.W [some 0,some 1] (hf:=(by(repeat'(first|exact trivial|exact Or.inl U|exact Or.inr ⟨_,U,rfl⟩|refine And.intro ?_ ?_|refine⟨_,U,_,U,_,U,?_⟩|refine⟨_,U,_,U,?_⟩|exact VLe.refl _|exact VLe.any _ _|exact VsLe.refl _|refine VLe.agg ?_|exact VLe.of_eq (by simp[Sto.upd,nub_app,flat_take _ _ _ hm])|refine⟨_,U,_,_,U,?_,?_⟩|with_reducible exact rfl|(simp[Sto.upd,nub_app,flat_take _ _ _ hm];done)|exact Eq.refl true|refine⟨_,U,_,renVs_flat _ _ _,_,U,?_⟩));done)) (he:=(by(repeat'(first|exact trivial|exact Or.inl U|exact Or.inr ⟨_,U,rfl⟩|refine And.intro ?_ ?_|refine⟨_,U,_,U,_,U,?_⟩|refine⟨_,U,_,U,?_⟩|exact VLe.refl _|exact VLe.any _ _|exact VsLe.refl _|refine VLe.agg ?_|exact VLe.of_eq (by simp[Sto.upd,nub_app,flat_take _ _ _ hm])|refine⟨_,U,_,_,U,?_,?_⟩|with_reducible exact rfl|(simp[Sto.upd,nub_app,flat_take _ _ _ hm];done)|exact Eq.refl true|refine⟨_,U,_,renVs_flat _ _ _,_,U,?_⟩));done)))
 ·intro hP
  simp only[List.take_length,←hk0]
  repeat'(first|refine M.gw ?_|refine L.lkb U U U U U U U U U U ?_|((fail_if_success refine AX.wt U ?_);refine AX.gs U U (fun _=>trivial) (fun h=> ?_) (fun h=> ?_))|((with_reducible refine D.sblk ?_);refine K.sq (AW.block ?_))|((with_reducible refine D.blk ?_);refine AW.block ?_)|refine K.sq (AW.condS U (fun h=> ?_) (fun h=> ?_))|refine AW.condS U (fun h=> ?_) (fun h=> ?_)|((with_reducible show @LE.le Nat _ _ _);omega)|((with_reducible show @LT.lt Nat _ _ _);omega)|fail)
  refine AW.range f.args.length (fun m=>True)
   (fun m=>([(1,.i bl),(2,.mp 0),(3,.ptr 1 0),(23,.s .fm f.args),(24,.i f.args.length),(25,.i m)],⟨2,[(0,.map .bl (nub k0 ((f.args.take m).flatMap fun a=>a.fvl (upF f.kind bl))) (List.replicate (nub k0 ((f.args.take m).flatMap fun a=>a.fvl (upF f.kind bl))).length true)),(1,.var f.view)]⟩))
   (by omega) (fun m=>rfl) (fun m=>rfl) rfl trivial (by simp only[List.take_zero,List.flatMap_nil,List.flatten_nil,nub_nil];exact(M.W [some 0,some 1])) ?_ ?_
  ·intro m hm hP
   have hs2:=lsum_mem Fm.full (List.getElem_mem hm)
   have hc:=ih f.args[m] (nub k0 ((f.args.take m).flatMap fun a=>a.fvl (upF f.kind bl))) (upF f.kind bl) (by omega) (by omega) (by omega) (by omega) (Fm.ixr_args hix (List.getElem_mem hm))
   rw[←hpl] at hc ⊢
   repeat'(first|refine M.gw ?_|refine M.c2 (hbe) ?_|refine M.cb (hc) [0] 0 ?_|refine L.lkb U U U U U U U U U U ?_|((fail_if_success refine AX.wt U ?_);refine AX.gs U U (fun _=>trivial) (fun h=> ?_) (fun h=> ?_))|((with_reducible refine D.sblk ?_);refine K.sq (AW.block ?_))|((with_reducible refine D.blk ?_);refine AW.block ?_)|refine K.sq (AW.condS U (fun h=> ?_) (fun h=> ?_))|refine AW.condS U (fun h=> ?_) (fun h=> ?_)|((with_reducible show @LE.le Nat _ _ _);omega)|((with_reducible show @LT.lt Nat _ _ _);omega)|fail)
   refine⟨rfl,trivial,?_⟩
   exact(M.W [some 0,some 1] (hf:=(by(repeat'(first|exact trivial|exact Or.inl U|exact Or.inr ⟨_,U,rfl⟩|refine And.intro ?_ ?_|refine⟨_,U,_,U,_,U,?_⟩|refine⟨_,U,_,U,?_⟩|exact VLe.refl _|exact VLe.any _ _|exact VsLe.refl _|refine VLe.agg ?_|exact VLe.of_eq (by simp[Sto.upd,nub_app,flat_take _ _ _ hm])|refine⟨_,U,_,_,U,?_,?_⟩|with_reducible exact rfl|(simp[Sto.upd,nub_app,flat_take _ _ _ hm];done)|exact Eq.refl true|refine⟨_,U,_,renVs_flat _ _ _,_,U,?_⟩));done)) (he:=(by(repeat'(first|exact trivial|exact Or.inl U|exact Or.inr ⟨_,U,rfl⟩|refine And.intro ?_ ?_|refine⟨_,U,_,U,_,U,?_⟩|refine⟨_,U,_,U,?_⟩|exact VLe.refl _|exact VLe.any _ _|exact VsLe.refl _|refine VLe.agg ?_|exact VLe.of_eq (by simp[Sto.upd,nub_app,flat_take _ _ _ hm])|refine⟨_,U,_,_,U,?_,?_⟩|with_reducible exact rfl|(simp[Sto.upd,nub_app,flat_take _ _ _ hm];done)|exact Eq.refl true|refine⟨_,U,_,renVs_flat _ _ _,_,U,?_⟩));done)))
  ·intro hP
   simp only[List.take_length]
   repeat'(first|refine M.gw ?_|refine L.lkb U U U U U U U U U U ?_|((fail_if_success refine AX.wt U ?_);refine AX.gs U U (fun _=>trivial) (fun h=> ?_) (fun h=> ?_))|((with_reducible refine D.sblk ?_);refine K.sq (AW.block ?_))|((with_reducible refine D.blk ?_);refine AW.block ?_)|refine K.sq (AW.condS U (fun h=> ?_) (fun h=> ?_))|refine AW.condS U (fun h=> ?_) (fun h=> ?_)|((with_reducible show @LE.le Nat _ _ _);omega)|((with_reducible show @LT.lt Nat _ _ _);omega)|fail)
   (first|exact M.n2 [some 0] (h6:=(by(repeat'(first|exact trivial|exact Or.inl U|exact Or.inr ⟨_,U,rfl⟩|refine And.intro ?_ ?_|refine⟨_,U,_,U,_,U,?_⟩|refine⟨_,U,_,U,?_⟩|exact VLe.refl _|exact VLe.any _ _|exact VsLe.refl _|refine VLe.agg ?_|exact VLe.of_eq (by simp[Sto.upd,V.frz])|refine⟨_,U,_,_,U,?_,?_⟩|with_reducible exact rfl|(simp[Sto.upd,V.frz];done)|exact Eq.refl true|refine⟨_,U,_,renVs_flat _ _ _,_,U,?_⟩));done)) (h8:=(by simp[tupV,V.wk,V.wks,constV,Ty.view,Tm.view,V.frz]))|exact M.r2 [some 0] (h6:=(by(repeat'(first|exact trivial|exact Or.inl U|exact Or.inr ⟨_,U,rfl⟩|refine And.intro ?_ ?_|refine⟨_,U,_,U,_,U,?_⟩|refine⟨_,U,_,U,?_⟩|exact VLe.refl _|exact VLe.any _ _|exact VsLe.refl _|refine VLe.agg ?_|exact VLe.of_eq (by simp[Sto.upd,V.frz])|refine⟨_,U,_,_,U,?_,?_⟩|with_reducible exact rfl|(simp[Sto.upd,V.frz];done)|exact Eq.refl true|refine⟨_,U,_,renVs_flat _ _ _,_,U,?_⟩));done)) (h8:=(by simp[tupV,V.wk,V.wks,constV,Ty.view,Tm.view,V.frz])))
theorem kind20{k:Int}{nd:Nd}(h:ndP k=some nd):k=1∨k=2∨k=3∨k=4∨k=5∨k=6∨k=7∨k=8∨k=9∨k=10∨k=11∨k=12∨k=13∨k=14∨k=15∨k=16∨k=17∨k=18∨k=19∨k=20:=by
 unfold ndP at h
 repeat(split at h;· omega)
 cases h
theorem rbound_c{k:Int}{nd:Nd}(hnd:ndP k=some nd)(m:Nat)(hm:m<nd.args):PC E 123 [.i k,.i m] (.i (if m+1=nd.args then hyK k else 0)):=by
 have hk:=kind20 hnd
 rcases hk with rfl|rfl|rfl|rfl|rfl|rfl|rfl|rfl|rfl|rfl|rfl|rfl|rfl|rfl|rfl|rfl|rfl|rfl|rfl|rfl
 all_goals(simp only[ndP,reduceIte,Int.reduceEq,or_false,false_or,or_true,true_or,Option.some.injEq] at hnd;subst hnd;simp only at hm)
 all_goals first
  |(exfalso;omega)
  |(have h0:m=0:=by omega
    subst h0
    refine M.F Tryz.func123 ?_
    repeat'(first|refine M.gw ?_|refine L.lkb U U U U U U U U U U ?_|((fail_if_success refine AX.wt U ?_);refine AX.gs U U (fun _=>trivial) (fun h=> ?_) (fun h=> ?_))|((with_reducible refine D.sblk ?_);refine K.sq (AW.block ?_))|((with_reducible refine D.blk ?_);refine AW.block ?_)|refine K.sq (AW.condS U (fun h=> ?_) (fun h=> ?_))|refine AW.condS U (fun h=> ?_) (fun h=> ?_)|((with_reducible show @LE.le Nat _ _ _);omega)|((with_reducible show @LT.lt Nat _ _ _);omega)|fail)
    all_goals rfl)
  |(have h0:m=0∨m=1:=by omega
    rcases h0 with rfl|rfl
    all_goals
     refine M.F Tryz.func123 ?_
     repeat'(first|refine M.gw ?_|refine L.lkb U U U U U U U U U U ?_|((fail_if_success refine AX.wt U ?_);refine AX.gs U U (fun _=>trivial) (fun h=> ?_) (fun h=> ?_))|((with_reducible refine D.sblk ?_);refine K.sq (AW.block ?_))|((with_reducible refine D.blk ?_);refine AW.block ?_)|refine K.sq (AW.condS U (fun h=> ?_) (fun h=> ?_))|refine AW.condS U (fun h=> ?_) (fun h=> ?_)|((with_reducible show @LE.le Nat _ _ _);omega)|((with_reducible show @LT.lt Nat _ _ _);omega)|fail)
     all_goals rfl)
theorem rvars_c{k:Int}{nd:Nd}(hnd:ndP k=some nd)(m:Nat)(hm:m<nd.args):PC E 127 [.i k,.i m] (.i (if m+1=nd.args then vaK k else 0)):=by
 have hk:=kind20 hnd
 rcases hk with rfl|rfl|rfl|rfl|rfl|rfl|rfl|rfl|rfl|rfl|rfl|rfl|rfl|rfl|rfl|rfl|rfl|rfl|rfl|rfl
 all_goals(simp only[ndP,reduceIte,Int.reduceEq,or_false,false_or,or_true,true_or,Option.some.injEq] at hnd;subst hnd;simp only at hm)
 all_goals first
  |(exfalso;omega)
  |(have h0:m=0:=by omega
    subst h0
    refine M.F Tryz.func127 ?_
    repeat'(first|refine M.gw ?_|refine L.lkb U U U U U U U U U U ?_|((fail_if_success refine AX.wt U ?_);refine AX.gs U U (fun _=>trivial) (fun h=> ?_) (fun h=> ?_))|((with_reducible refine D.sblk ?_);refine K.sq (AW.block ?_))|((with_reducible refine D.blk ?_);refine AW.block ?_)|refine K.sq (AW.condS U (fun h=> ?_) (fun h=> ?_))|refine AW.condS U (fun h=> ?_) (fun h=> ?_)|((with_reducible show @LE.le Nat _ _ _);omega)|((with_reducible show @LT.lt Nat _ _ _);omega)|fail)
    all_goals rfl)
  |(have h0:m=0∨m=1:=by omega
    rcases h0 with rfl|rfl
    all_goals
     refine M.F Tryz.func127 ?_
     repeat'(first|refine M.gw ?_|refine L.lkb U U U U U U U U U U ?_|((fail_if_success refine AX.wt U ?_);refine AX.gs U U (fun _=>trivial) (fun h=> ?_) (fun h=> ?_))|((with_reducible refine D.sblk ?_);refine K.sq (AW.block ?_))|((with_reducible refine D.blk ?_);refine AW.block ?_)|refine K.sq (AW.condS U (fun h=> ?_) (fun h=> ?_))|refine AW.condS U (fun h=> ?_) (fun h=> ?_)|((with_reducible show @LE.le Nat _ _ _);omega)|((with_reducible show @LT.lt Nat _ _ _);omega)|fail)
     all_goals rfl)
theorem rmotive_c{k:Int}{nd:Nd}(hnd:ndP k=some nd):PC E 126 [.i k] (.i (fvK k)):=by
 have hk:=kind20 hnd
 rcases hk with rfl|rfl|rfl|rfl|rfl|rfl|rfl|rfl|rfl|rfl|rfl|rfl|rfl|rfl|rfl|rfl|rfl|rfl|rfl|rfl
 all_goals
  refine M.F Tryz.func126 ?_
  repeat'(first|refine M.gw ?_|refine L.lkb U U U U U U U U U U ?_|((fail_if_success refine AX.wt U ?_);refine AX.gs U U (fun _=>trivial) (fun h=> ?_) (fun h=> ?_))|((with_reducible refine D.sblk ?_);refine K.sq (AW.block ?_))|((with_reducible refine D.blk ?_);refine AW.block ?_)|refine K.sq (AW.condS U (fun h=> ?_) (fun h=> ?_))|refine AW.condS U (fun h=> ?_) (fun h=> ?_)|((with_reducible show @LE.le Nat _ _ _);omega)|((with_reducible show @LT.lt Nat _ _ _);omega)|fail)
  all_goals rfl
theorem fvK_bd(k:Int):0≤fvK k∧fvK k≤1:=by unfold fvK;split<;>omega
theorem vaK_bd(k:Int):0≤vaK k∧vaK k≤2:=by unfold vaK;split<;>(try split)<;>omega
theorem hyK_bd(k:Int):0≤hyK k∧hyK k≤1:=by unfold hyK;split<;>omega
theorem rmarks_c:∀(n:Nat) (p:Pf) (ks:List Int) (bl:Int),p.full≤n→n<100000000000→0≤bl→bl+2*n<300000000000→p.ixr→p.nd→
 AC E 76 [.agg p.view,.i bl,.mp 0] ⟨1,[(0,.map .bl ks (List.replicate ks.length true))]⟩ (.tup []) ⟨1,[(0,.map .bl (nub ks (p.fvl bl)) (List.replicate (nub ks (p.fvl bl)).length true))]⟩:=by
 intro n
 induction n with
 |zero=>intro p b bl h;have:=p.full_pos;omega
 |succ n ih=>
 intro p ks bl hsz hb hbl hbn hix hn
 obtain⟨x0,x1,x2,x3⟩:=(Pf.ixr_iff p).1 hix
 obtain⟨⟨nd,n1,n4⟩,hpn⟩:=(Pf.nd_iff p).1 hn
 have hsz':=p.full_eq
 have hlen:=lsum_len Pf.full Pf.full_pos p.args
 have hlen1:=lsum_len Fm.full Fm.full_pos p.forms
 have hlen2:=lsum_len Tm.full Tm.full_pos p.terms
 have b1:=vaK_bd p.kind
 have b3:=fvK_bd p.kind
 have hmo:=rmotive_c n1
 have hend:nub ks (p.fvl bl)=nub (nub (nub ks (p.terms.flatMap fun t=>fre (t.vars bl))) (p.forms.flatMap fun f=>f.fvl (bl+fvK p.kind))) (Pf.fvls bl (vaK p.kind) p.args).flatten:=by rw[Pf.fvl_eq,nub_app,nub_app]
 rw[hend]
 obtain⟨k0,hk0⟩:∃k0,k0=nub ks (p.terms.flatMap fun t=>fre (t.vars bl)):=⟨_,rfl⟩
 rw[←hk0]
 obtain⟨k1,hk1⟩:∃k1,k1=nub k0 (p.forms.flatMap fun f=>f.fvl (bl+fvK p.kind)):=⟨_,rfl⟩
 rw[←hk1]
 refine M.F Tryz.func76 ?_
 repeat'(first|refine M.gw ?_|refine L.lkb U U U U U U U U U U ?_|((fail_if_success refine AX.wt U ?_);refine AX.gs U U (fun _=>trivial) (fun h=> ?_) (fun h=> ?_))|((with_reducible refine D.sblk ?_);refine K.sq (AW.block ?_))|((with_reducible refine D.blk ?_);refine AW.block ?_)|refine K.sq (AW.condS U (fun h=> ?_) (fun h=> ?_))|refine AW.condS U (fun h=> ?_) (fun h=> ?_)|((with_reducible show @LE.le Nat _ _ _);omega)|((with_reducible show @LT.lt Nat _ _ _);omega)|fail)
 refine AW.range p.terms.length (fun m=>True)
  (fun m=>([(1,.i bl),(2,.mp 0),(3,.ptr 1 0),(13,.s .tm p.terms),(14,.i p.terms.length),(15,.i m)],⟨2,[(0,.map .bl (nub ks ((p.terms.take m).flatMap fun t=>fre (t.vars bl))) (List.replicate (nub ks ((p.terms.take m).flatMap fun t=>fre (t.vars bl))).length true)),(1,.var p.view)]⟩))
  (by omega) (fun m=>rfl) (fun m=>rfl) rfl trivial (by simp only[List.take_zero,List.flatMap_nil,List.flatten_nil,nub_nil];exact(M.W [some 0,some 1])) ?_ ?_
 ·intro m hm hP
  have hs2:=lsum_mem Tm.full (List.getElem_mem hm)
  have hc:=rmark_c _ p.terms[m] (nub ks ((p.terms.take m).flatMap fun t=>fre (t.vars bl))) bl (Nat.le_refl _) (by omega) (by omega) (by omega) (x1 _ (List.getElem_mem hm) bl)
  repeat'(first|refine M.gw ?_|refine M.cb (hc) [0] 0 ?_|refine L.lkb U U U U U U U U U U ?_|((fail_if_success refine AX.wt U ?_);refine AX.gs U U (fun _=>trivial) (fun h=> ?_) (fun h=> ?_))|((with_reducible refine D.sblk ?_);refine K.sq (AW.block ?_))|((with_reducible refine D.blk ?_);refine AW.block ?_)|refine K.sq (AW.condS U (fun h=> ?_) (fun h=> ?_))|refine AW.condS U (fun h=> ?_) (fun h=> ?_)|((with_reducible show @LE.le Nat _ _ _);omega)|((with_reducible show @LT.lt Nat _ _ _);omega)|fail)
  refine⟨rfl,trivial,?_⟩
  exact(M.W [some 0,some 1] (hf:=(by(repeat'(first|exact trivial|exact Or.inl U|exact Or.inr ⟨_,U,rfl⟩|refine And.intro ?_ ?_|refine⟨_,U,_,U,_,U,?_⟩|refine⟨_,U,_,U,?_⟩|exact VLe.refl _|exact VLe.any _ _|exact VsLe.refl _|refine VLe.agg ?_|exact VLe.of_eq (by simp[Sto.upd,nub_app,flat_take _ _ _ hm])|refine⟨_,U,_,_,U,?_,?_⟩|with_reducible exact rfl|(simp[Sto.upd,nub_app,flat_take _ _ _ hm];done)|exact Eq.refl true|refine⟨_,U,_,renVs_flat _ _ _,_,U,?_⟩));done)) (he:=(by(repeat'(first|exact trivial|exact Or.inl U|exact Or.inr ⟨_,U,rfl⟩|refine And.intro ?_ ?_|refine⟨_,U,_,U,_,U,?_⟩|refine⟨_,U,_,U,?_⟩|exact VLe.refl _|exact VLe.any _ _|exact VsLe.refl _|refine VLe.agg ?_|exact VLe.of_eq (by simp[Sto.upd,nub_app,flat_take _ _ _ hm])|refine⟨_,U,_,_,U,?_,?_⟩|with_reducible exact rfl|(simp[Sto.upd,nub_app,flat_take _ _ _ hm];done)|exact Eq.refl true|refine⟨_,U,_,renVs_flat _ _ _,_,U,?_⟩));done)))
 ·intro hP
  simp only[List.take_length,←hk0]
  repeat'(first|refine M.gw ?_|refine L.lkb U U U U U U U U U U ?_|((fail_if_success refine AX.wt U ?_);refine AX.gs U U (fun _=>trivial) (fun h=> ?_) (fun h=> ?_))|((with_reducible refine D.sblk ?_);refine K.sq (AW.block ?_))|((with_reducible refine D.blk ?_);refine AW.block ?_)|refine K.sq (AW.condS U (fun h=> ?_) (fun h=> ?_))|refine AW.condS U (fun h=> ?_) (fun h=> ?_)|((with_reducible show @LE.le Nat _ _ _);omega)|((with_reducible show @LT.lt Nat _ _ _);omega)|fail)
  refine AW.range p.forms.length (fun m=>True)
   (fun m=>([(1,.i bl),(2,.mp 0),(3,.ptr 1 0),(25,.s .fm p.forms),(26,.i p.forms.length),(27,.i m)],⟨2,[(0,.map .bl (nub k0 ((p.forms.take m).flatMap fun f=>f.fvl (bl+fvK p.kind))) (List.replicate (nub k0 ((p.forms.take m).flatMap fun f=>f.fvl (bl+fvK p.kind))).length true)),(1,.var p.view)]⟩))
   (by omega) (fun m=>rfl) (fun m=>rfl) rfl trivial (by simp only[List.take_zero,List.flatMap_nil,List.flatten_nil,nub_nil];exact(M.W [some 0,some 1])) ?_ ?_
  ·intro m hm hP
   have hs2:=lsum_mem Fm.full (List.getElem_mem hm)
   have hc:=rmarkF_c _ p.forms[m] (nub k0 ((p.forms.take m).flatMap fun f=>f.fvl (bl+fvK p.kind))) (bl+fvK p.kind) (Nat.le_refl _) (by omega) (by omega) (by omega) (x2 _ (List.getElem_mem hm))
   repeat'(first|refine M.gw ?_|refine M.c2 (hmo) ?_|refine M.cb (hc) [0] 0 ?_|refine L.lkb U U U U U U U U U U ?_|((fail_if_success refine AX.wt U ?_);refine AX.gs U U (fun _=>trivial) (fun h=> ?_) (fun h=> ?_))|((with_reducible refine D.sblk ?_);refine K.sq (AW.block ?_))|((with_reducible refine D.blk ?_);refine AW.block ?_)|refine K.sq (AW.condS U (fun h=> ?_) (fun h=> ?_))|refine AW.condS U (fun h=> ?_) (fun h=> ?_)|((with_reducible show @LE.le Nat _ _ _);omega)|((with_reducible show @LT.lt Nat _ _ _);omega)|fail)
   refine⟨rfl,trivial,?_⟩
   exact(M.W [some 0,some 1] (hf:=(by(repeat'(first|exact trivial|exact Or.inl U|exact Or.inr ⟨_,U,rfl⟩|refine And.intro ?_ ?_|refine⟨_,U,_,U,_,U,?_⟩|refine⟨_,U,_,U,?_⟩|exact VLe.refl _|exact VLe.any _ _|exact VsLe.refl _|refine VLe.agg ?_|exact VLe.of_eq (by simp[Sto.upd,nub_app,flat_take _ _ _ hm])|refine⟨_,U,_,_,U,?_,?_⟩|with_reducible exact rfl|(simp[Sto.upd,nub_app,flat_take _ _ _ hm];done)|exact Eq.refl true|refine⟨_,U,_,renVs_flat _ _ _,_,U,?_⟩));done)) (he:=(by(repeat'(first|exact trivial|exact Or.inl U|exact Or.inr ⟨_,U,rfl⟩|refine And.intro ?_ ?_|refine⟨_,U,_,U,_,U,?_⟩|refine⟨_,U,_,U,?_⟩|exact VLe.refl _|exact VLe.any _ _|exact VsLe.refl _|refine VLe.agg ?_|exact VLe.of_eq (by simp[Sto.upd,nub_app,flat_take _ _ _ hm])|refine⟨_,U,_,_,U,?_,?_⟩|with_reducible exact rfl|(simp[Sto.upd,nub_app,flat_take _ _ _ hm];done)|exact Eq.refl true|refine⟨_,U,_,renVs_flat _ _ _,_,U,?_⟩));done)))
  ·intro hP
   simp only[List.take_length,←hk1]
   repeat'(first|refine M.gw ?_|refine L.lkb U U U U U U U U U U ?_|((fail_if_success refine AX.wt U ?_);refine AX.gs U U (fun _=>trivial) (fun h=> ?_) (fun h=> ?_))|((with_reducible refine D.sblk ?_);refine K.sq (AW.block ?_))|((with_reducible refine D.blk ?_);refine AW.block ?_)|refine K.sq (AW.condS U (fun h=> ?_) (fun h=> ?_))|refine AW.condS U (fun h=> ?_) (fun h=> ?_)|((with_reducible show @LE.le Nat _ _ _);omega)|((with_reducible show @LT.lt Nat _ _ _);omega)|fail)
   refine AW.range p.args.length (fun m=>True)
    (fun m=>([(1,.i bl),(2,.mp 0),(3,.ptr 1 0),(41,.s .pf p.args),(42,.i p.args.length),(43,.i m)],⟨2,[(0,.map .bl (nub k1 ((Pf.fvls bl (vaK p.kind) p.args).take m).flatten) (List.replicate (nub k1 ((Pf.fvls bl (vaK p.kind) p.args).take m).flatten).length true)),(1,.var p.view)]⟩))
    (by omega) (fun m=>rfl) (fun m=>rfl) rfl trivial (by simp only[List.take_zero,List.flatMap_nil,List.flatten_nil,nub_nil];exact(M.W [some 0,some 1])) ?_ ?_
   ·intro m hm hP
    have hs2:=lsum_mem Pf.full (List.getElem_mem hm)
    have hva:=rvars_c n1 m (by omega)
    rw[←n4] at hva
    have hc:=ih p.args[m] (nub k1 ((Pf.fvls bl (vaK p.kind) p.args).take m).flatten) (if m+1=p.args.length then bl+vaK p.kind else bl) (by omega) (by omega) (by split<;>omega) (by split<;>omega) (x3 _ (List.getElem_mem hm)) (hpn _ (List.getElem_mem hm))
    have ea:(if m+1=p.args.length then bl+vaK p.kind else bl)=bl+(if m+1=p.args.length then vaK p.kind else 0):=by split<;>omega
    have hr:0≤(if m+1=p.args.length then vaK p.kind else 0)∧(if m+1=p.args.length then vaK p.kind else 0)≤2:=by split<;>omega
    have et:=fvls_take (b:=bl) (w:=vaK p.kind) hm
    rw[ea] at hc et
    rw[←nub_app,et] at hc
    generalize (if m+1=p.args.length then vaK p.kind else 0)=q at*
    repeat'(first|refine M.gw ?_|refine M.c2 (hva) ?_|refine M.cb (hc) [0] 0 ?_|refine L.lkb U U U U U U U U U U ?_|((fail_if_success refine AX.wt U ?_);refine AX.gs U U (fun _=>trivial) (fun h=> ?_) (fun h=> ?_))|((with_reducible refine D.sblk ?_);refine K.sq (AW.block ?_))|((with_reducible refine D.blk ?_);refine AW.block ?_)|refine K.sq (AW.condS U (fun h=> ?_) (fun h=> ?_))|refine AW.condS U (fun h=> ?_) (fun h=> ?_)|((with_reducible show @LE.le Nat _ _ _);omega)|((with_reducible show @LT.lt Nat _ _ _);omega)|fail)
    exact⟨rfl,trivial,(M.W [some 0,some 1])⟩
   ·intro hP
    simp only[fvls_all]
    repeat'(first|refine M.gw ?_|refine L.lkb U U U U U U U U U U ?_|((fail_if_success refine AX.wt U ?_);refine AX.gs U U (fun _=>trivial) (fun h=> ?_) (fun h=> ?_))|((with_reducible refine D.sblk ?_);refine K.sq (AW.block ?_))|((with_reducible refine D.blk ?_);refine AW.block ?_)|refine K.sq (AW.condS U (fun h=> ?_) (fun h=> ?_))|refine AW.condS U (fun h=> ?_) (fun h=> ?_)|((with_reducible show @LE.le Nat _ _ _);omega)|((with_reducible show @LT.lt Nat _ _ _);omega)|fail)
    (first|exact M.n2 [some 0] (h6:=(by(repeat'(first|exact trivial|exact Or.inl U|exact Or.inr ⟨_,U,rfl⟩|refine And.intro ?_ ?_|refine⟨_,U,_,U,_,U,?_⟩|refine⟨_,U,_,U,?_⟩|exact VLe.refl _|exact VLe.any _ _|exact VsLe.refl _|refine VLe.agg ?_|exact VLe.of_eq (by simp[Sto.upd,V.frz])|refine⟨_,U,_,_,U,?_,?_⟩|with_reducible exact rfl|(simp[Sto.upd,V.frz];done)|exact Eq.refl true|refine⟨_,U,_,renVs_flat _ _ _,_,U,?_⟩));done)) (h8:=(by simp[tupV,V.wk,V.wks,constV,Ty.view,Tm.view,V.frz]))|exact M.r2 [some 0] (h6:=(by(repeat'(first|exact trivial|exact Or.inl U|exact Or.inr ⟨_,U,rfl⟩|refine And.intro ?_ ?_|refine⟨_,U,_,U,_,U,?_⟩|refine⟨_,U,_,U,?_⟩|exact VLe.refl _|exact VLe.any _ _|exact VsLe.refl _|refine VLe.agg ?_|exact VLe.of_eq (by simp[Sto.upd,V.frz])|refine⟨_,U,_,_,U,?_,?_⟩|with_reducible exact rfl|(simp[Sto.upd,V.frz];done)|exact Eq.refl true|refine⟨_,U,_,renVs_flat _ _ _,_,U,?_⟩));done)) (h8:=(by simp[tupV,V.wk,V.wks,constV,Ty.view,Tm.view,V.frz])))
theorem rhyps_c:∀(n:Nat) (p:Pf) (ks:List Int) (bl:Int),p.full≤n→n<100000000000→0≤bl→bl+2*n<300000000000→p.ixr→p.nd→
 AC E 73 [.agg p.view,.i bl,.mp 0] ⟨1,[(0,.map .bl ks (List.replicate ks.length true))]⟩ (.tup []) ⟨1,[(0,.map .bl (nub ks (p.hyl bl)) (List.replicate (nub ks (p.hyl bl)).length true))]⟩:=by
 intro n
 induction n with
 |zero=>intro p b bl h;have:=p.full_pos;omega
 |succ n ih=>
 intro p ks bl hsz hb hbl hbn hix hn
 obtain⟨x0,x1,x2,x3⟩:=(Pf.ixr_iff p).1 hix
 obtain⟨⟨nd,n1,n4⟩,hpn⟩:=(Pf.nd_iff p).1 hn
 have hsz':=p.full_eq
 have hlen:=lsum_len Pf.full Pf.full_pos p.args
 have b1:=hyK_bd p.kind
 have hend:nub ks (p.hyl bl)=nub (nub ks (if p.kind=1∧p.index≥bl then [p.index-bl] else [])) (Pf.hyls bl (hyK p.kind) p.args).flatten:=by rw[Pf.hyl_eq,nub_app]
 rw[hend]
 have hL:∀(m:Nat) (hm:m<p.args.length) (k0:List Int),∃q,(0≤q∧q≤1)∧PC E 123 [.i p.kind,.i m] (.i q)∧
  AC E 73 [.agg (p.args[m]).view,.i (bl+q),.mp 0] ⟨1,[(0,.map .bl (nub k0 ((Pf.hyls bl (hyK p.kind) p.args).take m).flatten) (List.replicate (nub k0 ((Pf.hyls bl (hyK p.kind) p.args).take m).flatten).length true))]⟩ (.tup [])
   ⟨1,[(0,.map .bl (nub k0 ((Pf.hyls bl (hyK p.kind) p.args).take (m+1)).flatten) (List.replicate (nub k0 ((Pf.hyls bl (hyK p.kind) p.args).take (m+1)).flatten).length true))]⟩:=fun m hm k0=>by
  have hs2:=lsum_mem Pf.full (List.getElem_mem hm)
  have hva:=rbound_c n1 m (by omega)
  rw[←n4] at hva
  refine⟨_,?_,hva,?_⟩
  ·split<;>omega
  have hc:=ih p.args[m] (nub k0 ((Pf.hyls bl (hyK p.kind) p.args).take m).flatten) (if m+1=p.args.length then bl+hyK p.kind else bl) (by omega) (by omega) (by split<;>omega) (by split<;>omega) (x3 _ (List.getElem_mem hm)) (hpn _ (List.getElem_mem hm))
  have ea:(if m+1=p.args.length then bl+hyK p.kind else bl)=bl+(if m+1=p.args.length then hyK p.kind else 0):=by split<;>omega
  have et:=hyls_take (b:=bl) (w:=hyK p.kind) hm
  rw[ea] at hc et
  rw[←nub_app,et] at hc
  exact hc
 clear ih
 by_cases hv1:p.kind=1∧p.index≥bl
 ·rw [if_pos hv1,nub_one]
  refine M.F Tryz.func73 ?_
  repeat'(first|refine M.gw ?_|refine L.lkb U U U U U U U U U U ?_|((fail_if_success refine AX.wt U ?_);refine AX.gs U U (fun _=>trivial) (fun h=> ?_) (fun h=> ?_))|((with_reducible refine D.sblk ?_);refine K.sq (AW.block ?_))|((with_reducible refine D.blk ?_);refine AW.block ?_)|refine K.sq (AW.condS U (fun h=> ?_) (fun h=> ?_))|refine AW.condS U (fun h=> ?_) (fun h=> ?_)|((with_reducible show @LE.le Nat _ _ _);omega)|((with_reducible show @LT.lt Nat _ _ _);omega)|fail)
  rotate_left
  ·exfalso;simp at h;omega
  ·exfalso;simp at h;exact h hv1.1
  refine AW.range p.args.length (fun m=>True)
   (fun m=>([(1,.i bl),(2,.mp 0),(3,.ptr 1 0),(23,.s .pf p.args),(24,.i p.args.length),(25,.i m)],⟨2,[(0,.map .bl (nub (putKs (p.index-bl) ks) ((Pf.hyls bl (hyK p.kind) p.args).take m).flatten) (List.replicate (nub (putKs (p.index-bl) ks) ((Pf.hyls bl (hyK p.kind) p.args).take m).flatten).length true)),(1,.var p.view)]⟩))
   (by omega) (fun m=>rfl) (fun m=>rfl) rfl trivial ?_ ?_ ?_
  ·simp only[List.take_zero,List.flatten_nil,nub_nil]
   rw[←putCs_same];exact(M.W [some 0,some 1])
  ·intro m hm hP
   obtain⟨q,hq,hbo,hc⟩:=hL m hm (putKs (p.index-bl) ks)
   repeat'(first|refine M.gw ?_|refine M.c2 (hbo) ?_|refine M.cb (hc) [0] 0 ?_|refine L.lkb U U U U U U U U U U ?_|((fail_if_success refine AX.wt U ?_);refine AX.gs U U (fun _=>trivial) (fun h=> ?_) (fun h=> ?_))|((with_reducible refine D.sblk ?_);refine K.sq (AW.block ?_))|((with_reducible refine D.blk ?_);refine AW.block ?_)|refine K.sq (AW.condS U (fun h=> ?_) (fun h=> ?_))|refine AW.condS U (fun h=> ?_) (fun h=> ?_)|((with_reducible show @LE.le Nat _ _ _);omega)|((with_reducible show @LT.lt Nat _ _ _);omega)|fail)
   exact⟨rfl,trivial,(M.W [some 0,some 1])⟩
  ·intro hP
   simp only[hyls_all]
   repeat'(first|refine M.gw ?_|refine L.lkb U U U U U U U U U U ?_|((fail_if_success refine AX.wt U ?_);refine AX.gs U U (fun _=>trivial) (fun h=> ?_) (fun h=> ?_))|((with_reducible refine D.sblk ?_);refine K.sq (AW.block ?_))|((with_reducible refine D.blk ?_);refine AW.block ?_)|refine K.sq (AW.condS U (fun h=> ?_) (fun h=> ?_))|refine AW.condS U (fun h=> ?_) (fun h=> ?_)|((with_reducible show @LE.le Nat _ _ _);omega)|((with_reducible show @LT.lt Nat _ _ _);omega)|fail)
   (first|exact M.n2 [some 0] (h6:=(by(repeat'(first|exact trivial|exact Or.inl U|exact Or.inr ⟨_,U,rfl⟩|refine And.intro ?_ ?_|refine⟨_,U,_,U,_,U,?_⟩|refine⟨_,U,_,U,?_⟩|exact VLe.refl _|exact VLe.any _ _|exact VsLe.refl _|refine VLe.agg ?_|exact VLe.of_eq (by simp[Sto.upd,V.frz])|refine⟨_,U,_,_,U,?_,?_⟩|with_reducible exact rfl|(simp[Sto.upd,V.frz];done)|exact Eq.refl true|refine⟨_,U,_,renVs_flat _ _ _,_,U,?_⟩));done)) (h8:=(by simp[tupV,V.wk,V.wks,constV,Ty.view,Tm.view,V.frz]))|exact M.r2 [some 0] (h6:=(by(repeat'(first|exact trivial|exact Or.inl U|exact Or.inr ⟨_,U,rfl⟩|refine And.intro ?_ ?_|refine⟨_,U,_,U,_,U,?_⟩|refine⟨_,U,_,U,?_⟩|exact VLe.refl _|exact VLe.any _ _|exact VsLe.refl _|refine VLe.agg ?_|exact VLe.of_eq (by simp[Sto.upd,V.frz])|refine⟨_,U,_,_,U,?_,?_⟩|with_reducible exact rfl|(simp[Sto.upd,V.frz];done)|exact Eq.refl true|refine⟨_,U,_,renVs_flat _ _ _,_,U,?_⟩));done)) (h8:=(by simp[tupV,V.wk,V.wks,constV,Ty.view,Tm.view,V.frz])))
 ·rw [if_neg hv1,nub_nil]
  refine M.F Tryz.func73 ?_
  repeat'(first|refine M.gw ?_|refine L.lkb U U U U U U U U U U ?_|((fail_if_success refine AX.wt U ?_);refine AX.gs U U (fun _=>trivial) (fun h=> ?_) (fun h=> ?_))|((with_reducible refine D.sblk ?_);refine K.sq (AW.block ?_))|((with_reducible refine D.blk ?_);refine AW.block ?_)|refine K.sq (AW.condS U (fun h=> ?_) (fun h=> ?_))|refine AW.condS U (fun h=> ?_) (fun h=> ?_)|((with_reducible show @LE.le Nat _ _ _);omega)|((with_reducible show @LT.lt Nat _ _ _);omega)|fail)
  ·rename_i h1'
   exfalso;exact hv1 ⟨by simpa using h1',by simpa using h⟩
  all_goals
   refine AW.range p.args.length (fun m=>True)
    (fun m=>([(1,.i bl),(2,.mp 0),(3,.ptr 1 0),(23,.s .pf p.args),(24,.i p.args.length),(25,.i m)],⟨2,[(0,.map .bl (nub ks ((Pf.hyls bl (hyK p.kind) p.args).take m).flatten) (List.replicate (nub ks ((Pf.hyls bl (hyK p.kind) p.args).take m).flatten).length true)),(1,.var p.view)]⟩))
    (by omega) (fun m=>rfl) (fun m=>rfl) rfl trivial ?_ ?_ ?_
   ·simp only[List.take_zero,List.flatten_nil,nub_nil]
    exact(M.W [some 0,some 1])
   ·intro m hm hP
    obtain⟨q,hq,hbo,hc⟩:=hL m hm ks
    repeat'(first|refine M.gw ?_|refine M.c2 (hbo) ?_|refine M.cb (hc) [0] 0 ?_|refine L.lkb U U U U U U U U U U ?_|((fail_if_success refine AX.wt U ?_);refine AX.gs U U (fun _=>trivial) (fun h=> ?_) (fun h=> ?_))|((with_reducible refine D.sblk ?_);refine K.sq (AW.block ?_))|((with_reducible refine D.blk ?_);refine AW.block ?_)|refine K.sq (AW.condS U (fun h=> ?_) (fun h=> ?_))|refine AW.condS U (fun h=> ?_) (fun h=> ?_)|((with_reducible show @LE.le Nat _ _ _);omega)|((with_reducible show @LT.lt Nat _ _ _);omega)|fail)
    exact⟨rfl,trivial,(M.W [some 0,some 1])⟩
   ·intro hP
    simp only[hyls_all]
    repeat'(first|refine M.gw ?_|refine L.lkb U U U U U U U U U U ?_|((fail_if_success refine AX.wt U ?_);refine AX.gs U U (fun _=>trivial) (fun h=> ?_) (fun h=> ?_))|((with_reducible refine D.sblk ?_);refine K.sq (AW.block ?_))|((with_reducible refine D.blk ?_);refine AW.block ?_)|refine K.sq (AW.condS U (fun h=> ?_) (fun h=> ?_))|refine AW.condS U (fun h=> ?_) (fun h=> ?_)|((with_reducible show @LE.le Nat _ _ _);omega)|((with_reducible show @LT.lt Nat _ _ _);omega)|fail)
    (first|exact M.n2 [some 0] (h6:=(by(repeat'(first|exact trivial|exact Or.inl U|exact Or.inr ⟨_,U,rfl⟩|refine And.intro ?_ ?_|refine⟨_,U,_,U,_,U,?_⟩|refine⟨_,U,_,U,?_⟩|exact VLe.refl _|exact VLe.any _ _|exact VsLe.refl _|refine VLe.agg ?_|exact VLe.of_eq (by simp[Sto.upd,V.frz])|refine⟨_,U,_,_,U,?_,?_⟩|with_reducible exact rfl|(simp[Sto.upd,V.frz];done)|exact Eq.refl true|refine⟨_,U,_,renVs_flat _ _ _,_,U,?_⟩));done)) (h8:=(by simp[tupV,V.wk,V.wks,constV,Ty.view,Tm.view,V.frz]))|exact M.r2 [some 0] (h6:=(by(repeat'(first|exact trivial|exact Or.inl U|exact Or.inr ⟨_,U,rfl⟩|refine And.intro ?_ ?_|refine⟨_,U,_,U,_,U,?_⟩|refine⟨_,U,_,U,?_⟩|exact VLe.refl _|exact VLe.any _ _|exact VsLe.refl _|refine VLe.agg ?_|exact VLe.of_eq (by simp[Sto.upd,V.frz])|refine⟨_,U,_,_,U,?_,?_⟩|with_reducible exact rfl|(simp[Sto.upd,V.frz];done)|exact Eq.refl true|refine⟨_,U,_,renVs_flat _ _ _,_,U,?_⟩));done)) (h8:=(by simp[tupV,V.wk,V.wks,constV,Ty.view,Tm.view,V.frz])))
theorem rlems_c:∀(n:Nat) (p:Pf) (ks:List Int),p.full≤n→n<100000000000→
 AC E 75 [.agg p.view,.mp 0] ⟨1,[(0,.map .bl ks (List.replicate ks.length true))]⟩ (.tup []) ⟨1,[(0,.map .bl (nub ks p.lml) (List.replicate (nub ks p.lml).length true))]⟩:=by
 intro n
 induction n with
 |zero=>intro p b h;have:=p.full_pos;omega
 |succ n ih=>
 intro p ks hsz hb
 have hsz':=p.full_eq
 have hlen:=lsum_len Pf.full Pf.full_pos p.args
 have hend:nub ks p.lml=nub (nub ks (if p.kind=2 then [p.index] else [])) (p.args.map Pf.lml).flatten:=by rw[Pf.lml_eq,nub_app]
 rw[hend]
 have hL:∀(m:Nat) (hm:m<p.args.length) (k0:List Int),
  AC E 75 [.agg (p.args[m]).view,.mp 0] ⟨1,[(0,.map .bl (nub k0 ((p.args.map Pf.lml).take m).flatten) (List.replicate (nub k0 ((p.args.map Pf.lml).take m).flatten).length true))]⟩ (.tup [])
   ⟨1,[(0,.map .bl (nub k0 ((p.args.map Pf.lml).take (m+1)).flatten) (List.replicate (nub k0 ((p.args.map Pf.lml).take (m+1)).flatten).length true))]⟩:=fun m hm k0=>by
  have hs2:=lsum_mem Pf.full (List.getElem_mem hm)
  have hc:=ih p.args[m] (nub k0 ((p.args.map Pf.lml).take m).flatten) (by omega) (by omega)
  rw[←nub_app,lmls_take hm] at hc
  exact hc
 clear ih
 by_cases hv1:p.kind=2
 ·rw [if_pos hv1,nub_one]
  refine M.F Tryz.func75 ?_
  repeat'(first|refine M.gw ?_|refine L.lkb U U U U U U U U U U ?_|((fail_if_success refine AX.wt U ?_);refine AX.gs U U (fun _=>trivial) (fun h=> ?_) (fun h=> ?_))|((with_reducible refine D.sblk ?_);refine K.sq (AW.block ?_))|((with_reducible refine D.blk ?_);refine AW.block ?_)|refine K.sq (AW.condS U (fun h=> ?_) (fun h=> ?_))|refine AW.condS U (fun h=> ?_) (fun h=> ?_)|((with_reducible show @LE.le Nat _ _ _);omega)|((with_reducible show @LT.lt Nat _ _ _);omega)|fail)
  rotate_left
  ·exfalso;simp at h;exact h hv1
  refine AW.range p.args.length (fun m=>True)
   (fun m=>([(1,.mp 0),(2,.ptr 1 0),(13,.s .pf p.args),(14,.i p.args.length),(15,.i m)],⟨2,[(0,.map .bl (nub (putKs p.index ks) ((p.args.map Pf.lml).take m).flatten) (List.replicate (nub (putKs p.index ks) ((p.args.map Pf.lml).take m).flatten).length true)),(1,.var p.view)]⟩))
   (by omega) (fun m=>rfl) (fun m=>rfl) rfl trivial ?_ ?_ ?_
  ·simp only[List.take_zero,List.flatten_nil,nub_nil]
   rw[←putCs_same];exact(M.W [some 0,some 1])
  ·intro m hm hP
   have hc:=hL m hm (putKs p.index ks)
   repeat'(first|refine M.gw ?_|refine M.cb (hc) [0] 0 ?_|refine L.lkb U U U U U U U U U U ?_|((fail_if_success refine AX.wt U ?_);refine AX.gs U U (fun _=>trivial) (fun h=> ?_) (fun h=> ?_))|((with_reducible refine D.sblk ?_);refine K.sq (AW.block ?_))|((with_reducible refine D.blk ?_);refine AW.block ?_)|refine K.sq (AW.condS U (fun h=> ?_) (fun h=> ?_))|refine AW.condS U (fun h=> ?_) (fun h=> ?_)|((with_reducible show @LE.le Nat _ _ _);omega)|((with_reducible show @LT.lt Nat _ _ _);omega)|fail)
   exact⟨rfl,trivial,(M.W [some 0,some 1])⟩
  ·intro hP
   simp only[lmls_all]
   repeat'(first|refine M.gw ?_|refine L.lkb U U U U U U U U U U ?_|((fail_if_success refine AX.wt U ?_);refine AX.gs U U (fun _=>trivial) (fun h=> ?_) (fun h=> ?_))|((with_reducible refine D.sblk ?_);refine K.sq (AW.block ?_))|((with_reducible refine D.blk ?_);refine AW.block ?_)|refine K.sq (AW.condS U (fun h=> ?_) (fun h=> ?_))|refine AW.condS U (fun h=> ?_) (fun h=> ?_)|((with_reducible show @LE.le Nat _ _ _);omega)|((with_reducible show @LT.lt Nat _ _ _);omega)|fail)
   (first|exact M.n2 [some 0] (h6:=(by(repeat'(first|exact trivial|exact Or.inl U|exact Or.inr ⟨_,U,rfl⟩|refine And.intro ?_ ?_|refine⟨_,U,_,U,_,U,?_⟩|refine⟨_,U,_,U,?_⟩|exact VLe.refl _|exact VLe.any _ _|exact VsLe.refl _|refine VLe.agg ?_|exact VLe.of_eq (by simp[Sto.upd,V.frz])|refine⟨_,U,_,_,U,?_,?_⟩|with_reducible exact rfl|(simp[Sto.upd,V.frz];done)|exact Eq.refl true|refine⟨_,U,_,renVs_flat _ _ _,_,U,?_⟩));done)) (h8:=(by simp[tupV,V.wk,V.wks,constV,Ty.view,Tm.view,V.frz]))|exact M.r2 [some 0] (h6:=(by(repeat'(first|exact trivial|exact Or.inl U|exact Or.inr ⟨_,U,rfl⟩|refine And.intro ?_ ?_|refine⟨_,U,_,U,_,U,?_⟩|refine⟨_,U,_,U,?_⟩|exact VLe.refl _|exact VLe.any _ _|exact VsLe.refl _|refine VLe.agg ?_|exact VLe.of_eq (by simp[Sto.upd,V.frz])|refine⟨_,U,_,_,U,?_,?_⟩|with_reducible exact rfl|(simp[Sto.upd,V.frz];done)|exact Eq.refl true|refine⟨_,U,_,renVs_flat _ _ _,_,U,?_⟩));done)) (h8:=(by simp[tupV,V.wk,V.wks,constV,Ty.view,Tm.view,V.frz])))
 ·rw [if_neg hv1,nub_nil]
  refine M.F Tryz.func75 ?_
  repeat'(first|refine M.gw ?_|refine L.lkb U U U U U U U U U U ?_|((fail_if_success refine AX.wt U ?_);refine AX.gs U U (fun _=>trivial) (fun h=> ?_) (fun h=> ?_))|((with_reducible refine D.sblk ?_);refine K.sq (AW.block ?_))|((with_reducible refine D.blk ?_);refine AW.block ?_)|refine K.sq (AW.condS U (fun h=> ?_) (fun h=> ?_))|refine AW.condS U (fun h=> ?_) (fun h=> ?_)|((with_reducible show @LE.le Nat _ _ _);omega)|((with_reducible show @LT.lt Nat _ _ _);omega)|fail)
  ·exfalso;simp at h;exact hv1 h
  refine AW.range p.args.length (fun m=>True)
   (fun m=>([(1,.mp 0),(2,.ptr 1 0),(13,.s .pf p.args),(14,.i p.args.length),(15,.i m)],⟨2,[(0,.map .bl (nub ks ((p.args.map Pf.lml).take m).flatten) (List.replicate (nub ks ((p.args.map Pf.lml).take m).flatten).length true)),(1,.var p.view)]⟩))
   (by omega) (fun m=>rfl) (fun m=>rfl) rfl trivial ?_ ?_ ?_
  ·simp only[List.take_zero,List.flatten_nil,nub_nil]
   exact(M.W [some 0,some 1])
  ·intro m hm hP
   have hc:=hL m hm ks
   repeat'(first|refine M.gw ?_|refine M.cb (hc) [0] 0 ?_|refine L.lkb U U U U U U U U U U ?_|((fail_if_success refine AX.wt U ?_);refine AX.gs U U (fun _=>trivial) (fun h=> ?_) (fun h=> ?_))|((with_reducible refine D.sblk ?_);refine K.sq (AW.block ?_))|((with_reducible refine D.blk ?_);refine AW.block ?_)|refine K.sq (AW.condS U (fun h=> ?_) (fun h=> ?_))|refine AW.condS U (fun h=> ?_) (fun h=> ?_)|((with_reducible show @LE.le Nat _ _ _);omega)|((with_reducible show @LT.lt Nat _ _ _);omega)|fail)
   exact⟨rfl,trivial,(M.W [some 0,some 1])⟩
  ·intro hP
   simp only[lmls_all]
   repeat'(first|refine M.gw ?_|refine L.lkb U U U U U U U U U U ?_|((fail_if_success refine AX.wt U ?_);refine AX.gs U U (fun _=>trivial) (fun h=> ?_) (fun h=> ?_))|((with_reducible refine D.sblk ?_);refine K.sq (AW.block ?_))|((with_reducible refine D.blk ?_);refine AW.block ?_)|refine K.sq (AW.condS U (fun h=> ?_) (fun h=> ?_))|refine AW.condS U (fun h=> ?_) (fun h=> ?_)|((with_reducible show @LE.le Nat _ _ _);omega)|((with_reducible show @LT.lt Nat _ _ _);omega)|fail)
   (first|exact M.n2 [some 0] (h6:=(by(repeat'(first|exact trivial|exact Or.inl U|exact Or.inr ⟨_,U,rfl⟩|refine And.intro ?_ ?_|refine⟨_,U,_,U,_,U,?_⟩|refine⟨_,U,_,U,?_⟩|exact VLe.refl _|exact VLe.any _ _|exact VsLe.refl _|refine VLe.agg ?_|exact VLe.of_eq (by simp[Sto.upd,V.frz])|refine⟨_,U,_,_,U,?_,?_⟩|with_reducible exact rfl|(simp[Sto.upd,V.frz];done)|exact Eq.refl true|refine⟨_,U,_,renVs_flat _ _ _,_,U,?_⟩));done)) (h8:=(by simp[tupV,V.wk,V.wks,constV,Ty.view,Tm.view,V.frz]))|exact M.r2 [some 0] (h6:=(by(repeat'(first|exact trivial|exact Or.inl U|exact Or.inr ⟨_,U,rfl⟩|refine And.intro ?_ ?_|refine⟨_,U,_,U,_,U,?_⟩|refine⟨_,U,_,U,?_⟩|exact VLe.refl _|exact VLe.any _ _|exact VsLe.refl _|refine VLe.agg ?_|exact VLe.of_eq (by simp[Sto.upd,V.frz])|refine⟨_,U,_,_,U,?_,?_⟩|with_reducible exact rfl|(simp[Sto.upd,V.frz];done)|exact Eq.refl true|refine⟨_,U,_,renVs_flat _ _ _,_,U,?_⟩));done)) (h8:=(by simp[tupV,V.wk,V.wks,constV,Ty.view,Tm.view,V.frz])))
theorem nub_len0(l:List Int):(nub [] l).length≤l.length:=by have:=nub_len l [];simpa using this
theorem rHyps_c(p:Pf)(hp:p.full<100000000000)(hix:p.err=0→p.ixr):PC E 13 [.agg p.view] (.tup [.s .int (if p.err=0 then hypsI p else []),.i p.err]):=by
 have h1:=rcheckP_c p (by omega)
 by_cases he:p.err=0
 ·have hc:=rhyps_c _ p [] 0 (Nat.le_refl _) (by omega) (by omega) (by omega) (hix he) (nd_of p ((Pf.err_iff p).1 he).1)
  simp only[List.length_nil,List.replicate_zero] at hc
  have hl:=nub_len0 (p.hyl 0)
  have hl2:=phyl_full p 0
  have hs:=sortedR_c (ks:=nub [] (p.hyl 0)) (nodup_nub List.nodup_nil) (by omega)
  rw[if_pos he]
  rw[he] at h1 ⊢
  unfold hypsI
  refine M.F Tryz.func13 ?_
  repeat'(first|refine M.gw ?_|refine M.c2 (h1) ?_|refine M.cb (hc) [1] 0 ?_|refine M.cb (hs) [1] 0 ?_|refine L.lkb U U U U U U U U U U ?_|((fail_if_success refine AX.wt U ?_);refine AX.gs U U (fun _=>trivial) (fun h=> ?_) (fun h=> ?_))|((with_reducible refine D.sblk ?_);refine K.sq (AW.block ?_))|((with_reducible refine D.blk ?_);refine AW.block ?_)|refine K.sq (AW.condS U (fun h=> ?_) (fun h=> ?_))|refine AW.condS U (fun h=> ?_) (fun h=> ?_)|((with_reducible show @LE.le Nat _ _ _);omega)|((with_reducible show @LT.lt Nat _ _ _);omega)|fail)
  all_goals first
   |rfl
   |(exfalso;simp at h;done)
   |trace_state
 ·rw [if_neg he]
  refine M.F Tryz.func13 ?_
  repeat'(first|refine M.go ?_|refine M.c2 (h1) ?_|refine L.lkb U U U U U U U U U U ?_|((fail_if_success refine AX.wt U ?_);refine AX.gs U U (fun _=>trivial) (fun h=> ?_) (fun h=> ?_))|((with_reducible refine D.aw ?_);(fail_if_success with_reducible refine D.stopR (id:=4) ?_);(fail_if_success with_reducible refine D.stopS (id:=4) ?_);first|refine M.ga ?_|((with_reducible refine D.sblk ?_);refine K.sq (AW.block ?_))|((with_reducible refine D.blk ?_);refine AW.block ?_)|refine K.sq (AW.condS U (fun h=> ?_) (fun h=> ?_))|refine AW.condS U (fun h=> ?_) (fun h=> ?_))|((with_reducible show @LE.le Nat _ _ _);omega)|((with_reducible show @LT.lt Nat _ _ _);omega)|refine M.gk ?_|fail)
  all_goals first
   |rfl
   |(exfalso;simp at h;exact he h)
   |trace_state
theorem rLemmas_c(p:Pf)(hp:p.full<100000000000):PC E 14 [.agg p.view] (.tup [.s .int (if p.err=0 then lemsI p else []),.i p.err]):=by
 have h1:=rcheckP_c p (by omega)
 by_cases he:p.err=0
 ·have hc:=rlems_c _ p [] (Nat.le_refl _) (by omega)
  simp only[List.length_nil,List.replicate_zero] at hc
  have hl:=nub_len0 p.lml
  have hl2:=plml_full p
  have hs:=sortedR_c (ks:=nub [] p.lml) (nodup_nub List.nodup_nil) (by omega)
  rw[if_pos he]
  rw[he] at h1 ⊢
  unfold lemsI
  refine M.F Tryz.func14 ?_
  repeat'(first|refine M.gw ?_|refine M.c2 (h1) ?_|refine M.cb (hc) [1] 0 ?_|refine M.cb (hs) [1] 0 ?_|refine L.lkb U U U U U U U U U U ?_|((fail_if_success refine AX.wt U ?_);refine AX.gs U U (fun _=>trivial) (fun h=> ?_) (fun h=> ?_))|((with_reducible refine D.sblk ?_);refine K.sq (AW.block ?_))|((with_reducible refine D.blk ?_);refine AW.block ?_)|refine K.sq (AW.condS U (fun h=> ?_) (fun h=> ?_))|refine AW.condS U (fun h=> ?_) (fun h=> ?_)|((with_reducible show @LE.le Nat _ _ _);omega)|((with_reducible show @LT.lt Nat _ _ _);omega)|fail)
  all_goals first
   |rfl
   |(exfalso;simp at h;done)
   |trace_state
 ·rw [if_neg he]
  refine M.F Tryz.func14 ?_
  repeat'(first|refine M.go ?_|refine M.c2 (h1) ?_|refine L.lkb U U U U U U U U U U ?_|((fail_if_success refine AX.wt U ?_);refine AX.gs U U (fun _=>trivial) (fun h=> ?_) (fun h=> ?_))|((with_reducible refine D.aw ?_);(fail_if_success with_reducible refine D.stopR (id:=4) ?_);(fail_if_success with_reducible refine D.stopS (id:=4) ?_);first|refine M.ga ?_|((with_reducible refine D.sblk ?_);refine K.sq (AW.block ?_))|((with_reducible refine D.blk ?_);refine AW.block ?_)|refine K.sq (AW.condS U (fun h=> ?_) (fun h=> ?_))|refine AW.condS U (fun h=> ?_) (fun h=> ?_))|((with_reducible show @LE.le Nat _ _ _);omega)|((with_reducible show @LT.lt Nat _ _ _);omega)|refine M.gk ?_|fail)
  all_goals first
   |rfl
   |(exfalso;simp at h;exact he h)
   |trace_state
theorem rUses_c(p:Pf)(hp:p.full<100000000000)(hix:p.err=0→p.ixr):PC E 15 [.agg p.view] (.tup [.s .int (if p.err=0 then usesP p else []),.i p.err]):=by
 have h1:=rcheckP_c p (by omega)
 by_cases he:p.err=0
 ·have hc:=rmarks_c _ p [] 0 (Nat.le_refl _) (by omega) (by omega) (by omega) (hix he) (nd_of p ((Pf.err_iff p).1 he).1)
  simp only[List.length_nil,List.replicate_zero] at hc
  have hl:=nub_len0 (p.fvl 0)
  have hl2:=pfvl_full p 0
  have hs:=sortedR_c (ks:=nub [] (p.fvl 0)) (nodup_nub List.nodup_nil) (by omega)
  rw[if_pos he]
  rw[he] at h1 ⊢
  unfold usesP
  refine M.F Tryz.func15 ?_
  repeat'(first|refine M.gw ?_|refine M.c2 (h1) ?_|refine M.cb (hc) [1] 0 ?_|refine M.cb (hs) [1] 0 ?_|refine L.lkb U U U U U U U U U U ?_|((fail_if_success refine AX.wt U ?_);refine AX.gs U U (fun _=>trivial) (fun h=> ?_) (fun h=> ?_))|((with_reducible refine D.sblk ?_);refine K.sq (AW.block ?_))|((with_reducible refine D.blk ?_);refine AW.block ?_)|refine K.sq (AW.condS U (fun h=> ?_) (fun h=> ?_))|refine AW.condS U (fun h=> ?_) (fun h=> ?_)|((with_reducible show @LE.le Nat _ _ _);omega)|((with_reducible show @LT.lt Nat _ _ _);omega)|fail)
  all_goals first
   |rfl
   |(exfalso;simp at h;done)
   |trace_state
 ·rw [if_neg he]
  refine M.F Tryz.func15 ?_
  repeat'(first|refine M.go ?_|refine M.c2 (h1) ?_|refine L.lkb U U U U U U U U U U ?_|((fail_if_success refine AX.wt U ?_);refine AX.gs U U (fun _=>trivial) (fun h=> ?_) (fun h=> ?_))|((with_reducible refine D.aw ?_);(fail_if_success with_reducible refine D.stopR (id:=4) ?_);(fail_if_success with_reducible refine D.stopS (id:=4) ?_);first|refine M.ga ?_|((with_reducible refine D.sblk ?_);refine K.sq (AW.block ?_))|((with_reducible refine D.blk ?_);refine AW.block ?_)|refine K.sq (AW.condS U (fun h=> ?_) (fun h=> ?_))|refine AW.condS U (fun h=> ?_) (fun h=> ?_))|((with_reducible show @LE.le Nat _ _ _);omega)|((with_reducible show @LT.lt Nat _ _ _);omega)|refine M.gk ?_|fail)
  all_goals first
   |rfl
   |(exfalso;simp at h;exact he h)
   |trace_state
theorem rlfA_c(f:Fm)(g:List Ty)(h:Gf g f 487)(hg:g.length≤100):PC E 44 [.agg f.view,.i 0,.i 1] (.tup [.agg (f.lft 0 1).view,.i 0]):=by
 have ff:=gf_full h (by omega)
 have ix:=gf_ix h (by omega) hg
 have ef:=h.err (by omega)
 have h1:=fcheckR_c f (by omega)
 rw[ef] at h1
 have nf:=(fokT_near h.ok ef (by omega)).1
 have h2:=rleastF_c 536870912 (by omega) _ f (Nat.le_refl _) (by omega) h.sh
 have e2:leastF 536870912 f=true:=nf
 rw[e2] at h2
 have h3:=rupF0_c f 0 1 (by omega) (by omega) (by omega) h.sh ix
 have lf:=lft_full h.sh (fr:=0) (by_:=1) (by omega)
 have h4:=copyFm_c _ (f.lft 0 1) (Nat.le_refl _) (by omega)
 generalize f.lft 0 1=F0 at*
 refine M.F Tryz.func44 ?_
 repeat'(first|refine M.gw ?_|refine M.c2 (h1) ?_|refine M.c2 (h2) ?_|refine M.c2 (h3) ?_|refine M.c2 (h4) ?_|fail)
 all_goals first
  |rfl
  |trace_state
theorem rszA_c(f:Fm)(h:f.err=0):PC E 46 [.agg f.view] (.tup [.agg f.view,.i 0]):=by
 have hz:=((Fm.err_iff f).1 h).2
 have ff:=ferr_full h
 have h1:=fcountR_c _ f (Nat.le_refl _) (by omega)
 refine M.F Tryz.func46 ?_
 repeat'(first|refine M.gw ?_|refine M.c2 (h1) ?_|refine AW.condS U (fun h=> ?_) (fun h=> ?_)|fail)
 all_goals first
  |(exfalso;simp at h;omega)
  |rfl
  |trace_state
theorem rorA_c(a b:Fm)(g:List Ty)(ha:Gf g a 487)(hb:Gf g b 487)(hg:g.length≤100):PC E 9 [.agg a.view,.agg b.view] (.tup [.agg (orA a b).view,.i 0]):=by
 have h1:=rlfA_c a g ha hg
 have h2:=rlfA_c b g hb hg
 have fa:=gf_full ha (by omega)
 have fb:=gf_full hb (by omega)
 have la:=lft_full ha.sh (fr:=0) (by_:=1) (by omega)
 have lb:=lft_full hb.sh (fr:=0) (by_:=1) (by omega)
 have eo:=(orA_gf ha hb).err (by omega)
 have hs:=rszA_c (orA a b) eo
 have v0:=var_c 0
 have n4:=n_c 4 [] (by simp)
 have q1:=eqFm_c (vT 0) zT (by decide) (by decide)
 have q2:=falseN_c
 have z1:zeroF.full≤100:=by decide
 have z2:(notF zeroF).full≤200:=by decide
 unfold orA at hs ⊢
 generalize a.lft 0 1=x at*
 generalize b.lft 0 1=y at*
 have t1:=twoFm_c 3 zeroF x (by omega) (by omega)
 have t2:=twoFm_c 3 zeroF falseF (by decide) (by decide)
 have t3:=twoFm_c 3 (notF zeroF) y (by omega) (by omega)
 have t4:=twoFm_c 2 (twoF 3 zeroF x) (twoF 3 (notF zeroF) y) (by simp only[twoF,Fm.full,Fm.fulls,List.map_nil,List.sum_nil,Ty.size,Ty.sizes];omega) (by simp only[twoF,Fm.full,Fm.fulls,List.map_nil,List.sum_nil,Ty.size,Ty.sizes];omega)
 have t5:=qFm_c 5 natT (twoF 2 (twoF 3 zeroF x) (twoF 3 (notF zeroF) y)) (by decide) (by simp only[twoF,Fm.full,Fm.fulls,List.map_nil,List.sum_nil,Ty.size,Ty.sizes];omega)
 have hn:=nat_c
 obtain⟨k1,s1,p1,r1⟩:=x
 obtain⟨k2,s2,p2,r2⟩:=y
 refine M.F Tryz.func9 ?_
 repeat'(first|refine M.go ?_|refine M.c2 (h1) ?_|refine M.c2 (h2) ?_|((with_reducible refine D.aw ?_);(fail_if_success with_reducible refine D.stopR (id:=7) ?_);(fail_if_success with_reducible refine D.stopS (id:=7) ?_);first|refine M.ga ?_)|refine M.gk ?_|fail)
 repeat'(first|refine M.go ?_|refine M.c2 (v0) ?_|refine M.c2 (n4) ?_|refine M.c2 (q1) ?_|((with_reducible refine D.aw ?_);(fail_if_success with_reducible refine D.stopR (id:=8) ?_);(fail_if_success with_reducible refine D.stopS (id:=8) ?_);first|refine M.ga ?_)|refine M.gk ?_|fail)
 repeat'(first|refine M.go ?_|refine M.c2 (t1) ?_|((with_reducible refine D.aw ?_);(fail_if_success with_reducible refine D.stopR (id:=9) ?_);(fail_if_success with_reducible refine D.stopS (id:=9) ?_);first|refine M.ga ?_)|refine M.gk ?_|fail)
 repeat'(first|refine M.go ?_|refine M.c2 (q2) ?_|refine M.c2 (t2) ?_|refine M.c2 (t3) ?_|((with_reducible refine D.aw ?_);(fail_if_success with_reducible refine D.stopR (id:=10) ?_);(fail_if_success with_reducible refine D.stopS (id:=10) ?_);first|refine M.ga ?_)|refine M.gk ?_|fail)
 repeat'(first|refine M.gw ?_|refine M.c2 (hn) ?_|refine M.c2 (t4) ?_|refine M.c2 (t5) ?_|refine M.c2 (hs) ?_|fail)
 all_goals first
  |rfl
  |trace_state
end Go.Ab
