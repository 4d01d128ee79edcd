/- A part of the proofs of this seat's statements: S119, S118b, S120. It has no conditions of its own. -/
import Derived.Test.YteenjilpjblgeaaGreatDoorA2
import Derived.Test.YteenjilpjblgeaaGreatDoorST5
import Derived.Test.YteenjilpjblgeaaGreatDoorST3
import Derived.Test.YteenjilpjblgeaaGreatDoorS4
namespace Go.Ab
open Go Go.Proofs
set_option maxRecDepth 100000
set_option maxHeartbeats 4000000
set_option linter.all false
theorem eqSame_c(s t:Tm):PC E 48 [.agg s.view,.agg t.view] (.agg (sameF s t).view):=by
 have h1:=deq_c s t
 refine M.F Tryz.func48 ?_
 repeat'(first|refine M.gw ?_|refine M.c2 (h1) ?_|fail)
 rfl
theorem sure_c(p:Pf)(e:Int):PC E 51 [.agg p.view,.i e] (.agg p.view):=by
 refine M.F Tryz.func51 ?_
 repeat'(first|refine M.gw ?_|fail)
 rfl
def eqS:Sto:=⟨1,[(0,.var [.fn (.func 48) [] []])]⟩
theorem sameF_full(s t:Tm):(sameF s t).full=2+s.full+t.full:=eqf_fl s t
theorem eqLeft_c(s t:Tm)(p:Pf)(hs:s.full<10000)(ht:t.full<10000)(hp:p.full<1000000):
 AC E 50 [.agg s.view,.agg t.view,.agg p.view,.ptr 0 0] eqS (.agg (lftR (sameF s t) (notF (sameF s t)) p).1.view) eqS:=by
 have h1:=eqSame_c s t
 have h2:=dnot_c (sameF s t)
 have f1:=sameF_full s t
 have f2:=notF_full (sameF s t)
 have h3:=dLeftW_c (sameF s t) (notF (sameF s t)) p (by omega) (by omega) (by omega)
 have h4:=sure_c (lftR (sameF s t) (notF (sameF s t)) p).1 (lftR (sameF s t) (notF (sameF s t)) p).2
 generalize lftR (sameF s t) (notF (sameF s t)) p=R at*
 unfold eqS
 refine M.F Tryz.func50 ?_
 repeat'(first|refine M.gw ?_|refine M.cv (h1) [] 0 ?_|refine M.c2 (h2) ?_|refine M.c2 (h3) ?_|refine M.c2 (h4) ?_|fail)
 (exact M.n2 [some 0] (h8:=(by simp[tupV,V.wk,V.wks,constV,Ty.view,Tm.view,Pf.view])))
theorem eqRight_c(s t:Tm)(p:Pf)(hs:s.full<10000)(ht:t.full<10000)(hp:p.full<1000000):
 AC E 53 [.agg s.view,.agg t.view,.agg p.view,.ptr 0 0] eqS (.agg (rgtR (sameF s t) (notF (sameF s t)) (impP (sameF s t) p)).1.view) eqS:=by
 have h1:=eqSame_c s t
 have h2:=dnot_c (sameF s t)
 have h5:=dimpI_c (sameF s t) p
 have f1:=sameF_full s t
 have f2:=notF_full (sameF s t)
 have h3:=dRightW_c (sameF s t) (notF (sameF s t)) (impP (sameF s t) p) (by omega) (by omega) (by rw[impP_full];omega)
 have h4:=sure_c (rgtR (sameF s t) (notF (sameF s t)) (impP (sameF s t) p)).1 (rgtR (sameF s t) (notF (sameF s t)) (impP (sameF s t) p)).2
 generalize rgtR (sameF s t) (notF (sameF s t)) (impP (sameF s t) p)=R at*
 unfold eqS
 refine M.F Tryz.func53 ?_
 repeat'(first|refine M.gw ?_|refine M.cv (h1) [] 0 ?_|refine M.c2 (h2) ?_|refine M.c2 (h5) ?_|refine M.c2 (h3) ?_|refine M.c2 (h4) ?_|fail)
 (exact M.n2 [some 0] (h8:=(by simp[tupV,V.wk,V.wks,constV,Ty.view,Tm.view,Pf.view])))
theorem eqDec_c(s t:Tm)(hs:s.full<10000)(ht:t.full<10000)(ho:orE (sameF s t) (notF (sameF s t))=0):
 AC E 55 [.agg s.view,.agg t.view,.ptr 0 0] eqS (.agg (decF s t).view) eqS:=by
 have h1:=eqSame_c s t
 have h2:=dnot_c (sameF s t)
 have f1:=sameF_full s t
 have f2:=notF_full (sameF s t)
 have h3:=orW_c (sameF s t) (notF (sameF s t)) (by omega) (by omega)
 rw[if_pos ho,ho] at h3
 unfold decF
 generalize orA (sameF s t) (notF (sameF s t))=R at*
 unfold eqS
 refine M.F Tryz.func55 ?_
 repeat'(first|refine M.gw ?_|refine M.cv (h1) [] 0 ?_|refine M.c2 (h2) ?_|refine M.c2 (h3) ?_|fail)
 (exact M.n2 [some 0] (h8:=(by simp[tupV,V.wk,V.wks,constV,Ty.view,Tm.view,Fm.view])))
theorem lftR_ok{a b:Fm}{p:Pf}(h0:firstI Ch.err [.fm a,.fm b,.pf p]=0)(h1:orE a b=0∧(nothW b.dp 262144 b 0).2≥0)(h2:(lftW a b p (nothW b.dp 262144 b 0).1).err=0):lftR a b p=(lftW a b p (nothW b.dp 262144 b 0).1,0):=by
 unfold lftR derE doneR
 rw[if_neg (by simp[h0]),decide_eq_true h1,if_neg (by simp),if_pos h2]
theorem rgtR_ok{a b:Fm}{p:Pf}(h0:firstI Ch.err [.fm a,.fm b,.pf p]=0)(h1:orE a b=0∧(nothW a.dp 262144 a 0).2≥0)(h2:(rgtW a b p (nothW a.dp 262144 a 0).1).err=0):rgtR a b p=(rgtW a b p (nothW a.dp 262144 a 0).1,0):=by
 unfold rgtR derE doneR
 rw[if_neg (by simp[h0]),decide_eq_true h1,if_neg (by simp),if_pos h2]
theorem derR_ok2{l:List Ch}{p:Pf}(h0:firstI Ch.err l=0)(h2:p.err=0):derR l p=(p,0):=by
 unfold derR doneR
 rw[if_neg (by simp[h0]),if_pos h2]
theorem eqA1:lftR (sameF zT zT) (notF (sameF zT zT)) (reflP zT)=(elP zT zT (reflP zT),0):=lftR_ok (by decide+kernel) (by decide+kernel) (by decide+kernel)
theorem eqA2:rgtR (sameF zT (sT (vT 0))) (notF (sameF zT (sT (vT 0)))) (impP (sameF zT (sT (vT 0))) (absurdP (hypP 0)))=(erP zT (sT (vT 0)) (absurdP (hypP 0)),0):=rgtR_ok (by decide+kernel) (by decide+kernel) (by decide+kernel)
theorem eqA3:numR (decF zT (vT 0)) (elP zT zT (reflP zT)) (allIP natT (erP zT (sT (vT 0)) (absurdP (hypP 0))))=(eq1P,0):=derR_ok2 (by decide+kernel) (by decide+kernel)
theorem eqA4:lftR (sameF (sT (vT 1)) (sT (vT 0))) (notF (sameF (sT (vT 1)) (sT (vT 0)))) (congW sucT (vT 1) (hypP 0))=(elP (sT (vT 1)) (sT (vT 0)) (congW sucT (vT 1) (hypP 0)),0):=lftR_ok (by decide+kernel) (by decide+kernel) (by decide+kernel)
theorem eqA5:rgtR (sameF (sT (vT 1)) (sT (vT 0))) (notF (sameF (sT (vT 1)) (sT (vT 0)))) (impP (sameF (sT (vT 1)) (sT (vT 0))) (impEP (hypP 1) (injW (vT 1) (hypP 0))))=(erP (sT (vT 1)) (sT (vT 0)) (impEP (hypP 1) (injW (vT 1) (hypP 0))),0):=rgtR_ok (by decide+kernel) (by decide+kernel) (by decide+kernel)
theorem eqA6:casR (sameF (vT 1) (vT 0)) (notF (sameF (vT 1) (vT 0))) (decF (sT (vT 1)) (sT (vT 0))) (allEP (vT 0) (hypP 0)) eqEP eqDP=(eqBP,0):=derR_ok2 (by decide+kernel) (by decide+kernel)
theorem eqA7:rgtR (sameF (sT (vT 0)) zT) (notF (sameF (sT (vT 0)) zT)) (impP (sameF (sT (vT 0)) zT) (absurdP (symW (sT (vT 0)) (hypP 0))))=(erP (sT (vT 0)) zT (absurdP (symW (sT (vT 0)) (hypP 0))),0):=rgtR_ok (by decide+kernel) (by decide+kernel) (by decide+kernel)
theorem eqA8:numR (decF (sT (vT 1)) (vT 0)) (erP (sT (vT 0)) zT (absurdP (symW (sT (vT 0)) (hypP 0)))) (allIP natT eqBP)=(eq2P,0):=derR_ok2 (by decide+kernel) (by decide+kernel)
theorem equality_c:PC E 12 [] (.agg eqP.view):=by
 have v1:=tvar_c 1
 have v0:=tvar_c 0
 have z0:=dzero_c
 have r0:=drefl_c zT
 have tn:=tnat_c
 have y0:=hyp_c 0
 have y1:=hyp_c 1
 have s0:=dsucc_c (vT 0)
 have s1:=dsucc_c (vT 1)
 have d1:=eqDec_c zT (vT 0) (by decide) (by decide) (by decide+kernel)
 have l1:=eqLeft_c zT zT (reflP zT) (by decide) (by decide) (by decide)
 rw[eqA1] at l1
 have a1:=dabsurd_c (hypP 0)
 have l2:=eqRight_c zT (sT (vT 0)) (absurdP (hypP 0)) (by decide) (by decide) (by decide)
 rw[eqA2] at l2
 have i1:=allI_c natT (erP zT (sT (vT 0)) (absurdP (hypP 0)))
 have n1:=dNumbersW_c (decF zT (vT 0)) (elP zT zT (reflP zT)) (allIP natT (erP zT (sT (vT 0)) (absurdP (hypP 0)))) (by decide+kernel) (by decide+kernel) (by decide+kernel)
 rw[eqA3] at n1
 have u1:=sure_c eq1P 0
 have m1:=eqSame_c (vT 1) (vT 0)
 have t1:=tlam_c (sT (vT 0)) [natT] (by simp)
 have c1:=congW_c sucT (vT 1) (hypP 0) (by decide) (by decide)
 have l3:=eqLeft_c (sT (vT 1)) (sT (vT 0)) (congW sucT (vT 1) (hypP 0)) (by decide) (by decide) (by decide)
 rw[eqA4] at l3
 have p1:=dimpI_c (sameF (vT 1) (vT 0)) (elP (sT (vT 1)) (sT (vT 0)) (congW sucT (vT 1) (hypP 0)))
 have o1:=dnot_c (sameF (vT 1) (vT 0))
 have j1:=injW_c (vT 1) (hypP 0) (by decide)
 have e1:=dimpE_c (hypP 1) (injW (vT 1) (hypP 0))
 have l4:=eqRight_c (sT (vT 1)) (sT (vT 0)) (impEP (hypP 1) (injW (vT 1) (hypP 0))) (by decide) (by decide) (by decide)
 rw[eqA5] at l4
 have p2:=dimpI_c (notF (sameF (vT 1) (vT 0))) (erP (sT (vT 1)) (sT (vT 0)) (impEP (hypP 1) (injW (vT 1) (hypP 0))))
 have d2:=eqDec_c (sT (vT 1)) (sT (vT 0)) (by decide) (by decide) (by decide+kernel)
 have q1:=allE_c [vT 0] (hypP 0) (by simp)
 simp only[List.foldl_cons,List.foldl_nil] at q1
 have k1:=dCasesW_c (sameF (vT 1) (vT 0)) (notF (sameF (vT 1) (vT 0))) (decF (sT (vT 1)) (sT (vT 0))) (allEP (vT 0) (hypP 0)) eqEP eqDP (by decide+kernel) (by decide+kernel) (by decide+kernel) (by decide+kernel) (by decide+kernel) (by decide+kernel)
 rw[eqA6] at k1
 have u2:=sure_c eqBP 0
 have d3:=eqDec_c (sT (vT 1)) (vT 0) (by decide) (by decide) (by decide+kernel)
 have sy:=symW_c (sT (vT 0)) (hypP 0) (by decide)
 have a2:=dabsurd_c (symW (sT (vT 0)) (hypP 0))
 have l5:=eqRight_c (sT (vT 0)) zT (absurdP (symW (sT (vT 0)) (hypP 0))) (by decide) (by decide) (by decide)
 rw[eqA7] at l5
 have i2:=allI_c natT eqBP
 have n2:=dNumbersW_c (decF (sT (vT 1)) (vT 0)) (erP (sT (vT 0)) zT (absurdP (symW (sT (vT 0)) (hypP 0)))) (allIP natT eqBP) (by decide+kernel) (by decide+kernel) (by decide+kernel)
 rw[eqA8] at n2
 have u3:=sure_c eq2P 0
 have d4:=eqDec_c (vT 1) (vT 0) (by decide) (by decide) (by decide+kernel)
 have g1:=quantified_c 4 natT (decF (vT 1) (vT 0))
 have w1:=ind_c 16 (quF 4 natT (decF (vT 1) (vT 0))) (vT 0) eq1P eq2P
 have i3:=allI_c natT (.mk 16 0 (.mk 0 []) [vT 0] [quF 4 natT (decF (vT 1) (vT 0))] [eq1P,eq2P])
 unfold eqP eqS eqEP eqDP allEP allIP sucT at*
 generalize erP zT (sT (vT 0)) (absurdP (hypP 0))=E1 at*
 generalize elP zT zT (reflP zT)=E2 at*
 generalize elP (sT (vT 1)) (sT (vT 0)) (congW (lmT natT (sT (vT 0))) (vT 1) (hypP 0))=E3 at*
 generalize erP (sT (vT 1)) (sT (vT 0)) (impEP (hypP 1) (injW (vT 1) (hypP 0)))=E4 at*
 generalize erP (sT (vT 0)) zT (absurdP (symW (sT (vT 0)) (hypP 0)))=E5 at*
 generalize eq1P=E6 at*
 generalize eq2P=E7 at*
 generalize eqBP=E8 at*
 generalize absurdP (symW (sT (vT 0)) (hypP 0))=E9 at*
 generalize symW (sT (vT 0)) (hypP 0)=E10 at*
 generalize injW (vT 1) (hypP 0)=E11 at*
 generalize congW (lmT natT (sT (vT 0))) (vT 1) (hypP 0)=E12 at*
 generalize absurdP (hypP 0)=E13 at*
 generalize decF zT (vT 0)=F1 at*
 generalize decF (sT (vT 1)) (sT (vT 0))=F2 at*
 generalize decF (sT (vT 1)) (vT 0)=F3 at*
 generalize decF (vT 1) (vT 0)=F4 at*
 refine M.F Tryz.func12 ?_
 repeat'(first|refine M.go ?_|refine M.c2 (v1) ?_|refine M.c2 (v0) ?_|((with_reducible refine D.aw ?_);(fail_if_success with_reducible refine D.stopR (id:=6) ?_);(fail_if_success with_reducible refine D.stopS (id:=6) ?_);first|refine M.ga ?_)|refine M.gk ?_|fail)
 repeat'(first|refine M.go ?_|refine M.c2 (z0) ?_|(apply L.cvr (d1) [1] rfl;rfl;rfl;rfl;rfl;rfl;rfl;rfl;(focus((repeat'(first|exact trivial|refine And.intro ?_ ?_|refine⟨_,U,_,U,_,U,?_⟩|exact VLe.refl _));done));rfl;rfl;rfl;rfl;rfl)|refine M.c2 (r0) ?_|(apply L.cvr (l1) [1] rfl;rfl;rfl;rfl;rfl;rfl;rfl;rfl;(focus((repeat'(first|exact trivial|refine And.intro ?_ ?_|refine⟨_,U,_,U,_,U,?_⟩|exact VLe.refl _));done));rfl;rfl;rfl;rfl;rfl)|refine M.c2 (tn) ?_|refine M.c2 (s0) ?_|refine M.c2 (y0) ?_|refine M.c2 (a1) ?_|(apply L.cvr (l2) [1] rfl;rfl;rfl;rfl;rfl;rfl;rfl;rfl;(focus((repeat'(first|exact trivial|refine And.intro ?_ ?_|refine⟨_,U,_,U,_,U,?_⟩|exact VLe.refl _));done));rfl;rfl;rfl;rfl;rfl)|refine M.c2 (i1) ?_|refine M.c2 (n1) ?_|refine M.c2 (u1) ?_|((with_reducible refine D.aw ?_);(fail_if_success with_reducible refine D.stopR (id:=7) ?_);(fail_if_success with_reducible refine D.stopS (id:=7) ?_);first|refine M.ga ?_)|refine M.gk ?_|fail)
 repeat'(first|refine M.go ?_|refine M.cv (m1) [] 0 ?_|refine M.c2 (s1) ?_|refine M.c2 (s0) ?_|refine M.c2 (v0) ?_|refine M.c2 (tn) ?_|refine M.c2 (t1) ?_|refine M.c2 (y0) ?_|refine M.c2 (c1) ?_|(apply L.cvr (l3) [1] rfl;rfl;rfl;rfl;rfl;rfl;rfl;rfl;(focus((repeat'(first|exact trivial|refine And.intro ?_ ?_|refine⟨_,U,_,U,_,U,?_⟩|exact VLe.refl _));done));rfl;rfl;rfl;rfl;rfl)|refine M.c2 (p1) ?_|((with_reducible refine D.aw ?_);(fail_if_success with_reducible refine D.stopR (id:=8) ?_);(fail_if_success with_reducible refine D.stopS (id:=8) ?_);first|refine M.ga ?_)|refine M.gk ?_|fail)
 repeat'(first|refine M.go ?_|refine M.cv (m1) [] 0 ?_|refine M.c2 (o1) ?_|refine M.c2 (s1) ?_|refine M.c2 (s0) ?_|refine M.c2 (y1) ?_|refine M.c2 (y0) ?_|refine M.c2 (j1) ?_|refine M.c2 (e1) ?_|(apply L.cvr (l4) [1] rfl;rfl;rfl;rfl;rfl;rfl;rfl;rfl;(focus((repeat'(first|exact trivial|refine And.intro ?_ ?_|refine⟨_,U,_,U,_,U,?_⟩|exact VLe.refl _));done));rfl;rfl;rfl;rfl;rfl)|refine M.c2 (p2) ?_|((with_reducible refine D.aw ?_);(fail_if_success with_reducible refine D.stopR (id:=9) ?_);(fail_if_success with_reducible refine D.stopS (id:=9) ?_);first|refine M.ga ?_)|refine M.gk ?_|fail)
 repeat'(first|refine M.go ?_|refine M.cv (m1) [] 0 ?_|refine M.c2 (o1) ?_|refine M.c2 (s1) ?_|refine M.c2 (s0) ?_|(apply L.cvr (d2) [1] rfl;rfl;rfl;rfl;rfl;rfl;rfl;rfl;(focus((repeat'(first|exact trivial|refine And.intro ?_ ?_|refine⟨_,U,_,U,_,U,?_⟩|exact VLe.refl _));done));rfl;rfl;rfl;rfl;rfl)|refine M.c2 (y0) ?_|refine M.c2 (q1) ?_|refine M.c2 (k1) ?_|refine M.c2 (u2) ?_|((with_reducible refine D.aw ?_);(fail_if_success with_reducible refine D.stopR (id:=10) ?_);(fail_if_success with_reducible refine D.stopS (id:=10) ?_);first|refine M.ga ?_)|refine M.gk ?_|fail)
 repeat'(first|refine M.go ?_|refine M.c2 (s1) ?_|(apply L.cvr (d3) [1] rfl;rfl;rfl;rfl;rfl;rfl;rfl;rfl;(focus((repeat'(first|exact trivial|refine And.intro ?_ ?_|refine⟨_,U,_,U,_,U,?_⟩|exact VLe.refl _));done));rfl;rfl;rfl;rfl;rfl)|refine M.c2 (v0) ?_|refine M.c2 (s0) ?_|refine M.c2 (z0) ?_|refine M.c2 (y0) ?_|refine M.c2 (sy) ?_|refine M.c2 (a2) ?_|(apply L.cvr (l5) [1] rfl;rfl;rfl;rfl;rfl;rfl;rfl;rfl;(focus((repeat'(first|exact trivial|refine And.intro ?_ ?_|refine⟨_,U,_,U,_,U,?_⟩|exact VLe.refl _));done));rfl;rfl;rfl;rfl;rfl)|refine M.c2 (tn) ?_|refine M.c2 (i2) ?_|refine M.c2 (n2) ?_|refine M.c2 (u3) ?_|((with_reducible refine D.aw ?_);(fail_if_success with_reducible refine D.stopR (id:=11) ?_);(fail_if_success with_reducible refine D.stopS (id:=11) ?_);first|refine M.ga ?_)|refine M.gk ?_|fail)
 repeat'(first|refine M.gw ?_|refine M.c2 (tn) ?_|(apply L.cvr (d4) [1] rfl;rfl;rfl;rfl;rfl;rfl;rfl;rfl;(focus((repeat'(first|exact trivial|refine And.intro ?_ ?_|refine⟨_,U,_,U,_,U,?_⟩|exact VLe.refl _));done));rfl;rfl;rfl;rfl;rfl)|refine M.c2 (g1) ?_|refine M.c2 (v0) ?_|refine M.c2 (w1) ?_|refine M.c2 (i3) ?_|fail)
 all_goals first
  |rfl
  |trace_state
theorem copyPf_c:∀(b:Nat) (p:Pf),p.full≤b→b<549755813888→PC E 128 [.agg p.view] (.agg p.view):=by
 intro b
 induction b with
 |zero=>intro f h;have:=f.full_pos;omega
 |succ b ih=>
 intro p hsz hb
 have hsz':=p.full_eq
 have hlen:=lsum_len Pf.full Pf.full_pos p.args
 have hlen1:=lsum_len Fm.full Fm.full_pos p.forms
 have hlen2:=lsum_len Tm.full Tm.full_pos p.terms
 have hty:=copyTy_c _ p.ty (Nat.le_refl _) (by omega)
 refine M.F Tryz.func128 ?_
 repeat'(first|refine M.gw ?_|refine M.c2 (hty) ?_|refine L.lkb U U U U U U U U U U ?_|((fail_if_success refine AX.wt U ?_);refine AX.gs U U (fun _=>trivial) (fun h=> ?_) (fun h=> ?_))|((with_reducible refine D.sblk ?_);refine K.sq (AW.block ?_))|((with_reducible refine D.blk ?_);refine AW.block ?_)|refine K.sq (AW.condS U (fun h=> ?_) (fun h=> ?_))|refine AW.condS U (fun h=> ?_) (fun h=> ?_)|((with_reducible show @LE.le Nat _ _ _);omega)|((with_reducible show @LT.lt Nat _ _ _);omega)|fail)
 refine AW.range p.terms.length (fun m=>True)
  (fun m=>([(1,.ptr 0 0),(2,.ptr 1 0),(3,.ptr 2 0),(19,.s .tm p.terms),(20,.i p.terms.length),(21,.i m)],⟨4,[(0,.var p.view),(1,.var [.i 0,.i 0,.i 0,.slice .nil (.t .ty []),.slice .nil (.t .tm []),.slice .nil (.t .fm []),.slice .nil (.t .pf [])]),(2,.var [.i p.kind,.i p.index,.i p.ty.kind,.s .ty p.ty.args,.slice (.own 3) (.t .tm (p.terms.take m)),.slice .nil (.t .fm []),.slice .nil (.t .pf [])]),(3,.row)]⟩))
  (by omega) (fun m=>rfl) (fun m=>rfl) rfl trivial (M.W [some 0,some 1,some 2,none]) ?_ ?_
 ·intro m hm _
  have hs2:=lsum_mem Tm.full (List.getElem_mem hm)
  repeat'(first|refine M.gw ?_|refine M.c2 (copyTm_c _ _ (Nat.le_refl _) ?_) ?_|refine L.lkb U U U U U U U U U U ?_|((fail_if_success refine AX.wt U ?_);refine AX.gs U U (fun _=>trivial) (fun h=> ?_) (fun h=> ?_))|((with_reducible refine D.sblk ?_);refine K.sq (AW.block ?_))|((with_reducible refine D.blk ?_);refine AW.block ?_)|refine K.sq (AW.condS U (fun h=> ?_) (fun h=> ?_))|refine AW.condS U (fun h=> ?_) (fun h=> ?_)|((with_reducible show @LE.le Nat _ _ _);omega)|((with_reducible show @LT.lt Nat _ _ _);omega)|fail)
  exact⟨rfl,trivial,(M.W [some 0,some 1,some 2,some 5] (hf:=(by(repeat'(first|exact trivial|exact Or.inl U|exact Or.inr ⟨_,U,rfl⟩|refine And.intro ?_ ?_|refine⟨_,U,_,U,_,U,?_⟩|refine⟨_,U,_,U,?_⟩|exact VLe.refl _|exact VLe.any _ _|exact VsLe.refl _|refine VLe.agg ?_|exact VLe.of_eq (by simp[Sto.upd,List.take_append_getElem])|refine⟨_,U,_,_,U,?_,?_⟩|with_reducible exact rfl|(simp[Sto.upd,List.take_append_getElem];done)|exact Eq.refl true|refine⟨_,U,_,renVs_flat _ _ _,_,U,?_⟩));done)) (he:=(by(repeat'(first|exact trivial|exact Or.inl U|exact Or.inr ⟨_,U,rfl⟩|refine And.intro ?_ ?_|refine⟨_,U,_,U,_,U,?_⟩|refine⟨_,U,_,U,?_⟩|exact VLe.refl _|exact VLe.any _ _|exact VsLe.refl _|refine VLe.agg ?_|exact VLe.of_eq (by simp[Sto.upd,List.take_append_getElem])|refine⟨_,U,_,_,U,?_,?_⟩|with_reducible exact rfl|(simp[Sto.upd,List.take_append_getElem];done)|exact Eq.refl true|refine⟨_,U,_,renVs_flat _ _ _,_,U,?_⟩));done)))⟩
 ·intro _
  simp only[List.take_length]
  repeat'(first|refine M.gw ?_|refine L.lkb U U U U U U U U U U ?_|((fail_if_success refine AX.wt U ?_);refine AX.gs U U (fun _=>trivial) (fun h=> ?_) (fun h=> ?_))|((with_reducible refine D.sblk ?_);refine K.sq (AW.block ?_))|((with_reducible refine D.blk ?_);refine AW.block ?_)|refine K.sq (AW.condS U (fun h=> ?_) (fun h=> ?_))|refine AW.condS U (fun h=> ?_) (fun h=> ?_)|((with_reducible show @LE.le Nat _ _ _);omega)|((with_reducible show @LT.lt Nat _ _ _);omega)|fail)
  refine AW.range p.forms.length (fun m=>True)
   (fun m=>([(1,.ptr 0 0),(2,.ptr 1 0),(3,.ptr 2 0),(34,.s .fm p.forms),(35,.i p.forms.length),(36,.i m)],⟨5,[(0,.var p.view),(1,.var [.i 0,.i 0,.i 0,.slice .nil (.t .ty []),.slice .nil (.t .tm []),.slice .nil (.t .fm []),.slice .nil (.t .pf [])]),(2,.var [.i p.kind,.i p.index,.i p.ty.kind,.s .ty p.ty.args,.slice (.own 3) (.t .tm p.terms),.slice (.own 4) (.t .fm (p.forms.take m)),.slice .nil (.t .pf [])]),(3,.row),(4,.row)]⟩))
   (by omega) (fun m=>rfl) (fun m=>rfl) rfl trivial (M.W [some 0,some 1,some 2,some 3,none]) ?_ ?_
  ·intro m hm _
   have hs2:=lsum_mem Fm.full (List.getElem_mem hm)
   repeat'(first|refine M.gw ?_|refine M.c2 (copyFm_c _ _ (Nat.le_refl _) ?_) ?_|refine L.lkb U U U U U U U U U U ?_|((fail_if_success refine AX.wt U ?_);refine AX.gs U U (fun _=>trivial) (fun h=> ?_) (fun h=> ?_))|((with_reducible refine D.sblk ?_);refine K.sq (AW.block ?_))|((with_reducible refine D.blk ?_);refine AW.block ?_)|refine K.sq (AW.condS U (fun h=> ?_) (fun h=> ?_))|refine AW.condS U (fun h=> ?_) (fun h=> ?_)|((with_reducible show @LE.le Nat _ _ _);omega)|((with_reducible show @LT.lt Nat _ _ _);omega)|fail)
   exact⟨rfl,trivial,(M.W [some 0,some 1,some 2,some 3,some 6] (hf:=(by(repeat'(first|exact trivial|exact Or.inl U|exact Or.inr ⟨_,U,rfl⟩|refine And.intro ?_ ?_|refine⟨_,U,_,U,_,U,?_⟩|refine⟨_,U,_,U,?_⟩|exact VLe.refl _|exact VLe.any _ _|exact VsLe.refl _|refine VLe.agg ?_|exact VLe.of_eq (by simp[Sto.upd,List.take_append_getElem])|refine⟨_,U,_,_,U,?_,?_⟩|with_reducible exact rfl|(simp[Sto.upd,List.take_append_getElem];done)|exact Eq.refl true|refine⟨_,U,_,renVs_flat _ _ _,_,U,?_⟩));done)) (he:=(by(repeat'(first|exact trivial|exact Or.inl U|exact Or.inr ⟨_,U,rfl⟩|refine And.intro ?_ ?_|refine⟨_,U,_,U,_,U,?_⟩|refine⟨_,U,_,U,?_⟩|exact VLe.refl _|exact VLe.any _ _|exact VsLe.refl _|refine VLe.agg ?_|exact VLe.of_eq (by simp[Sto.upd,List.take_append_getElem])|refine⟨_,U,_,_,U,?_,?_⟩|with_reducible exact rfl|(simp[Sto.upd,List.take_append_getElem];done)|exact Eq.refl true|refine⟨_,U,_,renVs_flat _ _ _,_,U,?_⟩));done)))⟩
  ·intro _
   simp only[List.take_length]
   repeat'(first|refine M.gw ?_|refine L.lkb U U U U U U U U U U ?_|((fail_if_success refine AX.wt U ?_);refine AX.gs U U (fun _=>trivial) (fun h=> ?_) (fun h=> ?_))|((with_reducible refine D.sblk ?_);refine K.sq (AW.block ?_))|((with_reducible refine D.blk ?_);refine AW.block ?_)|refine K.sq (AW.condS U (fun h=> ?_) (fun h=> ?_))|refine AW.condS U (fun h=> ?_) (fun h=> ?_)|((with_reducible show @LE.le Nat _ _ _);omega)|((with_reducible show @LT.lt Nat _ _ _);omega)|fail)
   refine AW.range p.args.length (fun m=>True)
    (fun m=>([(1,.ptr 0 0),(2,.ptr 1 0),(3,.ptr 2 0),(49,.s .pf p.args),(50,.i p.args.length),(51,.i m)],⟨6,[(0,.var p.view),(1,.var [.i 0,.i 0,.i 0,.slice .nil (.t .ty []),.slice .nil (.t .tm []),.slice .nil (.t .fm []),.slice .nil (.t .pf [])]),(2,.var [.i p.kind,.i p.index,.i p.ty.kind,.s .ty p.ty.args,.slice (.own 3) (.t .tm p.terms),.slice (.own 4) (.t .fm p.forms),.slice (.own 5) (.t .pf (p.args.take m))]),(3,.row),(4,.row),(5,.row)]⟩))
    (by omega) (fun m=>rfl) (fun m=>rfl) rfl trivial (M.W [some 0,some 1,some 2,some 3,some 4,none]) ?_ ?_
   ·intro m hm _
    have hs2:=lsum_mem Pf.full (List.getElem_mem hm)
    repeat'(first|refine M.gw ?_|refine M.c2 (ih _ ?_ ?_) ?_|refine L.lkb U U U U U U U U U U ?_|((fail_if_success refine AX.wt U ?_);refine AX.gs U U (fun _=>trivial) (fun h=> ?_) (fun h=> ?_))|((with_reducible refine D.sblk ?_);refine K.sq (AW.block ?_))|((with_reducible refine D.blk ?_);refine AW.block ?_)|refine K.sq (AW.condS U (fun h=> ?_) (fun h=> ?_))|refine AW.condS U (fun h=> ?_) (fun h=> ?_)|((with_reducible show @LE.le Nat _ _ _);omega)|((with_reducible show @LT.lt Nat _ _ _);omega)|fail)
    exact⟨rfl,trivial,(M.W [some 0,some 1,some 2,some 3,some 4,some 7] (hf:=(by(repeat'(first|exact trivial|exact Or.inl U|exact Or.inr ⟨_,U,rfl⟩|refine And.intro ?_ ?_|refine⟨_,U,_,U,_,U,?_⟩|refine⟨_,U,_,U,?_⟩|exact VLe.refl _|exact VLe.any _ _|exact VsLe.refl _|refine VLe.agg ?_|exact VLe.of_eq (by simp[Sto.upd,List.take_append_getElem])|refine⟨_,U,_,_,U,?_,?_⟩|with_reducible exact rfl|(simp[Sto.upd,List.take_append_getElem];done)|exact Eq.refl true|refine⟨_,U,_,renVs_flat _ _ _,_,U,?_⟩));done)) (he:=(by(repeat'(first|exact trivial|exact Or.inl U|exact Or.inr ⟨_,U,rfl⟩|refine And.intro ?_ ?_|refine⟨_,U,_,U,_,U,?_⟩|refine⟨_,U,_,U,?_⟩|exact VLe.refl _|exact VLe.any _ _|exact VsLe.refl _|refine VLe.agg ?_|exact VLe.of_eq (by simp[Sto.upd,List.take_append_getElem])|refine⟨_,U,_,_,U,?_,?_⟩|with_reducible exact rfl|(simp[Sto.upd,List.take_append_getElem];done)|exact Eq.refl true|refine⟨_,U,_,renVs_flat _ _ _,_,U,?_⟩));done)))⟩
   ·intro _
    simp only[List.take_length]
    repeat'(first|refine M.gw ?_|refine L.lkb U U U U U U U U U U ?_|((fail_if_success refine AX.wt U ?_);refine AX.gs U U (fun _=>trivial) (fun h=> ?_) (fun h=> ?_))|((with_reducible refine D.sblk ?_);refine K.sq (AW.block ?_))|((with_reducible refine D.blk ?_);refine AW.block ?_)|refine K.sq (AW.condS U (fun h=> ?_) (fun h=> ?_))|refine AW.condS U (fun h=> ?_) (fun h=> ?_)|((with_reducible show @LE.le Nat _ _ _);omega)|((with_reducible show @LT.lt Nat _ _ _);omega)|fail)
    rfl
theorem refP_c(k:Int)(l:List Pf)(hl:l.length<1000000)(h:∀p∈l,p.full<500000000000):PC E 78 [.i k,.s .pf l] (.agg (Pf.mk k 0 (.mk 0 []) [] [] l).view):=by
 refine M.F Tryz.func78 ?_
 repeat'(first|refine M.gw ?_|refine L.lkb U U U U U U U U U U ?_|((fail_if_success refine AX.wt U ?_);refine AX.gs U U (fun _=>trivial) (fun h=> ?_) (fun h=> ?_))|((with_reducible refine D.sblk ?_);refine K.sq (AW.block ?_))|((with_reducible refine D.blk ?_);refine AW.block ?_)|refine K.sq (AW.condS U (fun h=> ?_) (fun h=> ?_))|refine AW.condS U (fun h=> ?_) (fun h=> ?_)|((with_reducible show @LE.le Nat _ _ _);omega)|((with_reducible show @LT.lt Nat _ _ _);omega)|fail)
 refine AW.range l.length (fun m=>True)
  (fun m=>([(4,.ptr 0 0),(5,.ptr 1 0),(10,.s .pf l),(11,.i l.length),(12,.i m)],⟨3,[(0,.var [.i 0,.i 0,.i 0,.slice .nil (.t .ty []),.slice .nil (.t .tm []),.slice .nil (.t .fm []),.slice .nil (.t .pf [])]),(1,.var [.i k,.i 0,.i 0,.slice .nil (.t .ty []),.slice .nil (.t .tm []),.slice .nil (.t .fm []),.slice (.own 2) (.t .pf (l.take m))]),(2,.row)]⟩))
  (by omega) (fun m=>rfl) (fun m=>rfl) rfl trivial (M.W [some 0,some 1,none]) ?_ ?_
 ·intro m hm _
  have hc:=copyPf_c _ l[m] (Nat.le_refl _) (by have:=h _ (List.getElem_mem hm);omega)
  repeat'(first|refine M.gw ?_|refine M.c2 (hc) ?_|refine L.lkb U U U U U U U U U U ?_|((fail_if_success refine AX.wt U ?_);refine AX.gs U U (fun _=>trivial) (fun h=> ?_) (fun h=> ?_))|((with_reducible refine D.sblk ?_);refine K.sq (AW.block ?_))|((with_reducible refine D.blk ?_);refine AW.block ?_)|refine K.sq (AW.condS U (fun h=> ?_) (fun h=> ?_))|refine AW.condS U (fun h=> ?_) (fun h=> ?_)|((with_reducible show @LE.le Nat _ _ _);omega)|((with_reducible show @LT.lt Nat _ _ _);omega)|fail)
  exact⟨rfl,trivial,(M.W [some 0,some 1,some 4] (hf:=(by(repeat'(first|exact trivial|exact Or.inl U|exact Or.inr ⟨_,U,rfl⟩|refine And.intro ?_ ?_|refine⟨_,U,_,U,_,U,?_⟩|refine⟨_,U,_,U,?_⟩|exact VLe.refl _|exact VLe.any _ _|exact VsLe.refl _|refine VLe.agg ?_|exact VLe.of_eq (by simp[Sto.upd,List.take_append_getElem])|refine⟨_,U,_,_,U,?_,?_⟩|with_reducible exact rfl|(simp[Sto.upd,List.take_append_getElem];done)|exact Eq.refl true|refine⟨_,U,_,renVs_flat _ _ _,_,U,?_⟩));done)) (he:=(by(repeat'(first|exact trivial|exact Or.inl U|exact Or.inr ⟨_,U,rfl⟩|refine And.intro ?_ ?_|refine⟨_,U,_,U,_,U,?_⟩|refine⟨_,U,_,U,?_⟩|exact VLe.refl _|exact VLe.any _ _|exact VsLe.refl _|refine VLe.agg ?_|exact VLe.of_eq (by simp[Sto.upd,List.take_append_getElem])|refine⟨_,U,_,_,U,?_,?_⟩|with_reducible exact rfl|(simp[Sto.upd,List.take_append_getElem];done)|exact Eq.refl true|refine⟨_,U,_,renVs_flat _ _ _,_,U,?_⟩));done)))⟩
 ·intro _
  simp only[List.take_length]
  repeat'(first|refine M.gw ?_|refine L.lkb U U U U U U U U U U ?_|((fail_if_success refine AX.wt U ?_);refine AX.gs U U (fun _=>trivial) (fun h=> ?_) (fun h=> ?_))|((with_reducible refine D.sblk ?_);refine K.sq (AW.block ?_))|((with_reducible refine D.blk ?_);refine AW.block ?_)|refine K.sq (AW.condS U (fun h=> ?_) (fun h=> ?_))|refine AW.condS U (fun h=> ?_) (fun h=> ?_)|((with_reducible show @LE.le Nat _ _ _);omega)|((with_reducible show @LT.lt Nat _ _ _);omega)|fail)
  rfl
theorem refAt_c(k:Int)(t:Tm)(p:Pf)(ht:t.full<500000000000)(hp:p.full<500000000000):PC E 17 [.i k,.agg t.view,.agg p.view] (.agg (Pf.mk k 0 (.mk 0 []) [t] [] [p]).view):=by
 have h1:=refP_c k [p] (by simp) (by simp;omega)
 have h2:=copyTm_c _ t (Nat.le_refl _) (by omega)
 refine M.F Tryz.func17 ?_
 repeat'(first|refine M.gw ?_|refine M.c2 (h1) ?_|refine M.c2 (h2) ?_|refine L.lkb U U U U U U U U U U ?_|((fail_if_success refine AX.wt U ?_);refine AX.gs U U (fun _=>trivial) (fun h=> ?_) (fun h=> ?_))|((with_reducible refine D.sblk ?_);refine K.sq (AW.block ?_))|((with_reducible refine D.blk ?_);refine AW.block ?_)|refine K.sq (AW.condS U (fun h=> ?_) (fun h=> ?_))|refine AW.condS U (fun h=> ?_) (fun h=> ?_)|((with_reducible show @LE.le Nat _ _ _);omega)|((with_reducible show @LT.lt Nat _ _ _);omega)|fail)
 rfl
theorem eqP_err:eqP.err=0:=by decide+kernel
theorem eqP_full:eqP.full<100000:=by decide+kernel
theorem eqAll_full:eqAll.full<100000:=by decide+kernel
theorem eqP_acc:AcceptsR [] [] [] eqP eqAll=0:=by decide+kernel
mutual
def Tm.sml:Tm→Bool
 | .mk _ i _ xs=>decide (0≤i)&&decide (i<1000)&&Tm.smls xs
def Tm.smls:List Tm→Bool
 |[]=>true
 |t::l=>t.sml&&Tm.smls l
end
theorem smls_eq:∀l:List Tm,Tm.smls l=l.all Tm.sml
 |[]=>rfl
 |t::l=>by rw[Tm.smls,smls_eq l];rfl
theorem sml_vars(t:Tm):t.sml=true→∀b,∀p∈t.vars b,0≤p.1∧p.1<9223372036854775808:=by
 induction t using Tm.ind with
 |h t ih=>
  intro h b p hp
  obtain⟨k,i,s,xs⟩:=t
  simp only[Tm.sml,smls_eq,Bool.and_eq_true,decide_eq_true_eq,List.all_eq_true] at h
  rw[Tm.vars_eq] at hp
  rcases List.mem_append.1 hp with hp|hp
  ·split at hp
   ·simp only[List.mem_singleton] at hp
    subst hp
    simp only[Tm.index_mk];omega
   ·cases hp
  ·obtain ⟨x,hx,hp⟩:=List.mem_flatMap.1 hp
   exact ih x hx (h.2 x hx) _ p hp
mutual
def Fm.sml:Fm→Bool
 | .mk _ _ ts zs=>ts.all Tm.sml&&Fm.smls zs
def Fm.smls:List Fm→Bool
 |[]=>true
 |t::l=>t.sml&&Fm.smls l
end
theorem fsmls_eq:∀l:List Fm,Fm.smls l=l.all Fm.sml
 |[]=>rfl
 |t::l=>by rw[Fm.smls,fsmls_eq l];rfl
theorem fsml_ixr(f:Fm):f.sml=true→f.ixr:=by
 induction f using Fm.ind with
 |h f ih=>
  intro h b p hp
  obtain⟨k,s,ts,zs⟩:=f
  simp only[Fm.sml,fsmls_eq,Bool.and_eq_true,List.all_eq_true] at h
  rw[Fm.tms_eq] at hp
  rcases List.mem_append.1 hp with hp|hp
  ·obtain ⟨t,ht,rfl⟩:=List.mem_map.1 hp
   exact sml_vars t (h.1 t ht)
  ·obtain ⟨x,hx,hp⟩:=List.mem_flatMap.1 hp
   exact ih x hx (h.2 x hx) _ p hp
mutual
def Pf.sml:Pf→Bool
 | .mk _ i _ ts fs zs=>decide (0≤i)&&decide (i<1000)&&ts.all Tm.sml&&fs.all Fm.sml&&Pf.smls zs
def Pf.smls:List Pf→Bool
 |[]=>true
 |t::l=>t.sml&&Pf.smls l
end
theorem psmls_eq:∀l:List Pf,Pf.smls l=l.all Pf.sml
 |[]=>rfl
 |t::l=>by rw[Pf.smls,psmls_eq l];rfl
theorem psml_ixr(p:Pf):p.sml=true→p.ixr:=by
 induction p using Pf.ind with
 |h p ih=>
  intro h
  obtain⟨k,i,s,ts,fs,zs⟩:=p
  simp only[Pf.sml,psmls_eq,Bool.and_eq_true,decide_eq_true_eq,List.all_eq_true] at h
  refine(Pf.ixr_iff _).2 ⟨?_,fun t ht=> ?_,fun f hf=> ?_,fun x hx=>ih x hx (h.2 x hx)⟩
  ·simp only[Pf.index];omega
  ·exact sml_vars t (h.1.1.2 t ht)
  ·exact fsml_ixr f (h.1.2 f hf)
theorem eqP_ixr:eqP.ixr:=psml_ixr _ (by decide+kernel)
theorem eqP_hyps:hypsI eqP=[]:=by decide+kernel
theorem eqP_lems:lemsI eqP=[]:=by decide+kernel
theorem eqP_uses:usesP eqP=[]:=by decide+kernel
def atP(i j:Int):Pf:=allEP (numOf i) (allEP (numOf j) eqP)
def oneF(i j:Int):Fm:=sameF (numOf j) (numOf i)
theorem nine{P:Int→Int→Prop}(h:P 0 0∧P 0 1∧P 0 2∧P 1 0∧P 1 1∧P 1 2∧P 2 0∧P 2 1∧P 2 2){i j:Int}(hi:0≤i∧i<3)(hj:0≤j∧j<3):P i j:=by
 have h1:i=0∨i=1∨i=2:=by omega
 have h2:j=0∨j=1∨j=2:=by omega
 obtain⟨a,b,c,d,e,f,g,k,l⟩:=h
 rcases h1 with rfl|rfl|rfl<;>rcases h2 with rfl|rfl|rfl<;>assumption
theorem atP_acc{i j:Int}(hi:0≤i∧i<3)(hj:0≤j∧j<3):AcceptsR [] [] [] (atP i j) (decF (numOf j) (numOf i))=0:=
 nine (P:=fun i j=>AcceptsR [] [] [] (atP i j) (decF (numOf j) (numOf i))=0) ⟨by decide+kernel,by decide+kernel,by decide+kernel,by decide+kernel,by decide+kernel,by decide+kernel,by decide+kernel,by decide+kernel,by decide+kernel⟩ hi hj
theorem num3_full{i:Int}(hi:0≤i∧i<3):(numOf i).full<100:=by
 have h1:i=0∨i=1∨i=2:=by omega
 rcases h1 with rfl|rfl|rfl<;>decide+kernel
theorem one_gf{i j:Int}(hi:0≤i∧i<3)(hj:0≤j∧j<3):Gf [] (oneF i j) 400:=
 nine (P:=fun i j=>Gf [] (oneF i j) 400) ⟨⟨by decide+kernel,by decide+kernel,eq_okT.2 (by decide+kernel)⟩,⟨by decide+kernel,by decide+kernel,eq_okT.2 (by decide+kernel)⟩,⟨by decide+kernel,by decide+kernel,eq_okT.2 (by decide+kernel)⟩,⟨by decide+kernel,by decide+kernel,eq_okT.2 (by decide+kernel)⟩,⟨by decide+kernel,by decide+kernel,eq_okT.2 (by decide+kernel)⟩,⟨by decide+kernel,by decide+kernel,eq_okT.2 (by decide+kernel)⟩,⟨by decide+kernel,by decide+kernel,eq_okT.2 (by decide+kernel)⟩,⟨by decide+kernel,by decide+kernel,eq_okT.2 (by decide+kernel)⟩,⟨by decide+kernel,by decide+kernel,eq_okT.2 (by decide+kernel)⟩⟩ hi hj
theorem Gf.up{g:List Ty}{f:Fm}{n m:Nat}(h:Gf g f n)(hm:n≤m):Gf g f m:=⟨h.sh,Nat.le_trans h.sz hm,h.ok⟩
theorem deriveEquality_c(k:Int)(hk:0≤k∧k<256):PC E 3 [.int .u8 k] (.bool true):=by
 have hsane:=sane12_c
 have hn:=nat_c
 have v1:=var_c 1
 have v0:=var_c 0
 have q1:=eqFm_c (vT 1) (vT 0) (by decide) (by decide)
 have fn:=falseN_c
 have t1:=twoFm_c 3 (eqF (vT 1) (vT 0)) falseF (by decide) (by decide)
 have g1:Gf [natT,natT] (eqF (vT 1) (vT 0)) 400:=⟨by decide+kernel,by decide+kernel,eq_okT.2 (by decide+kernel)⟩
 have o1:=rorA_c (eqF (vT 1) (vT 0)) (notF (eqF (vT 1) (vT 0))) [natT,natT] (g1.up (by omega)) ((not_gf g1).up (by omega)) (by decide)
 have ep:=equality_c
 have h1:=rHyps_c eqP (by have:=eqP_full;omega) (fun _=>eqP_ixr)
 have h2:=rLemmas_c eqP (by have:=eqP_full;omega)
 have h3:=rUses_c eqP (by have:=eqP_full;omega) (fun _=>eqP_ixr)
 rw[if_pos eqP_err,eqP_err,eqP_hyps] at h1
 rw[if_pos eqP_err,eqP_err,eqP_lems] at h2
 rw[if_pos eqP_err,eqP_err,eqP_uses] at h3
 have hi:0≤k.tmod 3∧k.tmod 3<3:=⟨Int.tmod_nonneg 3 hk.1,Int.tmod_lt_of_pos k (by omega)⟩
 have hd:0≤k.tdiv 3:=Int.tdiv_nonneg hk.1 (by omega)
 have hj:0≤(k.tdiv 3).tmod 3∧(k.tdiv 3).tmod 3<3:=⟨Int.tmod_nonneg 3 hd,Int.tmod_lt_of_pos _ (by omega)⟩
 have ni:=num_c (k.tmod 3)
 have nj:=num_c ((k.tdiv 3).tmod 3)
 have fi:=num3_full hi
 have fj:=num3_full hj
 have gj:=one_gf hi hj
 have acc1:=eqP_acc
 have acc2:=atP_acc hi hj
 have fe:=eqP_full
 unfold oneF at gj
 unfold atP allEP at acc2
 have q2:=eqFm_c (numOf ((k.tdiv 3).tmod 3)) (numOf (k.tmod 3)) (by omega) (by omega)
 generalize hNi:numOf (k.tmod 3)=Ni at*
 generalize hNj:numOf ((k.tdiv 3).tmod 3)=Nj at*
 have g2:=not_gf gj
 have sz:=sameF_full Nj Ni
 have t2:=twoFm_c 3 (eqF Nj Ni) falseF (by rw[eqf_fl];omega) (by decide)
 have a1:=refAt_c 9 Nj eqP (by omega) (by omega)
 have a2:=refAt_c 9 Ni (.mk 9 0 (.mk 0 []) [Nj] [] [eqP]) (by omega) (by simp only[pf_full1,no_size,List.map_cons,List.map_nil,List.sum_cons,List.sum_nil];omega)
 have z1:(Pf.mk 9 0 (.mk 0 []) [Ni] [] [.mk 9 0 (.mk 0 []) [Nj] [] [eqP]]).full<200000:=by simp only[pf_full1,no_size,List.map_cons,List.map_nil,List.sum_cons,List.sum_nil];omega
 have o2:=rorA_c (eqF Nj Ni) (notF (eqF Nj Ni)) [] (gj.up (by omega)) (g2.up (by omega)) (by decide)
 have fo:=orA_full (eqF Nj Ni) (notF (eqF Nj Ni))
 have fo2:=notF_full (eqF Nj Ni)
 rw[eqf_fl] at fo fo2
 have k1:=kAccepts_c [] [] [] eqP eqAll (fun f h=>by cases h) (fun f h=>by cases h) (by decide) (by decide) (by decide) (by omega) (by have:=eqAll_full;omega)
 have k2:=kAccepts_c [] [] [] (Pf.mk 9 0 (.mk 0 []) [Ni] [] [.mk 9 0 (.mk 0 []) [Nj] [] [eqP]]) (decF Nj Ni) (fun f h=>by cases h) (fun f h=>by cases h) (by decide) (by decide) (by decide) (by omega) (by unfold decF sameF;omega)
 rw[acc1] at k1
 rw[acc2] at k2
 have fo3:(orA (eqF (vT 1) (vT 0)) (notF (eqF (vT 1) (vT 0)))).full<100000:=by decide+kernel
 have c1:=qFm_c 4 natT (decF (vT 1) (vT 0)) (by decide) (by unfold decF sameF;omega)
 have c2:=qFm_c 4 natT (quF 4 natT (decF (vT 1) (vT 0))) (by decide) (by have:=eqAll_full;have e:eqAll=Fm.mk 4 natT [] [quF 4 natT (decF (vT 1) (vT 0))]:=rfl;rw[e] at this;simp only[Fm.full,Fm.fulls] at this;omega)
 unfold eqAll at k1
 unfold decF sameF at*
 generalize eqP=P at*
 clear acc1 acc2 gj g2 g1 sz z1 fo fo2 fo3 fe fi fj hNi hNj
 generalize orA (eqF Nj Ni) (notF (eqF Nj Ni))=o2' at*
 generalize orA (eqF (vT 1) (vT 0)) (notF (eqF (vT 1) (vT 0)))=o1' at*
 obtain⟨a1',a2',a3',a4'⟩:=o1'
 refine AC.mk Tryz.func3 rfl rfl rfl rfl rfl (Nat.le_of_ble_eq_true rfl) ?_
 repeat'(first|((with_reducible refine D.nil ?_);refine AX.nilL ?_)|((with_reducible refine D.assign ?_);refine L.asg U U U ?_)|((with_reducible refine D.call ?_);refine L.c2 (hsane) U U U U ?_)|((with_reducible refine D.not ?_);refine L.nt U U U ?_)|((with_reducible refine D.aw ?_);(fail_if_success with_reducible refine D.stopR (id:=3) ?_);(fail_if_success with_reducible refine D.stopS (id:=3) ?_);first|refine K.sq (AW.regL ?_)|refine K.sq (K.sq ?_)|refine AW.regL ?_|refine AW.condF U ?_|refine AW.skip ?_)|with_reducible refine K.tN ?_)
 repeat'(first|((with_reducible refine D.nil ?_);refine AX.nilL ?_)|((with_reducible refine D.call ?_);first|refine L.c2 (hn) U U U U ?_|refine L.c2 (v1) U U U U ?_|refine L.c2 (v0) U U U U ?_|refine L.c2 (q1) U U U U ?_)|((with_reducible refine D.alloc ?_);refine L.al U U U ?_)|((with_reducible refine D.store ?_);refine L.st U U U U U U U U U ?_)|((with_reducible refine D.aw ?_);(fail_if_success with_reducible refine D.stopR (id:=5) ?_);(fail_if_success with_reducible refine D.stopS (id:=5) ?_);refine K.sq (AW.regL ?_))|with_reducible refine K.tN ?_)
 repeat'(first|((with_reducible refine D.nil ?_);refine AX.nilD (by kernel_rfl) ?_)|((with_reducible refine D.load ?_);refine L.ldb U U U U U U ?_)|((with_reducible refine D.move ?_);refine L.mv U U U ?_)|((with_reducible refine D.assign ?_);refine L.asg U U U ?_)|((with_reducible refine D.call ?_);first|refine L.c2 (fn) U U U U ?_|refine L.c2 (t1) U U U U ?_|refine L.c2 (o1) U U U U ?_)|((with_reducible refine D.extract ?_);refine L.ex U U U U ?_)|((with_reducible refine D.alloc ?_);refine L.al U U U ?_)|((with_reducible refine D.store ?_);refine L.st U U U U U U U U U ?_)|((with_reducible refine D.aw ?_);(fail_if_success with_reducible refine D.stopR (id:=6) ?_);(fail_if_success with_reducible refine D.stopS (id:=6) ?_);refine K.sq (AW.regD mixed (by kernel_rfl) ?_))|with_reducible refine K.tN ?_)
 repeat'(first|((with_reducible refine D.nil ?_);refine AX.nilL ?_)|((with_reducible refine D.load ?_);refine L.ldb U U U U U U ?_)|((with_reducible refine D.move ?_);refine L.mv U U U ?_)|((with_reducible refine D.assign ?_);refine L.asg U U U ?_)|((with_reducible refine D.bin ?_);refine L.bn U U U U U ?_)|((with_reducible refine D.call ?_);first|refine L.lnt U U U U ?_|refine L.c2 (ep) U U U U ?_|refine L.c2 (h1) U U U U ?_|refine L.c2 (h2) U U U U ?_|refine L.c2 (h3) U U U U ?_)|((with_reducible refine D.extract ?_);refine L.ex U U U U ?_)|((with_reducible refine D.alloc ?_);refine L.al U U U ?_)|((with_reducible refine D.store ?_);refine L.st U U U U U U U U U ?_)|((with_reducible refine D.pick ?_);refine L.pk U U U U ?_)|((with_reducible refine D.aw ?_);(fail_if_success with_reducible refine D.stopR (id:=12) ?_);(fail_if_success with_reducible refine D.stopS (id:=12) ?_);first|refine K.sq (AW.regL ?_)|refine K.sq (K.sq ?_)|refine AW.regL ?_|refine AW.condF U ?_|refine AW.skip ?_)|with_reducible refine K.tN ?_)
 repeat'(first|((with_reducible refine D.nil ?_);refine AX.nilD (by kernel_rfl) ?_)|((with_reducible refine D.load ?_);refine L.ldb U U U U U U ?_)|((with_reducible refine D.call ?_);first|refine L.c2 (c1) U U U U ?_|refine L.c2 (c2) U U U U ?_)|((with_reducible refine D.alloc ?_);refine L.al U U U ?_)|((with_reducible refine D.store ?_);refine L.st U U U U U U U U U ?_)|((with_reducible refine D.aw ?_);(fail_if_success with_reducible refine D.stopR (id:=13) ?_);(fail_if_success with_reducible refine D.stopS (id:=13) ?_);refine K.sq (AW.regD mixed (by kernel_rfl) ?_))|with_reducible refine K.tN ?_)
 repeat'(first|((with_reducible refine D.nil ?_);first|refine AX.nilL ?_|refine AX.nilD (by kernel_rfl) ?_)|((with_reducible refine D.load ?_);refine L.ldb U U U U U U ?_)|((with_reducible refine D.move ?_);refine L.mv U U U ?_)|((with_reducible refine D.bin ?_);first|refine L.rm U U U U (by omega) ?_|refine L.qu8 U U U U (by first|assumption|omega) (by omega) ?_)|((with_reducible refine D.call ?_);first|refine L.c2 (ni) U U U U ?_|refine L.c2 (nj) U U U U ?_|refine L.c2 (a1) U U U U ?_|refine L.c2 (a2) U U U U ?_|refine L.c2 (q2) U U U U ?_)|((with_reducible refine D.alloc ?_);refine L.al U U U ?_)|((with_reducible refine D.store ?_);refine L.st U U U U U U U U U ?_)|((with_reducible refine D.ax ?_);refine L.cvi U U U U U (by omega) ?_)|((with_reducible refine D.aw ?_);(fail_if_success with_reducible refine D.stopR (id:=15) ?_);(fail_if_success with_reducible refine D.stopS (id:=15) ?_);first|refine K.sq (AW.regL ?_)|refine K.sq (AW.regD mixed (by kernel_rfl) ?_))|with_reducible refine K.tN ?_)
 repeat'(first|((with_reducible refine D.nil ?_);refine AX.nilD (by kernel_rfl) ?_)|((with_reducible refine D.load ?_);refine L.ldb U U U U U U ?_)|((with_reducible refine D.move ?_);refine L.mv U U U ?_)|((with_reducible refine D.assign ?_);refine L.asg U U U ?_)|((with_reducible refine D.call ?_);first|refine L.c2 (fn) U U U U ?_|refine L.c2 (t2) U U U U ?_|refine L.c2 (o2) U U U U ?_)|((with_reducible refine D.extract ?_);refine L.ex U U U U ?_)|((with_reducible refine D.alloc ?_);refine L.al U U U ?_)|((with_reducible refine D.store ?_);refine L.st U U U U U U U U U ?_)|((with_reducible refine D.aw ?_);(fail_if_success with_reducible refine D.stopR (id:=16) ?_);(fail_if_success with_reducible refine D.stopS (id:=16) ?_);refine K.sq (AW.regD mixed (by kernel_rfl) ?_))|with_reducible refine K.tN ?_)
 repeat'(first|((with_reducible refine D.nil ?_);refine AX.nilL ?_)|((with_reducible refine D.load ?_);refine L.ldb U U U U U U ?_)|((with_reducible refine D.move ?_);refine L.mv U U U ?_)|((with_reducible refine D.assign ?_);refine L.asg U U U ?_)|((with_reducible refine D.bin ?_);refine L.bn U U U U U ?_)|((with_reducible refine D.call ?_);first|refine L.c2 (k1) U U U U ?_|refine L.c2 (k2) U U U U ?_)|((with_reducible refine D.pick ?_);refine L.pk U U U U ?_)|((with_reducible refine D.ax ?_);refine L.bd U U U U U ?_)|((with_reducible refine D.aw ?_);first|refine K.sq (AW.regL ?_)|refine AW.ret ?_)|with_reducible refine K.tN ?_|with_reducible refine K.r1 (by with_unfolding_all rfl) (by with_unfolding_all rfl) ?_)
 all_goals first
  |rfl
  |trace_state
end Go.Ab
