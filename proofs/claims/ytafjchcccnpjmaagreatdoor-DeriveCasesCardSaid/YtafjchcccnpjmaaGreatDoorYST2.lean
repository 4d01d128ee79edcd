/- A part of the proofs of this seat's statements: S107. It has no conditions of its own. -/
import Derived.Test.YtafjchcccnpjmaaGreatDoorYA1
import Derived.Test.YtafjchcccnpjmaaGreatDoorYD1
import Derived.Test.YtafjchcccnpjmaaGreatDoorYDT1
import Derived.Test.YtafjchcccnpjmaaGreatDoorYST1
import Derived.Test.YtafjchcccnpjmaaGreatDoorA2
namespace Go.Ab
open Go Go.Proofs
set_option maxRecDepth 100000
set_option maxHeartbeats 4000000
set_option linter.all false
theorem gf_ix{g:List Ty}{f:Fm}{n:Nat}(h:Gf g f n)(hn:n≤4096)(hg:g.length≤100):∀p∈f.tms 0,∀q∈p.1.vars 0,0≤q.1∧q.1<549755813888:=fun p hp q hq=>by
 have h1:=fokT_idx h.ok (h.err hn) hg p hp q hq
 have h2:=Tm.vars_nonneg p.1 (tms_shape f h.sh 0 p hp) 0 q hq
 omega
theorem gf_full{g:List Ty}{f:Fm}{n:Nat}(h:Gf g f n)(hn:n≤4096):f.full≤266240:=ferr_full (h.err hn)
theorem deriveCases_c(l:List Int):PC E 5 [.s .int l] (.bool true):=by
 have hsane:=sane12_c
 have hfew:=few_c l
 by_cases hl:l.length≤500
 case neg=>
  rw[decide_eq_false hl] at hfew
  refine M.F Tryz.func5 ?_
  repeat'(first|refine M.gw ?_|refine M.c2 (hsane) ?_|refine M.c2 (hfew) ?_|refine L.lkb U U U U U U U U U U ?_|((fail_if_success refine AX.wt U ?_);refine AX.gs U U (fun _=>trivial) (fun h=> ?_) (fun h=> ?_))|((with_reducible refine D.sblk ?_);refine K.sq (AW.block ?_))|((with_reducible refine D.blk ?_);refine AW.block ?_)|refine K.sq (AW.condS U (fun h=> ?_) (fun h=> ?_))|refine AW.condS U (fun h=> ?_) (fun h=> ?_)|((with_reducible show @LE.le Nat _ _ _);omega)|((with_reducible show @LT.lt Nat _ _ _);omega)|fail)
  rfl
 rw[decide_eq_true hl] at hfew
 have hnew:=new_c l
 have hd:(Dk.mk l 0).ok:=⟨Nat.zero_le _,by simp only;omega⟩
 obtain⟨d,hde⟩:∃d,d=Dk.mk l 0:=⟨_,rfl⟩
 rw[←hde] at hnew hd
 have hok:=d.cC_ok
 have hgl:=d.ctx_len
 have hs:=mkSeq_c d hd
 have ok1:=Dk.sqD_ok hd
 have m1:=mkFm_c 2 d.sqD (d.ctx.1++[natT]) 2 (by omega) rfl ok1 d.s_n (by simp;omega)
 rw[show Dk.fm 2 d.sqD (d.ctx.1++[natT])=d.cf from rfl] at m1
 have ok2:d.cf.2.ok:=Dk.fm_ok 2 _ _ ok1
 have m2:=mkFm_c 2 d.cf.2 (d.ctx.1++[listT]) 2 (by omega) rfl ok2 d.s_l (by simp;omega)
 rw[show Dk.fm 2 d.cf.2 (d.ctx.1++[listT])=d.cg from rfl] at m2
 have gf:=d.cf_gf
 have gg:=d.cg_gf
 obtain⟨z1,z2⟩:=gf.zeroH (by omega)
 obtain⟨z3,z4⟩:=gf.nextH (by omega)
 obtain⟨z5,z6⟩:=gg.noneH (by omega)
 obtain⟨z7,z8⟩:=gg.consH (by omega)
 have f1:=gf_full gf (by omega)
 have f2:=gf_full gg (by omega)
 have f3:=gf_full z4 (by omega)
 have f4:=gf_full z8 (by omega)
 have x1:=gf_ix gf (by omega) (by simp;omega)
 have x2:=gf_ix gg (by omega) (by simp;omega)
 have l1:=lft_full gf.sh (fr:=1) (by_:=1) (by omega)
 have l2:=lft_full gg.sh (fr:=1) (by_:=2) (by omega)
 have u1:=rupF0_c d.cf.1 1 1 (by omega) (by omega) (by omega) gf.sh x1
 have u2:=rupF0_c d.cg.1 1 2 (by omega) (by omega) (by omega) gg.sh x2
 have p1:=fputR_c d.cf.1 0 zT (by omega) (by decide)
 have p2:=fputR_c (d.cf.1.lft 1 1) 0 (sT (vT 0)) (by omega) (by decide)
 have p3:=fputR_c d.cg.1 0 nilM (by omega) (by decide)
 have p4:=fputR_c (d.cg.1.lft 1 2) 0 consM (by omega) (by decide)
 rw[z1,if_pos rfl] at p1
 rw[z3,if_pos rfl] at p2
 rw[z5,if_pos rfl] at p3
 rw[z7,if_pos rfl] at p4
 have v0:=var_c 0
 have v1:=var_c 1
 have n4:=n_c 4 [] (by simp)
 have n5:=n_c 5 [vT 0] (by decide)
 have n7:=n_c 7 [] (by simp)
 have n8:=n_c 8 [vT 1,vT 0] (by decide)
 have q1:=qFm_c 4 natT (nextH d.cf.1) (by decide) (by omega)
 have q2:=qFm_c 4 listT (consH d.cg.1) (by decide) (by omega)
 have q3:=qFm_c 4 natT (quF 4 listT (consH d.cg.1)) (by decide) (by simp only[quF,Fm.full,Fm.fulls,List.map_nil,List.sum_nil,listT,Ty.size,Ty.sizes];omega)
 have q4:=qFm_c 4 natT d.cf.1 (by decide) (by omega)
 have q5:=qFm_c 4 listT d.cg.1 (by decide) (by omega)
 have y3:=refHyp_c 3
 have y2:=refHyp_c 2
 have y1:=refHyp_c 1
 have y0:=refHyp_c 0
 have hF:Gf (d.ctx.1++[natT]++[natT]) (d.cf.1.lft 1 1) 487:=gf.lft (h:=[natT]) [natT]
 have hG:Gf (d.ctx.1++[listT]++[listT]) (d.cg.1.lft 1 1) 487:=gg.lft (h:=[listT]) [listT]
 have e1:=numbersP_err (f:=d.cf.1) hF.sh (by have:=hF.sz;omega) (hypP_err (i:=3) (by omega)) (hypP_err (i:=3) (by omega)) (by rw[hypP_size];omega) (by rw[hypP_size];omega)
 have e2:=listsP_err (f:=d.cg.1) hG.sh (by have:=hG.sz;omega) (hypP_err (i:=1) (by omega)) (hypP_err (i:=1) (by omega)) (by rw[hypP_size];omega) (by rw[hypP_size];omega)
 have c1:=dNumbers_c d.cf.1 3 2 (gf.err (by omega)) x1 (by omega) (by omega) e1
 have c2:=dLists_c d.cg.1 1 0 (gg.err (by omega)) x2 (by omega) (by omega) e2
 rw[show(2:Int)+1=3 from rfl] at c1
 rw[show(0:Int)+1=1 from rfl] at c2
 have k1:=takes_c hok (numbersP d.cf.1 (hypP 3) (hypP 3)) (quF 4 natT d.cf.1) (by simp only[numbersP,Pf.full,Pf.fulls,List.map_cons,List.map_nil,List.sum_cons,List.sum_nil,lft_full gf.sh (show(0:Int)≤1 by omega),vT_full,Ty.size,Ty.sizes,natT,hyp_full];omega) (by simp only[quF,Fm.full,Fm.fulls,List.map_nil,List.sum_nil,natT,Ty.size,Ty.sizes];omega) (.inl d.nums_acc)
 have k2:=takes_c hok (listsP d.cg.1 (hypP 1) (hypP 1)) (quF 4 listT d.cg.1) (by simp only[listsP,Pf.full,Pf.fulls,List.map_cons,List.map_nil,List.sum_cons,List.sum_nil,lft_full gg.sh (show(0:Int)≤1 by omega),vT_full,Ty.size,Ty.sizes,listT,hyp_full];omega) (by simp only[quF,Fm.full,Fm.fulls,List.map_nil,List.sum_nil,listT,Ty.size,Ty.sizes];omega) (.inl d.lists_acc)
 have hHl:=d.sqH_len
 have hn:=nat_c
 have hli:=list_c
 unfold Dk.cC Dk.cH at k1 k2
 rw[show Fm.put (d.cf.1.lft 1 1) 0 (sT (vT 0))=nextH d.cf.1 from rfl] at p2
 rw[show Fm.put (d.cg.1.lft 1 2) 0 consM=consH d.cg.1 from rfl] at p4
 rw[show Fm.put d.cf.1 0 zT=zeroH d.cf.1 from rfl] at p1
 rw[show Fm.put d.cg.1 0 nilM=noneH d.cg.1 from rfl] at p3
 generalize numbersP d.cf.1 (hypP 3) (hypP 3)=P1 at*
 generalize listsP d.cg.1 (hypP 1) (hypP 1)=P2 at*
 generalize zeroH d.cf.1=h1 at*
 generalize nextH d.cf.1=h2 at*
 generalize noneH d.cg.1=h3 at*
 generalize consH d.cg.1=h4 at*
 generalize d.cf.1.lft 1 1=w1 at*
 generalize d.cg.1.lft 1 2=w2 at*
 generalize d.cf=cf at*
 generalize d.cg=cg at*
 generalize d.sqH=H at*
 generalize d.sqD=dd at*
 generalize d.ctx.1=gx at*
 clear hok gf gg z1 z2 z3 z4 z5 z6 z7 z8 f1 f2 f3 f4 x1 x2 l1 l2 hF hG e1 e2 ok1 ok2 hd
 obtain⟨b1,b2,b3,b4⟩:=h1
 obtain⟨b5,b6,b7,b8⟩:=h3
 refine M.F Tryz.func5 ?_
 repeat'(first|refine M.go ?_|refine M.c2 (hsane) ?_|refine M.c2 (hfew) ?_|refine M.cb (hnew) [] 1 ?_|refine M.cb (hs) [0] 0 ?_|refine M.c2 (hn) ?_|refine M.c2 (hli) ?_|refine M.cb (m1) [0] 0 ?_|refine M.cb (m2) [0] 0 ?_|refine L.lkb U U U U U U U U U U ?_|((fail_if_success refine AX.wt U ?_);refine AX.gs U U (fun _=>trivial) (fun h=> ?_) (fun h=> ?_))|((with_reducible refine D.aw ?_);(fail_if_success with_reducible refine D.stopR (id:=10) ?_);(fail_if_success with_reducible refine D.stopS (id:=10) ?_);first|refine M.ga ?_|((with_reducible refine D.sblk ?_);refine K.sq (AW.block ?_))|((with_reducible refine D.blk ?_);refine AW.block ?_)|refine K.sq (AW.condS U (fun h=> ?_) (fun h=> ?_))|refine AW.condS U (fun h=> ?_) (fun h=> ?_))|((with_reducible show @LE.le Nat _ _ _);omega)|((with_reducible show @LT.lt Nat _ _ _);omega)|refine M.gk ?_|fail)
 clear m1 m2 hs hnew hsane hfew
 repeat'(first|refine M.go ?_|refine M.c2 (n4) ?_|refine M.c2 (p1) ?_|refine L.lkb U U U U U U U U U U ?_|((fail_if_success refine AX.wt U ?_);refine AX.gs U U (fun _=>trivial) (fun h=> ?_) (fun h=> ?_))|((with_reducible refine D.aw ?_);(fail_if_success with_reducible refine D.stopR (id:=11) ?_);(fail_if_success with_reducible refine D.stopS (id:=11) ?_);first|refine M.ga ?_|((with_reducible refine D.sblk ?_);refine K.sq (AW.block ?_))|((with_reducible refine D.blk ?_);refine AW.block ?_)|refine K.sq (AW.condS U (fun h=> ?_) (fun h=> ?_))|refine AW.condS U (fun h=> ?_) (fun h=> ?_))|((with_reducible show @LE.le Nat _ _ _);omega)|((with_reducible show @LT.lt Nat _ _ _);omega)|refine M.gk ?_|fail)
 repeat'(first|refine M.go ?_|refine M.c2 (u1) ?_|refine M.c2 (v0) ?_|refine M.c2 (n5) ?_|refine M.c2 (p2) ?_|refine L.lkb U U U U U U U U U U ?_|((fail_if_success refine AX.wt U ?_);refine AX.gs U U (fun _=>trivial) (fun h=> ?_) (fun h=> ?_))|((with_reducible refine D.aw ?_);(fail_if_success with_reducible refine D.stopR (id:=12) ?_);(fail_if_success with_reducible refine D.stopS (id:=12) ?_);first|refine M.ga ?_|((with_reducible refine D.sblk ?_);refine K.sq (AW.block ?_))|((with_reducible refine D.blk ?_);refine AW.block ?_)|refine K.sq (AW.condS U (fun h=> ?_) (fun h=> ?_))|refine AW.condS U (fun h=> ?_) (fun h=> ?_))|((with_reducible show @LE.le Nat _ _ _);omega)|((with_reducible show @LT.lt Nat _ _ _);omega)|refine M.gk ?_|fail)
 repeat'(first|refine M.go ?_|refine M.c2 (n7) ?_|refine M.c2 (p3) ?_|refine L.lkb U U U U U U U U U U ?_|((fail_if_success refine AX.wt U ?_);refine AX.gs U U (fun _=>trivial) (fun h=> ?_) (fun h=> ?_))|((with_reducible refine D.aw ?_);(fail_if_success with_reducible refine D.stopR (id:=13) ?_);(fail_if_success with_reducible refine D.stopS (id:=13) ?_);first|refine M.ga ?_|((with_reducible refine D.sblk ?_);refine K.sq (AW.block ?_))|((with_reducible refine D.blk ?_);refine AW.block ?_)|refine K.sq (AW.condS U (fun h=> ?_) (fun h=> ?_))|refine AW.condS U (fun h=> ?_) (fun h=> ?_))|((with_reducible show @LE.le Nat _ _ _);omega)|((with_reducible show @LT.lt Nat _ _ _);omega)|refine M.gk ?_|fail)
 repeat'(first|refine M.go ?_|refine M.c2 (u2) ?_|refine M.c2 (v1) ?_|refine M.c2 (v0) ?_|refine M.c2 (n8) ?_|refine M.c2 (p4) ?_|refine L.lkb U U U U U U U U U U ?_|((fail_if_success refine AX.wt U ?_);refine AX.gs U U (fun _=>trivial) (fun h=> ?_) (fun h=> ?_))|((with_reducible refine D.aw ?_);(fail_if_success with_reducible refine D.stopR (id:=14) ?_);(fail_if_success with_reducible refine D.stopS (id:=14) ?_);first|refine M.ga ?_|((with_reducible refine D.sblk ?_);refine K.sq (AW.block ?_))|((with_reducible refine D.blk ?_);refine AW.block ?_)|refine K.sq (AW.condS U (fun h=> ?_) (fun h=> ?_))|refine AW.condS U (fun h=> ?_) (fun h=> ?_))|((with_reducible show @LE.le Nat _ _ _);omega)|((with_reducible show @LT.lt Nat _ _ _);omega)|refine M.gk ?_|fail)
 repeat'(first|refine M.go ?_|refine L.lkb U U U U U U U U U U ?_|((fail_if_success refine AX.wt U ?_);refine AX.gs U U (fun _=>trivial) (fun h=> ?_) (fun h=> ?_))|((with_reducible refine D.aw ?_);(fail_if_success with_reducible refine D.stopR (id:=16) ?_);(fail_if_success with_reducible refine D.stopS (id:=16) ?_);first|refine M.ga ?_|((with_reducible refine D.sblk ?_);refine K.sq (AW.block ?_))|((with_reducible refine D.blk ?_);refine AW.block ?_)|refine K.sq (AW.condS U (fun h=> ?_) (fun h=> ?_))|refine AW.condS U (fun h=> ?_) (fun h=> ?_))|((with_reducible show @LE.le Nat _ _ _);omega)|((with_reducible show @LT.lt Nat _ _ _);omega)|refine M.gk ?_|fail)
 repeat'(first|refine M.go ?_|refine M.c2 (q1) ?_|refine M.c2 (q2) ?_|refine M.c2 (q3) ?_|refine L.lkb U U U U U U U U U U ?_|((fail_if_success refine AX.wt U ?_);refine AX.gs U U (fun _=>trivial) (fun h=> ?_) (fun h=> ?_))|((with_reducible refine D.aw ?_);(fail_if_success with_reducible refine D.stopR (id:=17) ?_);(fail_if_success with_reducible refine D.stopS (id:=17) ?_);first|refine M.ga ?_|((with_reducible refine D.sblk ?_);refine K.sq (AW.block ?_))|((with_reducible refine D.blk ?_);refine AW.block ?_)|refine K.sq (AW.condS U (fun h=> ?_) (fun h=> ?_))|refine AW.condS U (fun h=> ?_) (fun h=> ?_))|((with_reducible show @LE.le Nat _ _ _);omega)|((with_reducible show @LT.lt Nat _ _ _);omega)|refine M.gk ?_|fail)
 repeat'(first|refine M.go ?_|refine M.c2 (y3) ?_|refine M.c2 (y2) ?_|refine M.c2 (c1) ?_|refine L.lkb U U U U U U U U U U ?_|((fail_if_success refine AX.wt U ?_);refine AX.gs U U (fun _=>trivial) (fun h=> ?_) (fun h=> ?_))|((with_reducible refine D.aw ?_);(fail_if_success with_reducible refine D.stopR (id:=18) ?_);(fail_if_success with_reducible refine D.stopS (id:=18) ?_);first|refine M.ga ?_|((with_reducible refine D.sblk ?_);refine K.sq (AW.block ?_))|((with_reducible refine D.blk ?_);refine AW.block ?_)|refine K.sq (AW.condS U (fun h=> ?_) (fun h=> ?_))|refine AW.condS U (fun h=> ?_) (fun h=> ?_))|((with_reducible show @LE.le Nat _ _ _);omega)|((with_reducible show @LT.lt Nat _ _ _);omega)|refine M.gk ?_|fail)
 repeat'(first|refine M.go ?_|refine M.c2 (y1) ?_|refine M.c2 (y0) ?_|refine M.c2 (c2) ?_|refine L.lkb U U U U U U U U U U ?_|((fail_if_success refine AX.wt U ?_);refine AX.gs U U (fun _=>trivial) (fun h=> ?_) (fun h=> ?_))|((with_reducible refine D.aw ?_);(fail_if_success with_reducible refine D.stopR (id:=19) ?_);(fail_if_success with_reducible refine D.stopS (id:=19) ?_);first|refine M.ga ?_|((with_reducible refine D.sblk ?_);refine K.sq (AW.block ?_))|((with_reducible refine D.blk ?_);refine AW.block ?_)|refine K.sq (AW.condS U (fun h=> ?_) (fun h=> ?_))|refine AW.condS U (fun h=> ?_) (fun h=> ?_))|((with_reducible show @LE.le Nat _ _ _);omega)|((with_reducible show @LT.lt Nat _ _ _);omega)|refine M.gk ?_|fail)
 refine AW.weak (a2:=[(4,.ptr 0 0),(5,.ptr 1 0),(6,.ptr 2 0),(7,.ptr 3 0),(8,.ptr 4 0),(17,.ptr 5 0),(18,.i 0),(19,.ptr 6 0),(20,.i 0)]) (σ2:=⟨8,[(0,.var [.s .ty gx,.slice (.own 7) (.t .fm (H++[.mk b1 b2 b3 b4,quF 4 natT h2,.mk b5 b6 b7 b8,quF 4 natT (quF 4 listT h4)]))]),(1,.var natT.view),(2,.var listT.view),(3,.var cf.1.view),(4,.var cg.1.view),(5,.var P1.view),(6,.var P2.view),(7,.row)]⟩) (M.W [some 1,some 2,some 3,some 6,some 9,some 16,some 17,some 15] (hf:=(by(repeat'(first|exact trivial|exact Or.inl U|exact Or.inr ⟨_,U,rfl⟩|refine And.intro ?_ ?_|refine⟨_,U,_,U,_,U,?_⟩|refine⟨_,U,_,U,?_⟩|exact VLe.refl _|exact VLe.any _ _|exact VsLe.refl _|refine VLe.agg ?_|exact VLe.of_eq (by simp[Sto.upd,quF])|refine⟨_,U,_,_,U,?_,?_⟩|with_reducible exact rfl|(simp[Sto.upd,quF];done)|exact Eq.refl true|refine⟨_,U,_,renVs_flat _ _ _,_,U,?_⟩));done)) (he:=(by(repeat'(first|exact trivial|exact Or.inl U|exact Or.inr ⟨_,U,rfl⟩|refine And.intro ?_ ?_|refine⟨_,U,_,U,_,U,?_⟩|refine⟨_,U,_,U,?_⟩|exact VLe.refl _|exact VLe.any _ _|exact VsLe.refl _|refine VLe.agg ?_|exact VLe.of_eq (by simp[Sto.upd,quF])|refine⟨_,U,_,_,U,?_,?_⟩|with_reducible exact rfl|(simp[Sto.upd,quF];done)|exact Eq.refl true|refine⟨_,U,_,renVs_flat _ _ _,_,U,?_⟩));done))) ?_
 repeat'(first|refine M.gw ?_|refine M.c2 (q4) ?_|refine M.c2 (k1) ?_|refine M.c2 (q5) ?_|refine M.c2 (k2) ?_|refine L.lkb U U U U U U U U U U ?_|((fail_if_success refine AX.wt U ?_);refine AX.gs U U (fun _=>trivial) (fun h=> ?_) (fun h=> ?_))|((with_reducible refine D.sblk ?_);refine K.sq (AW.block ?_))|((with_reducible refine D.blk ?_);refine AW.block ?_)|refine K.sq (AW.condS U (fun h=> ?_) (fun h=> ?_))|refine AW.condS U (fun h=> ?_) (fun h=> ?_)|((with_reducible show @LE.le Nat _ _ _);omega)|((with_reducible show @LT.lt Nat _ _ _);omega)|fail)
 rfl
end Go.Ab
