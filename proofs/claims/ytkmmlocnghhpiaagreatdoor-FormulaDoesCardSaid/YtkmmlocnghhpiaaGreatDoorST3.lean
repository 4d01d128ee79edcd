/- A part of the proofs of this seat's statements: S175. It has no conditions of its own. -/
import Derived.Test.YtkmmlocnghhpiaaGreatDoorA2
import Derived.Test.YtkmmlocnghhpiaaGreatDoorST2
namespace Go.Ab
open Go Go.Proofs
set_option maxRecDepth 100000
set_option maxHeartbeats 4000000
set_option linter.all false
theorem fput_nole(f:Fm)(a:Int):(f.put a noTm).full≤f.full:=
 Fm.re_fle (fun b t=>Tm.re_fle (fun i c=>by
  unfold putG
  split
  ·exact (show noTm.full≤2 by decide)
  ·simp [Tm.full,Tm.fulls,Ty.size,Ty.sizes]) t 0) f 0
theorem fbd_put(z:Fm)(a:Int)(w:Tm):(if putFErr z a w=0 then z.put a w else noFm).full<1099511627776:=by
 by_cases h:putFErr z a w=0
 ·rw [if_pos h]
  have he:z.err=0:=by simp only[putFErr] at h;split at h<;>rename_i h1<;>omega
  have hwe:w.err=0:=by
   simp only[putFErr] at h
   rw[if_neg (fun hc=>hc he)] at h
   split at h
   ·omega
   ·split at h<;>rename_i h1<;>omega
  have hs:=(Fm.err_iff z).1 he
  have h1:=fput_full a w (err_zero hwe).1 z hs.1 0
  have h2:=ferr_full he
  have h3:=terr_full hwe
  have h4:cntF a (z.tms 0)≤4096:=Nat.le_trans (timesF_le a z) hs.2
  have h5:=Nat.mul_le_mul h4 h3
  have h6:(z.put a w).full≤z.full+cntF a (z.tms 0)*w.full:=h1
  omega
 ·rw [if_neg h];decide
theorem fwf_tms(f:Fm):f.wf→∀b,∀p∈f.tms b,p.1.wf:=by
 induction f using Fm.ind with
 |h f ih=>
  intro h b p hp
  rw[f.tms_eq b] at hp
  obtain⟨k,ty,ts,zs⟩:=f
  obtain⟨h1,h2⟩:(∀t∈ts,t.wf)∧Fm.wfs zs:=h
  rw[Fm.wfs_iff] at h2
  rcases List.mem_append.1 hp with hp|hp
  ·obtain ⟨t,ht,rfl⟩:=List.mem_map.1 hp
   exact h1 t ht
  ·obtain ⟨a,ha,hp⟩:=List.mem_flatMap.1 hp
   exact ih a ha (h2 a ha) _ p hp
theorem fwf_ixw{f:Fm}(h:f.wf):f.ixw:=fun he p hp q hq=>
 ⟨p.1.vars_nonneg (tms_shape f ((Fm.err_iff f).1 he).1 0 p hp) 0 q hq,wf_vars p.1 (fwf_tms f h 0 p hp) 0 q hq⟩
theorem formulaDoes_c(l:List Int)(raw more:Fm)(g:List Ty)(s:Tm)(fr by_:Int)(hgl:g.length≤5000000000000)(hraw:raw.wf):PC E 3 [.s .int l,.agg raw.view,.agg more.view,.s .ty g,.agg s.view,.i fr,.i by_] (.bool true):=by
 have bg:=gsum_bd g
 have br:=raw.cn_bd 20000
 have bm:=more.cn_bd 20000
 have bs:=s.cn_bd 20000
 have hn1:=nodes07_c raw
 have hn2:=nodes07_c more
 have hn3:=terms07_c s
 refine M.F Tryz.func3 ?_
 repeat'(first|refine M.go ?_|refine M.c2 (sane07_c) ?_|refine M.z1 5 ?_|refine M.gk ?_|fail)
 all_goals first
  |(exfalso;simp at h;done)
  |skip
 refine AW.range g.length (fun m=>True)
  (fun m=>([(0,.s .int l),(3,.s .ty g),(5,.i fr),(6,.i by_),(8,.ptr 0 0),(9,.ptr 1 0),(11,.ptr 2 0),(15,.i (gsum (g.take m))),(63,.s .ty g),(64,.i g.length),(65,.i m)],⟨3,[(0,.var raw.view),(1,.var more.view),(2,.var s.view)]⟩))
  (by omega) (fun m=>rfl) (fun m=>rfl) rfl trivial ?_ ?_ ?_
 ·have e0:gsum (g.take 0)=0:=by simp[gsum]
  simp only[e0]
  exact(M.W [some 0,some 1,some 2])
 ·intro m hm _
  have hc:=kinds07_c g[m]
  have b1:=gsum_bd (g.take m)
  have b2:=g[m].cn_bd 20000
  rw[List.length_take] at b1
  have e:=gsum_take g m hm
  repeat'(first|refine M.gw ?_|refine M.c2 (hc) ?_|fail)
  refine⟨rfl,trivial,?_⟩
  simp only[e,←Int.add_assoc]
  exact(M.W [some 0,some 1,some 2])
 intro _
 rw[List.take_length]
 by_cases hl:l.length≤500
 case neg=>
  have hf:=few_f l hl
  repeat'(first|refine M.go ?_|refine M.c2 (hf) ?_|refine M.z1 11 ?_|refine M.gk ?_|fail)
  all_goals first
   |rfl
   |(exfalso;simp at h;done)
 have hf:=few_t l hl
 by_cases hsm:raw.cn 20000≤700∧more.cn 20000≤500∧gsum g≤300∧s.cn 20000≤500
 case neg=>
  repeat'(first|refine M.go ?_|refine M.c2 (hf) ?_|refine M.c2 (hn1) ?_|refine M.c2 (hn2) ?_|refine M.c2 (hn3) ?_|refine M.gs ?_ ?_<;>intro h|refine M.z1 11 ?_|refine M.cs ?_ ?_<;>intro h|refine M.gk ?_|fail)
  all_goals first
   |rfl
   |(exfalso;apply hsm;simp at*;omega)
 obtain⟨hs1,hs2,hs3,hs4⟩:=hsm
 have fraw:raw.full≤700:=by have:=br.2.2 (by omega);omega
 have fm:more.full≤500:=by have:=bm.2.2 (by omega);omega
 have fs:s.full≤500:=by have:=bs.2.2 (by omega);omega
 have fg:(g.map Ty.size).sum≤300:=by have:=gsum_size g (by omega);omega
 have h1:(raw.cn 20000>700)=False:=by simp;omega
 have h2:(more.cn 20000>500)=False:=by simp;omega
 have h3:(gsum g>300)=False:=by simp;omega
 have h4:(s.cn 20000>500)=False:=by simp;omega
 repeat'(first|refine M.go ?_|refine M.c2 (hf) ?_|refine M.c2 (hn1) ?_|refine M.c2 (hn2) ?_|refine M.c2 (hn3) ?_|refine M.gs ?_ ?_<;>intro h|refine M.z1 11 ?_|refine M.cs ?_ ?_<;>intro h|refine M.gk ?_|fail)
 all_goals first
  |(exfalso;simp at h;omega)
  |skip
 clear hf hn1 hn2 hn3 bg br bm bs h1 h2 h3 h4 hs1 hs2 hs3 hs4 h
 have hn:=new_c l
 have d0:=deck_ok hl
 have hcx:=context_c (Dk.mk l 0) d0
 have hog:=Dk.ctx_smalls (Dk.mk l 0)
 have hogl:=Dk.ctx_len (Dk.mk l 0)
 have d1:=Dk.ctx_ok d0
 generalize (Dk.mk l 0).ctx.1=og at*
 generalize (Dk.mk l 0).ctx.2=D1 at*
 have tx:=mkFm_c 3 D1 og 3 (by omega) rfl d1 hog (by omega)
 obtain⟨gx1,gx2,gx3⟩:=Dk.fm_good 3 D1 og hog
 have ox:=Dk.fm_okT 3 D1 og hog
 have d2:=Dk.fm_ok 3 D1 og d1
 generalize (Dk.fm 3 D1 og).1=x at*
 generalize (Dk.fm 3 D1 og).2=D2 at*
 have ix:x.ixr:=okT_ixr ox gx1 (by omega)
 have ty:=bentFm_c D2 d2 x (by omega)
 obtain⟨fy,iy,d3⟩:=bentF_ok D2 d2 x (by omega) ix
 generalize (bentF D2 x).1=y at*
 generalize (bentF D2 x).2=D3 at*
 have tu:=type1_c D3 d3
 have hu:=Dk.type1 D3
 have d4:=Dk.type_ok 1 D3 d3
 generalize (D3.type 1).1=v at*
 generalize (D3.type 1).2=D4 at*
 have tt:=term_c 4 (by omega) D4 og v 2 (by omega) d4 hog hu (by omega) (by omega) (by omega)
 have ft:=tm_full (n:=4) (by omega) D4 hog hu (by omega) (by omega)
 generalize (Dk.tm 4 D4 og v).1=u at*
 generalize (Dk.tm 4 D4 og v).2=D5 at*
 have ogs:=smalls_sum hog
 have oz:∀z∈[raw,x,y],z.full≤130000∧z.ixw:=by
  intro z hz
  simp only[List.mem_cons,List.not_mem_nil,or_false] at hz
  rcases hz with rfl|rfl|rfl
  ·exact ⟨by omega,fwf_ixw hraw⟩
  ·exact ⟨by omega,fun _ p hp=>ix 0 p hp 0⟩
  ·exact ⟨by omega,fun _ p hp=>iy 0 p hp 0⟩
 have om:∀z∈[more,y,x],z.full≤130000:=by
  intro z hz
  simp only[List.mem_cons,List.not_mem_nil,or_false] at hz
  rcases hz with rfl|rfl|rfl<;>omega
 have oc:∀c∈[g,og],(c.map Ty.size).sum<1000000∧c.length<5000:=by
  intro c hc
  simp only[List.mem_cons,List.not_mem_nil,or_false] at hc
  rcases hc with rfl|rfl
  ·exact ⟨by omega,by have:=lsum_len Ty.size Ty.size_pos c;omega⟩
  ·exact ⟨by omega,by omega⟩
 have ot:∀c∈[s,u],c.full<1000000:=by
  intro c hc
  simp only[List.mem_cons,List.not_mem_nil,or_false] at hc
  rcases hc with rfl|rfl<;>omega
 have hmf:=mod_c fr 4 (by omega)
 have hmb:=mod_c by_ 5 (by omega)
 repeat'(first|refine M.go ?_|refine M.cb (hn) [] 1 ?_|refine M.cb (hcx) [3] 0 ?_|refine M.cb (tx) [3] 0 ?_|refine M.cb (ty) [3] 0 ?_|refine M.cb (tu) [3] 0 ?_|refine M.cb (tt) [3] 0 ?_|refine M.z1 17 ?_|refine M.gk ?_|fail)
 refine AW.range 3 (fun m=>True)
  (fun m=>([(3,.s .ty g),(5,.i fr),(6,.i by_),(9,.ptr 0 0),(11,.ptr 1 0),(19,.s .ty og),(20,.ptr 2 0),(21,.ptr 3 0),(22,.ptr 4 0),(114,.s .fm [raw,x,y]),(115,.i 3),(116,.i m)],⟨5,[(0,.var more.view),(1,.var s.view),(2,.var x.view),(3,.var y.view),(4,.var u.view)]⟩))
  (by omega) (fun m=>rfl) (fun m=>rfl) rfl trivial (M.W [some 1,some 2,some 4,some 5,some 6]) ?_ ?_
 ·intro m hm _
  have hzm:m<[raw,x,y].length:=hm
  obtain⟨hzf,hzi⟩:=oz [raw,x,y][m] (List.getElem_mem hzm)
  generalize hzz:[raw,x,y][m]=z at*
  have c1:=fsize_c z (by omega)
  have c2:=rfSize_c z (by omega)
  have c3:=usesF_c z (by omega) (fun he p hp=>fixv_of (hzi he) p hp)
  have c4:=rfUses_c z (by omega) hzi
  have c5:=notW_c z (by omega)
  have c6:=rfNot_c z (by omega)
  have c7:=fcheck_c z (by omega)
  have c8:=fcheckR_c z (by omega)
  have c9:=ints07_c (if z.err=0 then usesFI z else []) (by have:=useKF_size z;have:=z.size_le_full;have e:(usesFI z).length=(useKF z).length:=sortI_len _;split;omega;simp)
  have c10:=sameFm_r _ (if notE z=0 then notF z else noFm) (Nat.le_refl _) (by have:=notF_fle z;split;omega;decide)
  have c11:=fsame_c z x (by omega)
  have c12:=fsameR_c _ z x (Nat.le_refl _) (by omega)
  repeat'(first|refine M.go ?_|refine M.z1 19 ?_|refine M.gk ?_|fail)
  simp only[hzz]
  repeat'(first|refine M.go ?_|refine M.c2 (c1) ?_|refine M.c2 (c2) ?_|refine M.c2 (c3) ?_|refine M.c2 (c4) ?_|refine M.c2 (c5) ?_|refine M.c2 (c6) ?_|refine M.c2 (c7) ?_|refine M.c2 (c8) ?_|refine M.c2 (c9) ?_|refine M.c2 (c10) ?_|refine M.c2 (c11) ?_|refine M.c2 (c12) ?_|refine M.gs ?_ ?_<;>intro h|refine M.z2 26 27 ?_|refine M.cs ?_ ?_<;>intro h|refine M.gk ?_|fail)
  all_goals first
   |(exfalso;simp at h;done)
   |skip
  clear c1 c2 c3 c4 c5 c6 c7 c8 c9 c10 c11 c12
  repeat'(first|refine M.go ?_|refine M.z1 28 ?_|refine M.gk ?_|fail)
  refine AW.cutT (ι:=Unit) (fun _=>([(3,.s .ty g),(5,.i fr),(6,.i by_),(9,.ptr 0 0),(11,.ptr 1 0),(19,.s .ty og),(20,.ptr 2 0),(21,.ptr 3 0),(22,.ptr 4 0),(24,.ptr 5 0),(114,.s .fm [raw,x,y]),(115,.i 3),(116,.i m)],⟨6,[(0,.var more.view),(1,.var s.view),(2,.var x.view),(3,.var y.view),(4,.var u.view),(5,.var z.view)]⟩)) ?_ ?_
  ·refine AW.range 3 (fun m=>True)
    (fun m'=>([(3,.s .ty g),(5,.i fr),(6,.i by_),(9,.ptr 0 0),(11,.ptr 1 0),(19,.s .ty og),(20,.ptr 2 0),(21,.ptr 3 0),(22,.ptr 4 0),(24,.ptr 5 0),(114,.s .fm [raw,x,y]),(115,.i 3),(116,.i m),(199,.s .fm [more,y,x]),(200,.i 3),(201,.i m')],⟨6,[(0,.var more.view),(1,.var s.view),(2,.var x.view),(3,.var y.view),(4,.var u.view),(5,.var z.view)]⟩))
    (by omega) (fun m=>rfl) (fun m=>rfl) rfl trivial (M.W [some 0,some 1,some 2,some 3,some 4,some 5]) ?_ ?_
   ·intro m' hm' _
    have hwm:m'<[more,y,x].length:=hm'
    have hwf:=om [more,y,x][m'] (List.getElem_mem hwm)
    generalize hww:[more,y,x][m']=w at*
    have c1:=orFW_c z w (by omega) (by omega)
    have c2:=rfOr_c z w (by omega) (by omega)
    have c3:=sameFm_r _ (if orFE z w=0 then orA z w else noFm) (Nat.le_refl _) (by have:=orFA_full z w;split;omega;decide)
    repeat'(first|refine M.go ?_|refine M.z1 30 ?_|refine M.gk ?_|fail)
    simp only[hww]
    repeat'(first|refine M.go ?_|refine M.c2 (c1) ?_|refine M.c2 (c2) ?_|refine M.c2 (c3) ?_|refine M.gs ?_ ?_<;>intro h|refine M.z1 33 ?_|refine M.gk ?_|fail)
    all_goals first
     |(exfalso;simp at h;done)
     |skip
    exact⟨rfl,trivial,(M.W [some 0,some 1,some 2,some 3,some 4,some 5])⟩
   ·intro _
    exact⟨(),(M.W [some 0,some 1,some 2,some 3,some 4,some 5])⟩
  intro _
  repeat'(first|refine M.go ?_|refine M.z1 36 ?_|refine M.gk ?_|fail)
  refine AW.cutT (ι:=Unit) (fun _=>([(3,.s .ty g),(5,.i fr),(6,.i by_),(9,.ptr 0 0),(11,.ptr 1 0),(19,.s .ty og),(20,.ptr 2 0),(21,.ptr 3 0),(22,.ptr 4 0),(24,.ptr 5 0),(114,.s .fm [raw,x,y]),(115,.i 3),(116,.i m)],⟨6,[(0,.var more.view),(1,.var s.view),(2,.var x.view),(3,.var y.view),(4,.var u.view),(5,.var z.view)]⟩)) ?_ ?_
  ·refine AW.range 2 (fun m=>True)
    (fun m'=>([(3,.s .ty g),(5,.i fr),(6,.i by_),(9,.ptr 0 0),(11,.ptr 1 0),(19,.s .ty og),(20,.ptr 2 0),(21,.ptr 3 0),(22,.ptr 4 0),(24,.ptr 5 0),(114,.s .fm [raw,x,y]),(115,.i 3),(116,.i m),(229,.s .tys [g,og]),(230,.i 2),(231,.i m')],⟨6,[(0,.var more.view),(1,.var s.view),(2,.var x.view),(3,.var y.view),(4,.var u.view),(5,.var z.view)]⟩))
    (by omega) (fun m=>rfl) (fun m=>rfl) rfl trivial (M.W [some 0,some 1,some 2,some 3,some 4,some 5]) ?_ ?_
   ·intro m' hm' _
    have hcm:m'<[g,og].length:=hm'
    obtain⟨hcs,hcl⟩:=oc [g,og][m'] (List.getElem_mem hcm)
    generalize hcc:[g,og][m']=c at*
    have c1:=fmTypedH_c c z (by omega) (by omega)
    have c2:=fTyped_c c z (by omega) (by omega)
    repeat'(first|refine M.go ?_|refine M.z1 38 ?_|refine M.gk ?_|fail)
    simp only[hcc]
    repeat'(first|refine M.go ?_|refine M.c2 (c1) ?_|refine M.c2 (c2) ?_|refine M.z1 39 ?_|refine M.cs ?_ ?_<;>intro h|refine M.gk ?_|fail)
    all_goals first
     |(exfalso;simp at h;done)
     |skip
    exact⟨rfl,trivial,(M.W [some 0,some 1,some 2,some 3,some 4,some 5])⟩
   ·intro _
    exact⟨(),(M.W [some 0,some 1,some 2,some 3,some 4,some 5])⟩
  intro _
  repeat'(first|refine M.go ?_|refine M.c2 (hmf) ?_|refine M.c2 (hmb) ?_|refine M.z1 42 ?_|refine M.gk ?_|fail)
  refine AW.range 2 (fun m=>True)
   (fun m'=>([(3,.s .ty g),(5,.i fr),(6,.i by_),(9,.ptr 0 0),(11,.ptr 1 0),(19,.s .ty og),(20,.ptr 2 0),(21,.ptr 3 0),(22,.ptr 4 0),(24,.ptr 5 0),(114,.s .fm [raw,x,y]),(115,.i 3),(116,.i m),(251,.slice .any (.u 2 [[.i fr,.i by_],[.i (modI fr 4),.i (modI by_ 5)]])),(252,.i 2),(253,.i m')],⟨6,[(0,.var more.view),(1,.var s.view),(2,.var x.view),(3,.var y.view),(4,.var u.view),(5,.var z.view)]⟩))
   (by omega) (fun m=>rfl) (fun m=>rfl) rfl trivial (M.W [some 0,some 1,some 2,some 3,some 4,some 5]) ?_ ?_
  ·intro m' hm' _
   skip
   refine K.sq (AW.cutT (ι:=Int×Int) (fun q=>([(3,.s .ty g),(5,.i fr),(6,.i by_),(9,.ptr 0 0),(11,.ptr 1 0),(19,.s .ty og),(20,.ptr 2 0),(21,.ptr 3 0),(22,.ptr 4 0),(24,.ptr 5 0),(114,.s .fm [raw,x,y]),(115,.i 3),(116,.i m),(251,.slice .any (.u 2 [[.i fr,.i by_],[.i (modI fr 4),.i (modI by_ 5)]])),(252,.i 2),(253,.i m'),(46,.ptr 6 0)],⟨7,[(0,.var more.view),(1,.var s.view),(2,.var x.view),(3,.var y.view),(4,.var u.view),(5,.var z.view),(6,.var [.i q.1,.i q.2])]⟩)) ?_ ?_)
   ·match m',hm' with
    |0,_=>
     repeat'(first|refine M.gw ?_|fail)
     exact⟨(fr,by_),(M.W [some 0,some 1,some 2,some 3,some 4,some 5,some 6])⟩
    |1,_=>
     repeat'(first|refine M.gw ?_|fail)
     exact⟨(modI fr 4,modI by_ 5),(M.W [some 0,some 1,some 2,some 3,some 4,some 5,some 6])⟩
   rintro⟨q1,q2⟩
   simp only
   have c1:=fLift_c z q1 q2 (by omega)
   have c2:=rfLift_c z q1 q2 (by omega)
   have c3:=fLower_w z q1 (by omega) hzi
   have c4:=rfLower_c z q1 (by omega) hzi
   have c5:=sameFm_r _ (if liftFErr z q1 q2=0 then z.lft q1 q2 else noFm) (Nat.le_refl _) (by have:=flft_le z q1 q2;split;omega;decide)
   have c6:=sameFm_r _ (if lowerFErr z q1=0 then z.put q1 noTm else noFm) (Nat.le_refl _) (by have:=fput_nole z q1;split;omega;decide)
   repeat'(first|refine M.go ?_|refine M.c2 (c1) ?_|refine M.c2 (c2) ?_|refine M.c2 (c3) ?_|refine M.c2 (c4) ?_|refine M.c2 (c5) ?_|refine M.c2 (c6) ?_|refine M.gs ?_ ?_<;>intro h|refine M.z2 49 50 ?_|refine M.gk ?_|fail)
   all_goals first
    |(exfalso;simp at h;done)
    |skip
   clear c1 c2 c3 c4 c5 c6
   repeat'(first|refine M.gw ?_|fail)
   refine AW.range 2 (fun m=>True)
    (fun m''=>([(3,.s .ty g),(5,.i fr),(6,.i by_),(9,.ptr 0 0),(11,.ptr 1 0),(19,.s .ty og),(20,.ptr 2 0),(21,.ptr 3 0),(22,.ptr 4 0),(24,.ptr 5 0),(114,.s .fm [raw,x,y]),(115,.i 3),(116,.i m),(251,.slice .any (.u 2 [[.i fr,.i by_],[.i (modI fr 4),.i (modI by_ 5)]])),(252,.i 2),(253,.i m'),(46,.ptr 6 0),(311,.s .tm [s,u]),(312,.i 2),(313,.i m'')],⟨7,[(0,.var more.view),(1,.var s.view),(2,.var x.view),(3,.var y.view),(4,.var u.view),(5,.var z.view),(6,.var [.i q1,.i q2])]⟩))
    (by omega) (fun m=>rfl) (fun m=>rfl) rfl trivial (M.W [some 0,some 1,some 2,some 3,some 4,some 5,some 6]) ?_ ?_
   ·intro m'' hm'' _
    have hwm:m''<[s,u].length:=hm''
    have hwf:=ot [s,u][m''] (List.getElem_mem hwm)
    generalize hww:[s,u][m'']=w at*
    have c1:=fput_c z q1 w (by omega) (by omega)
    have c2:=fputR_c z q1 w (by omega) (by omega)
    have c3:=sameFm_r _ (if putFErr z q1 w=0 then z.put q1 w else noFm) (Nat.le_refl _) (fbd_put z q1 w)
    repeat'(first|refine M.go ?_|refine M.z1 53 ?_|refine M.gk ?_|fail)
    simp only[hww]
    repeat'(first|refine M.go ?_|refine M.c2 (c1) ?_|refine M.c2 (c2) ?_|refine M.c2 (c3) ?_|refine M.gs ?_ ?_<;>intro h|refine M.z1 56 ?_|refine M.gk ?_|fail)
    all_goals first
     |(exfalso;simp at h;done)
     |skip
    exact⟨rfl,trivial,(M.W [some 0,some 1,some 2,some 3,some 4,some 5,some 6])⟩
   ·intro _
    repeat'(first|with_reducible refine K.bN ?_)
    exact⟨rfl,trivial,(M.W [some 0,some 1,some 2,some 3,some 4,some 5])⟩
  ·intro _
   repeat'(first|with_reducible refine K.bN ?_)
   exact⟨rfl,trivial,(M.W [some 0,some 1,some 2,some 3,some 4])⟩
 ·intro _
  repeat'(first|refine M.gw ?_|fail)
  rfl
end Go.Ab
