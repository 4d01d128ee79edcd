/- A part of the proofs of this seat's statements: S169, S170. It has no conditions of its own. -/
import Derived.Test.YtecbeopjdkdboaaDoorA2
import Derived.Test.YtecbeopjdkdboaaDoorS3
import Derived.Test.YtecbeopjdkdboaaDoorS4
import Derived.Test.YtecbeopjdkdboaaDoorD1
import Derived.Test.YtecbeopjdkdboaaDoorDT1
import Derived.Test.YtecbeopjdkdboaaDoorA3
namespace Go.Ab
open Go Go.Proofs
set_option maxRecDepth 100000
set_option maxHeartbeats 4000000
set_option linter.all false
theorem nodes02_c(t:Tm):PC E 31 [.agg t.view] (.i (t.cn 20000)):=by
 have h1:=cntTm_c _ t 20000 (Nat.le_refl _) (by omega)
 refine M.F Tryd.func31 ?_
 repeat'(first|refine M.gw ?_|refine M.c2 (h1) ?_|fail)
 rfl
theorem kinds02_c(t:Ty):PC E 5 [.agg t.view] (.i (t.cn 20000)):=by
 have h1:=cntTy_c _ t 20000 (Nat.le_refl _) (by omega)
 refine M.F Tryd.func5 ?_
 repeat'(first|refine M.gw ?_|refine M.c2 (h1) ?_|fail)
 rfl
theorem few02_c(l:List Tm)(hl:l.length≤2000000000000):PC E 7 [.s .tm l] (.bool (decide (csum l<1500))):=by
 refine M.F Tryd.func7 ?_
 repeat'(first|refine M.gw ?_|fail)
 refine AW.range l.length (fun m=>True) (fun m=>([(3,.i (csum (l.take m))),(6,.s .tm l),(7,.i l.length),(8,.i m)],⟨0,[]⟩))
  (by omega) (fun m=>rfl) (fun m=>rfl) rfl trivial (M.W []) ?_ ?_
 ·intro m hm _
  have hc:=nodes02_c l[m]
  have b1:=csum_bd (l.take m)
  have b2:=l[m].cn_bd 20000
  rw[List.length_take] at b1
  have e:=csum_take l m hm
  repeat'(first|refine M.gw ?_|refine M.c2 (hc) ?_|fail)
  refine⟨rfl,trivial,?_⟩
  simp only[e]
  exact(M.W [])
 ·intro _
  rw[List.take_length]
  repeat'(first|refine M.gw ?_|fail)
  rfl
theorem bentT_ok(d:Dk)(hd:d.ok)(t:Tm)(ht:t.full≤60000):(bentT d t).1.full≤130000∧(bentT d t).2.ok:=by
 have hs:=tmK.walk_sz t.full t.full d (fun x=>x) t (fun x=>Nat.add_comm _ _)
 have ho:=tmK.walk_ok t.full d (fun x=>x) t hd
 unfold bentT
 generalize tmK.walk t.full d (fun x=>x) t=w at hs ho
 obtain⟨F,s,D⟩:=w
 have hs:∀x:Tm,(F x).full+s.full=t.full+x.full:=hs
 have h5:=Dk.next_ok ho 5
 have hsf:=Tm.full_eq s
 have key:∀x:Tm,x.full≤s.full+60000→(F x).full≤130000:=fun x hx=>by have:=hs x;omega
 simp only[bentB]
 split
 ·refine ⟨key _ ?_,Dk.next_ok h5 15⟩
  rw[Tm.full_eq];simp only[Tm.ty_mk,Tm.args_mk];omega
 ·split
  ·refine ⟨key _ ?_,Dk.next_ok h5 5⟩
   rw[Tm.full_eq];simp only[Tm.ty_mk,Tm.args_mk];omega
  ·split
   ·have:=(Dk.type1 (D.next 5).2).2
    refine⟨key _ ?_,Dk.type_ok 1 _ h5⟩
    rw[Tm.full_eq];simp only[Tm.ty_mk,Tm.args_mk];omega
   ·split
    ·refine ⟨key _ ?_,h5⟩
     have:(vT 0).full=2:=by decide
     rw[Tm.full_eq];simp only[Tm.ty_mk,Tm.args_mk,List.map_append,List.sum_append,List.map_cons,List.map_nil,List.sum_cons,List.sum_nil,this];omega
    ·have hts:=Dk.type1 (D.next 5).2
     have:=tm_full (n:=3) (by omega) ((D.next 5).2.type 1).2 smalls_nil hts (by omega) (by omega)
     exact⟨key _ (by omega),Dk.tm_ok 3 _ _ _ (Dk.type_ok 1 _ h5)⟩
theorem termsDoes_c(l:List Int)(raw:Tm)(g:List Ty)(s:Ty)(tl:List Tm)(hgl:g.length≤5000000000000)(htl:tl.length≤2000000000000):PC E 3 [.s .int l,.agg raw.view,.s .ty g,.agg s.view,.s .tm tl] (.bool true):=by
 have hks:=kinds02_c s
 have bs:=s.cn_bd 20000
 have bg:=gsum_bd g
 have bt:=csum_bd tl
 have br:=raw.cn_bd 20000
 have hf1:=few02_c [raw] (by simp)
 have hf2:=few02_c tl htl
 have e1:csum [raw]=raw.cn 20000:=by simp[csum]
 rw[e1] at hf1
 refine M.F Tryd.func3 ?_
 repeat'(first|refine M.go ?_|refine M.c2 (sane02_c) ?_|refine M.c2 (hks) ?_|refine M.z1 5 ?_|refine M.gk ?_|fail)
 all_goals first
  |(exfalso;simp at h;done)
  |skip
 refine AW.range g.length (fun m=>True)
  (fun m=>([(0,.s .int l),(2,.s .ty g),(4,.s .tm tl),(6,.ptr 0 0),(8,.ptr 1 0),(11,.i (s.cn 20000+gsum (g.take m))),(47,.s .ty g),(48,.i g.length),(49,.i m)],⟨2,[(0,.var raw.view),(1,.var s.view)]⟩))
  (by omega) (fun m=>rfl) (fun m=>rfl) rfl trivial ?_ ?_ ?_
 ·have e0:s.cn 20000+gsum (g.take 0)=s.cn 20000:=by simp[gsum]
  simp only[e0]
  exact(M.W [some 0,some 1])
 ·intro m hm _
  have hc:=kinds02_c g[m]
  have b1:=gsum_bd (g.take m)
  have b2:=g[m].cn_bd 20000
  rw[List.length_take] at b1
  have e:=gsum_take g m hm
  repeat'(first|refine M.gw ?_|refine M.c2 (hc) ?_|fail)
  refine⟨rfl,trivial,?_⟩
  simp only[e,←Int.add_assoc]
  exact(M.W [some 0,some 1])
 intro _
 rw[List.take_length]
 by_cases hl:l.length≤500
 case neg=>
  have hf:=few_f l hl
  repeat'(first|refine M.go ?_|refine M.c2 (hf) ?_|refine M.z1 11 ?_|refine M.gk ?_|fail)
  all_goals first
   |rfl
   |(exfalso;simp at h;done)
 have hf:=few_t l hl
 by_cases hsm:raw.cn 20000<1500∧csum tl<1500∧s.cn 20000+gsum g≤600
 case neg=>
  repeat'(first|refine M.go ?_|refine M.c2 (hf) ?_|refine M.c2 (hf1) ?_|refine M.c2 (hf2) ?_|refine M.gs ?_ ?_<;>intro h|refine M.z1 11 ?_|refine M.cs ?_ ?_<;>intro h|refine M.gk ?_|fail)
  all_goals first
   |rfl
   |(exfalso;apply hsm;simp at*;omega)
 obtain⟨hs1,hs2,hs3⟩:=hsm
 rw[decide_eq_true hs1] at hf1
 rw[decide_eq_true hs2] at hf2
 have fr:raw.full<1500:=by have:=br.2.2 (by omega);omega
 have ft:(tl.map Tm.full).sum<1500:=by have:=csum_full tl (by omega);omega
 have fg:(g.map Ty.size).sum≤600:=by have:=gsum_size g (by omega);omega
 have fs:s.size≤600:=by have:=bs.2.2 (by omega);omega
 have ftl:tl.length<1500:=by omega
 have hd:(s.cn 20000+gsum g>600)=False:=by simp;omega
 repeat'(first|refine M.go ?_|refine M.c2 (hf) ?_|refine M.c2 (hf1) ?_|refine M.c2 (hf2) ?_|refine M.z1 11 ?_|refine M.cs ?_ ?_<;>intro h|refine M.gk ?_|fail)
 all_goals first
  |(exfalso;simp at h;omega)
  |skip
 clear hf hf1 hf2 hks bs bg bt br e1 hd h hs1 hs2 hs3
 have hn:=new_c l
 have d0:=deck_ok hl
 have hcx:=context_c (Dk.mk l 0) d0
 have hog:=Dk.ctx_smalls (Dk.mk l 0)
 have hogl:=Dk.ctx_len (Dk.mk l 0)
 have d1:=Dk.ctx_ok d0
 generalize (Dk.mk l 0).ctx.1=og at*
 generalize (Dk.mk l 0).ctx.2=D1 at*
 have tu:=type1_c D1 d1
 have hu:=Dk.type1 D1
 have d2:=Dk.type_ok 1 D1 d1
 generalize (D1.type 1).1=u at*
 generalize (D1.type 1).2=D2 at*
 have tx:=term_c 5 (by omega) D2 og u 3 (by omega) d2 hog hu (by omega) (by omega) (by omega)
 have fx:=tm_full (n:=5) (by omega) D2 hog hu (by omega) (by omega)
 have d3:=Dk.tm_ok 5 D2 og u d2
 generalize (Dk.tm 5 D2 og u).1=x at*
 generalize (Dk.tm 5 D2 og u).2=D3 at*
 have tb:=bentTm_c D3 d3 x (by omega)
 obtain⟨fy,d4⟩:=bentT_ok D3 d3 x (by omega)
 generalize (bentT D3 x).1=y at*
 generalize (bentT D3 x).2=D4 at*
 have tv:=type_c 3 3 D4 (by omega) (by omega) (by omega) d4
 have hv:=Dk.type_small D4 3 (by omega)
 have ogs:=smalls_sum hog
 have hus:u.size<1000:=by have:=hu.2;omega
 have oz:∀z∈[raw,x,y],z.full≤130000:=by
  intro z hz
  simp only[List.mem_cons,List.not_mem_nil,or_false] at hz
  rcases hz with rfl|rfl|rfl<;>omega
 have oc:∀c∈[g,og,[]],(c.map Ty.size).sum<1000000:=by
  intro c hc
  simp only[List.mem_cons,List.not_mem_nil,or_false] at hc
  rcases hc with rfl|rfl|rfl
  ·omega
  ·omega
  ·simp
 have oq:∀c∈[tl,[x],[y,x],[]],(c.map Tm.full).sum<1000000∧c.length<10000:=by
  intro c hc
  simp only[List.mem_cons,List.not_mem_nil,or_false] at hc
  rcases hc with rfl|rfl|rfl|rfl
  ·omega
  ·simp;omega
  ·simp;omega
  ·simp
 repeat'(first|refine M.go ?_|refine M.cb (hn) [] 1 ?_|refine M.cb (hcx) [2] 0 ?_|refine M.cb (tu) [2] 0 ?_|refine M.cb (tx) [2] 0 ?_|refine M.cb (tb) [2] 0 ?_|refine M.z1 17 ?_|refine M.gk ?_|fail)
 refine AW.range 3 (fun m=>True)
  (fun m=>([(2,.s .ty g),(4,.s .tm tl),(8,.ptr 0 0),(14,.ptr 1 0),(15,.s .ty og),(16,.ptr 2 0),(17,.ptr 3 0),(18,.ptr 4 0),(92,.s .tm [raw,x,y]),(93,.i 3),(94,.i m)],⟨5,[(0,.var s.view),(1,.var D4.cells),(2,.var u.view),(3,.var x.view),(4,.var y.view)]⟩))
  (by omega) (fun m=>rfl) (fun m=>rfl) rfl trivial (M.W [some 1,some 2,some 3,some 4,some 5]) ?_ ?_
 ·intro m hm _
  have hzm:m<[raw,x,y].length:=hm
  have hzf:=oz [raw,x,y][m] (List.getElem_mem hzm)
  have c1:=size_c [raw,x,y][m] (by omega)
  have c2:=refSize_c [raw,x,y][m] (by omega)
  have c3:=check_c [raw,x,y][m] (by omega)
  have c4:=checkTmR_c [raw,x,y][m] (by omega)
  have c5:=sameTm3_c [raw,x,y][m] x (by omega)
  have c6:=sameTm_c _ [raw,x,y][m] x (Nat.le_refl _) (by omega)
  generalize hzz:[raw,x,y][m]=z at*
  repeat'(first|refine M.go ?_|refine M.z1 19 ?_|refine M.gk ?_|fail)
  simp only[hzz]
  repeat'(first|refine M.go ?_|refine M.c2 (c1) ?_|refine M.c2 (c2) ?_|refine M.c2 (c3) ?_|refine M.c2 (c4) ?_|refine M.c2 (c5) ?_|refine M.c2 (c6) ?_|refine M.gs ?_ ?_<;>intro h|refine M.z2 22 23 ?_|refine M.cs ?_ ?_<;>intro h|refine M.gk ?_|fail)
  all_goals first
   |(exfalso;simp at h;done)
   |skip
  clear c1 c2 c3 c4 c5 c6
  repeat'(first|refine M.go ?_|refine M.z1 24 ?_|fail)
  refine L.bs 23 rfl rfl rfl rfl rfl rfl rfl rfl rfl rfl ?_
  repeat'(first|refine M.gw ?_|fail)
  refine AW.cutT (ι:=Unit) (fun _=>([(2,.s .ty g),(4,.s .tm tl),(8,.ptr 0 0),(14,.ptr 1 0),(15,.s .ty og),(16,.ptr 2 0),(17,.ptr 3 0),(18,.ptr 4 0),(20,.ptr 5 0),(92,.s .tm [raw,x,y]),(93,.i 3),(94,.i m)],⟨6,[(0,.var s.view),(1,.var D4.cells),(2,.var u.view),(3,.var x.view),(4,.var y.view),(5,.var z.view)]⟩)) ?_ ?_
  ·refine AW.range 3 (fun m=>True)
    (fun m'=>([(2,.s .ty g),(4,.s .tm tl),(8,.ptr 0 0),(14,.ptr 1 0),(15,.s .ty og),(16,.ptr 2 0),(17,.ptr 3 0),(18,.ptr 4 0),(20,.ptr 5 0),(92,.s .tm [raw,x,y]),(93,.i 3),(94,.i m),(134,.s .tys [g,og,[]]),(135,.i 3),(136,.i m')],⟨6,[(0,.var s.view),(1,.var D4.cells),(2,.var u.view),(3,.var x.view),(4,.var y.view),(5,.var z.view)]⟩))
    (by omega) (fun m=>rfl) (fun m=>rfl) rfl trivial (M.W [some 0,some 1,some 2,some 3,some 4,some 5]) ?_ ?_
   ·intro m' hm' _
    have hcm:m'<[g,og,[]].length:=hm'
    have hcs:=oc [g,og,[]][m'] (List.getElem_mem hcm)
    have c1:=termsTypeOf_c [g,og,[]][m'] z (by omega) (by omega)
    have c2:=typeOf_c [g,og,[]][m'] z (by omega) (by omega)
    have c3:=sameTy_r (typeOf [g,og,[]][m'] z).1 (by have:=typeOf_small [g,og,[]][m'] z;omega)
    generalize hcc:[g,og,[]][m']=c at*
    repeat'(first|refine M.go ?_|refine M.z1 26 ?_|refine M.gk ?_|fail)
    simp only[hcc]
    repeat'(first|refine M.go ?_|refine M.c2 (c1) ?_|refine M.c2 (c2) ?_|refine M.c2 (c3) ?_|refine M.gs ?_ ?_<;>intro h|refine M.z1 29 ?_|refine M.gk ?_|fail)
    all_goals first
     |(exfalso;simp at h;done)
     |skip
    exact⟨rfl,trivial,(M.W [some 0,some 1,some 2,some 3,some 4,some 5])⟩
   ·intro _
    exact⟨(),(M.W [some 0,some 1,some 2,some 3,some 4,some 5])⟩
  intro _
  repeat'(first|refine M.go ?_|refine M.z1 32 ?_|fail)
  refine L.bs 26 rfl rfl rfl rfl rfl rfl rfl rfl rfl rfl ?_
  repeat'(first|refine M.gw ?_|fail)
  refine AW.range 4 (fun m=>True)
   (fun m'=>([(2,.s .ty g),(4,.s .tm tl),(8,.ptr 0 0),(14,.ptr 1 0),(15,.s .ty og),(16,.ptr 2 0),(17,.ptr 3 0),(18,.ptr 4 0),(20,.ptr 5 0),(92,.s .tm [raw,x,y]),(93,.i 3),(94,.i m),(168,.s .tms [tl,[x],[y,x],[]]),(169,.i 4),(170,.i m')],⟨6,[(0,.var s.view),(1,.var D4.cells),(2,.var u.view),(3,.var x.view),(4,.var y.view),(5,.var z.view)]⟩))
   (by omega) (fun m=>rfl) (fun m=>rfl) rfl trivial (M.W [some 0,some 1,some 2,some 3,some 4,some 5]) ?_ ?_
  ·intro m' hm' _
   have hcm:m'<[tl,[x],[y,x],[]].length:=hm'
   obtain⟨hcs,hcl⟩:=oq [tl,[x],[y,x],[]][m'] (List.getElem_mem hcm)
   have c1:=termsApply_c z [tl,[x],[y,x],[]][m'] (by omega) (by omega) (by omega)
   have c2:=refApply_c z [tl,[x],[y,x],[]][m'] (by omega) (by omega) (by omega)
   have c3:=sameTm_r (applyS z [tl,[x],[y,x],[]][m']) (by
    have h1:=appT_full z [tl,[x],[y,x],[]][m']
    have h2:=sum_two [tl,[x],[y,x],[]][m']
    unfold applyS
    split
    ·omega
    ·decide)
   generalize hcc:[tl,[x],[y,x],[]][m']=c at*
   repeat'(first|refine M.go ?_|refine M.z1 34 ?_|refine M.gk ?_|fail)
   simp only[hcc]
   repeat'(first|refine M.go ?_|refine M.c2 (c1) ?_|refine M.c2 (c2) ?_|refine M.c2 (c3) ?_|refine M.gs ?_ ?_<;>intro h|refine M.z1 37 ?_|refine M.gk ?_|fail)
   all_goals first
    |(exfalso;simp at h;done)
    |skip
   exact⟨rfl,trivial,(M.W [some 0,some 1,some 2,some 3,some 4,some 5])⟩
  ·intro _
   repeat'(first|with_reducible refine K.bN ?_)
   exact⟨rfl,trivial,(M.W [some 0,some 1,some 2,some 3,some 4])⟩
 ·intro _
  have tv:=tv
  repeat'(first|refine M.go ?_|refine M.cb (tv) [1] 0 ?_|refine M.z1 41 ?_|refine M.gk ?_|fail)
  refine AW.range 3 (fun m=>True)
   (fun m'=>([(201,.s .ty [s,u,(D4.type (3:Int).toNat).1]),(202,.i 3),(203,.i m')],⟨0,[]⟩))
   (by omega) (fun m=>rfl) (fun m=>rfl) rfl trivial (M.W []) ?_ ?_
  ·intro m' hm' _
   have hcm:m'<[s,u,(D4.type (3:Int).toNat).1].length:=hm'
   have hcs:[s,u,(D4.type (3:Int).toNat).1][m'].size<1099511627776:=by
    have:∀c∈[s,u,(D4.type (3:Int).toNat).1],c.size<1099511627776:=by
     intro c hc
     simp only[List.mem_cons,List.not_mem_nil,or_false] at hc
     rcases hc with rfl|rfl|rfl<;>omega
    exact this _ (List.getElem_mem hcm)
   have c1:=termsDefault_c [s,u,(D4.type (3:Int).toNat).1][m'] hcs
   have c2:=refDefault_c [s,u,(D4.type (3:Int).toNat).1][m'] hcs
   have c3:=sameTm_r (dflS [s,u,(D4.type (3:Int).toNat).1][m']) (by
    unfold dflS
    split
    ·rename_i h0
     have h1:=(Ty.err_iff _).1 h0
     have:=dfl_full h1.1 h1.2
     omega
    ·decide)
   generalize hcc:[s,u,(D4.type (3:Int).toNat).1][m']=c at*
   repeat'(first|refine M.go ?_|refine M.z1 43 ?_|refine M.gk ?_|fail)
   simp only[hcc]
   repeat'(first|refine M.go ?_|refine M.c2 (c1) ?_|refine M.c2 (c2) ?_|refine M.c2 (c3) ?_|refine M.gs ?_ ?_<;>intro h|refine M.z1 46 ?_|refine M.gk ?_|fail)
   all_goals first
    |(exfalso;simp at h;done)
    |skip
   exact⟨rfl,trivial,(M.W [])⟩
  ·intro _
   repeat'(first|refine M.gw ?_|fail)
   rfl
end Go.Ab
