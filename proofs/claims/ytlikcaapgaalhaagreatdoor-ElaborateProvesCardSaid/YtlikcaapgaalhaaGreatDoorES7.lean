/- A part of this seat's proofs. No conditions. -/
import Derived.Test.YtlikcaapgaalhaaGreatDoorES6
namespace Go.Ab
open Go Go.Proofs
set_option maxRecDepth 100000
set_option maxHeartbeats 4000000
set_option linter.all false
theorem rinF_c(at_:Int)(s:Tm)(hat:0≤at_∧at_<137438953472)(hs:s.shape=true)(hsf:s.full<137438953472)(hsi:∀p∈s.vars 0,0≤p.1∧p.1<274877906944):∀(n:Nat) (f:Fm) (dp:Int),f.full≤n→n<137438953472→0≤dp→dp+n<274877906944→f.shape=true→(∀p∈f.tms 0,∀q∈p.1.vars 0,0≤q.1∧q.1<274877906944)→
 PC E 69 [.agg f.view,.i at_,.i dp,.agg s.view] (.agg (f.re (fun b t=>t.re (putG at_ s) b) dp).view):=by
 intro n
 induction n with
 |zero=>intro f dp h;have:=f.full_pos;omega
 |succ n ih=>
 intro f dp hsz hn h1 h2 hf hix
 have hsz':=f.full_eq
 have hlen:=lsum_len Fm.full Fm.full_pos f.args
 have hlen2:=lsum_len Tm.full Tm.full_pos f.terms
 have hup:=upF_le f.kind dp
 have hpl:=upF_plus f.kind dp
 have hb:=rfbelow_c f
 have he:=Fm.re_eq (fun b t=>t.re (putG at_ s) b) dp f
 have htm:=f.tms_eq 0
 refine M.F Tryz.func69 ?_
 refine M.w0 ?_
 refine M.rt f.terms.length (fun m=>([(1,.i at_),(2,.i dp),(4,.ptr 0 0),(7,.ptr 1 0),(8,.ptr 2 0),(9,.ptr 3 0),(20,.s .tm f.terms),(21,.i f.terms.length),(22,.i m)],⟨5,[(0,.var f.view),(1,.var s.view),(2,.var [.i 0,.i 0,.slice .nil (.t .ty []),.slice .nil (.t .tm []),.slice .nil (.t .fm [])]),(3,.var [.i f.kind,.i f.ty.kind,.s .ty f.ty.args,.slice (.own 4) (.t .tm ((f.terms.take m).map fun t=>t.re (putG at_ s) dp)),.slice .nil (.t .fm [])]),(4,.row)]⟩))
  (M.W rn4) ?_ ?_
 ·intro m hm _
  have hs2:=lsum_mem Tm.full (List.getElem_mem hm)
  have hc:=rin_c at_ s hat hs hsf hsi _ f.terms[m] dp (Nat.le_refl _) (by omega) (by omega) (by omega) (fshape_terms hf (List.getElem_mem hm)) (fun p hp=>hix (f.terms[m],0) (by rw[htm];exact List.mem_append_left _ (List.mem_map.2 ⟨_,List.getElem_mem hm,rfl⟩)) p hp)
  refine M.w1 @hc ?_
  exact⟨rfl,trivial,(M.W [some 0,some 1,some 2,some 3,some 6] (he:=(by(repeat'(first|exact trivial|exact Or.inr ⟨_,U,rfl⟩|refine And.intro ?_ ?_|refine⟨_,U,_,U,_,U,?_⟩|exact VLe.refl _|exact VLe.of_eq (by simp[Sto.upd,map_take _ _ _ hm])));done)))⟩
 ·intro _
  simp only[List.take_length]
  refine M.w0 ?_
  refine M.rt f.args.length (fun m=>([(1,.i at_),(2,.i dp),(4,.ptr 0 0),(7,.ptr 1 0),(8,.ptr 2 0),(9,.ptr 3 0),(38,.s .fm f.args),(39,.i f.args.length),(40,.i m)],⟨6,[(0,.var f.view),(1,.var s.view),(2,.var [.i 0,.i 0,.slice .nil (.t .ty []),.slice .nil (.t .tm []),.slice .nil (.t .fm [])]),(3,.var [.i f.kind,.i f.ty.kind,.s .ty f.ty.args,.slice (.own 4) (.t .tm (f.terms.map fun t=>t.re (putG at_ s) dp)),.slice (.own 5) (.t .fm ((f.args.take m).map fun x=>x.re (fun b t=>t.re (putG at_ s) b) (upF f.kind dp)))]),(4,.row),(5,.row)]⟩))
   (M.W rn5) ?_ ?_
  ·intro m hm _
   have hs2:=lsum_mem Fm.full (List.getElem_mem hm)
   have hc:=ih f.args[m] (upF f.kind dp) (by omega) (by omega) (by omega) (by omega) (fshape_args hf (List.getElem_mem hm)) (fun p hp q hq=>by
    obtain⟨p',hp',hpe⟩:=tms_idx (b':=upF f.kind 0) p hp
    rw[←hpe] at hq
    exact hix p' (by rw[htm];exact List.mem_append_right _ (List.mem_flatMap.2 ⟨_,List.getElem_mem hm,hp'⟩)) q hq)
   rw[←hpl] at hc
   simp only[←hpl]
   refine M.w2 @hb @hc ?_
   exact⟨rfl,trivial,(M.W [some 0,some 1,some 2,some 3,some 4,some 7] (he:=(by(repeat'(first|exact trivial|exact Or.inr ⟨_,U,rfl⟩|refine And.intro ?_ ?_|refine⟨_,U,_,U,_,U,?_⟩|exact VLe.refl _|exact VLe.of_eq (by simp[Sto.upd,map_take _ _ _ hm])));done)))⟩
  ·intro _
   simp only[List.take_length]
   refine M.w0 ?_
   rw[he]
   rfl
theorem fputR_c(f:Fm)(at_:Int)(s:Tm)(hf:f.full<549755813888)(hs:s.full<549755813888):PC E 39 [.agg f.view,.i at_,.agg s.view] (.tup [.agg (if putFErr f at_ s=0 then f.put at_ s else noFm).view,.i (putFErr f at_ s)]):=by
 have h1:=fcheckR_c f hf
 have h2:=checkTmR_c s (by omega)
 by_cases he:f.err=0
 case neg=>
  have e:putFErr f at_ s=f.err:=by simp only[putFErr];rw[if_pos he]
  rw[e,if_neg he]
  refine M.F Tryz.func39 ?_
  repeat'(first|refine M.o1 @h1 ?_|refine M.z1 4 ?_|refine M.cs ?_ ?_<;>intro h|refine M.gk ?_|fail)
  all_goals first
   |rfl
   |(exfalso;simp at h;exact he h)
 rw[he] at h1
 by_cases ha:0≤at_∧at_≤4096
 case neg=>
  have e:putFErr f at_ s=1:=by simp only[putFErr];rw[if_neg (by simp[he]),if_pos ha]
  rw[e,if_neg (by decide)]
  refine M.F Tryz.func39 ?_
  repeat'(first|refine M.o1 @h1 ?_|refine M.gs ?_ ?_<;>intro h|refine M.z1 6 ?_|refine M.cs ?_ ?_<;>intro h|refine M.gk ?_|fail)
  all_goals first
   |rfl
   |(exfalso;simp at h;omega)
   |(exfalso;simp at*;omega)
 by_cases hse:s.err=0
 case neg=>
  have e:putFErr f at_ s=s.err:=by simp only[putFErr];rw[if_neg (by simp[he]),if_neg (by simp;omega),if_pos hse]
  rw[e,if_neg hse]
  refine M.F Tryz.func39 ?_
  repeat'(first|refine M.o2 @h1 @h2 ?_|refine M.gs ?_ ?_<;>intro h|refine M.z2 5 9 ?_|refine M.cs ?_ ?_<;>intro h|refine M.gk ?_|fail)
  all_goals first
   |rfl
   |(exfalso;simp at h;omega)
   |(exfalso;simp at*;omega)
   |(exfalso;simp at h;exact hse h)
 rw[hse] at h2
 obtain⟨hfs,hfz⟩:=(Fm.err_iff f).1 he
 obtain⟨hss,hsz⟩:=err_zero hse
 have hff:=ferr_full he
 have hsf:=terr_full hse
 have h3:=rleastF_c 536870912 (by omega) _ f (Nat.le_refl _) (by omega) hfs
 have h4:=rleast_c 536870912 (by omega) _ s (Nat.le_refl _) (by omega) hss
 rw[←nearF_least] at h3
 rw[←near_least] at h4
 by_cases hn:f.near=true∧s.near=true
 case neg=>
  have hn':f.near=false∨s.near=false:=by
   cases h5:f.near with
   |false=>exact .inl rfl
   |true=>cases h6:s.near with
    |false=>exact .inr rfl
    |true=>exact absurd ⟨h5,h6⟩ hn
  have e:putFErr f at_ s=1:=by simp only[putFErr];rw[if_neg (by simp[he]),if_neg (by simp;omega),if_neg (by simp[hse]),if_pos hn']
  rw[e,if_neg (by decide)]
  cases h5:f.near with
  |false=>
   rw[h5] at h3
   refine M.F Tryz.func39 ?_
   repeat'(first|refine M.o3 @h1 @h2 @h3 ?_|refine M.gs ?_ ?_<;>intro h|refine M.z1 5 ?_|refine M.cs ?_ ?_<;>intro h|refine M.gk ?_|fail)
   all_goals first
    |rfl
    |(exfalso;simp at h;omega)
    |(exfalso;simp at*;omega)
  |true=>
   have h6:s.near=false:=hn'.resolve_left (by simp[h5])
   rw[h5] at h3
   rw[h6] at h4
   refine M.F Tryz.func39 ?_
   repeat'(first|refine M.o4 @h1 @h2 @h3 @h4 ?_|refine M.gs ?_ ?_<;>intro h|refine M.z1 5 ?_|refine M.cs ?_ ?_<;>intro h|refine M.gk ?_|fail)
   all_goals first
    |rfl
    |(exfalso;simp at h;omega)
    |(exfalso;simp at*;omega)
 obtain⟨hn1,hn2⟩:=hn
 rw[hn1] at h3
 rw[hn2] at h4
 have h5:=fcountR_c _ f (Nat.le_refl _) (by omega)
 have h6:=rtimesF_c _ f at_ (Nat.le_refl _) (by omega) (by omega) (by omega) hfs
 have h7:=countTm_c _ s (Nat.le_refl _) (by omega)
 have htl:=timesF_le at_ f
 have hsp:=s.size_pos
 have hsl:=s.size_le_full
 have hfl:=f.size_le_full
 have hm:=mul_bd (timesF at_ f) (s.size-1) (by omega) (by omega)
 have hm': -9223372036854775808≤(timesF at_ f:Int)*(s.size-1)∧(timesF at_ f:Int)*(s.size-1)≤9223372036854775807:=by omega
 have ee:putFErr f at_ s=if(f.size:Int)+timesF at_ f*(s.size-1)>4096 then 4 else 0:=by
  simp only[putFErr,timesF]
  rw[if_neg (by simp[he]),if_neg (by simp;omega),if_neg (by simp[hse]),if_neg (by simp[hn1,hn2])]
  rfl
 have hput:f.put at_ s=f.re (fun b t=>t.re (putG at_ s) b) 0:=fput_eq at_ s 0 f
 have h8:=rinF_c at_ s (by omega) hss (by omega) (fun p hp=>⟨s.vars_nonneg hss 0 p hp,by have:=near_all hn2 p hp;omega⟩) _ f 0 (Nat.le_refl _) (by omega) (by omega) (by omega) hfs (fun p hp q hq=>by have:=nearF_lt he hn1 p hp q hq;have h9:=List.all_eq_true.1 hn1 p hp;have:=near_all h9 q hq;omega)
 rw[←hput] at h8
 by_cases hz:(f.size:Int)+timesF at_ f*(s.size-1)>4096
 ·rw [if_pos hz] at ee
  rw[ee,if_neg (by decide)]
  clear h8 hput
  refine M.F Tryz.func39 ?_
  repeat'(first|refine M.o6 @h1 @h2 @h3 @h4 @h5 @h6 ?_|refine M.c2 (h7) ?_|refine M.gs ?_ ?_<;>intro h|refine M.z2 5 13 ?_|refine M.cs ?_ ?_<;>intro h|refine M.gk ?_|fail)
  all_goals first
   |rfl
   |(exfalso;simp at h;omega)
   |(exfalso;simp at*;omega)
 ·rw [if_neg hz] at ee
  have h9:=copyFm_c _ (f.put at_ s) (Nat.le_refl _) (by have:=putF_bd ee;omega)
  rw[ee,if_pos rfl]
  refine M.F Tryz.func39 ?_
  repeat'(first|refine M.o6 @h1 @h2 @h3 @h4 @h5 @h6 ?_|refine M.c2 (h7) ?_|refine M.c2 (h8) ?_|refine M.c2 (h9) ?_|refine M.gs ?_ ?_<;>intro h|refine M.z2 5 12 ?_|refine M.cs ?_ ?_<;>intro h|refine M.gk ?_|fail)
  all_goals first
   |rfl
   |(exfalso;simp at h;omega)
   |(exfalso;simp at*;omega)
theorem fill_c(p:Fm)(l:List Tm)(hp:p.full<137438953472)(hlen:l.length<1099511627776)(hl:∀t∈l,t.full<137438953472):PC E 44 [.agg p.view,.s .tm l] (.tup [.agg (fill p l).1.view,.i (fill p l).2]):=by
 have h1:=fcheck_c p (by omega)
 have h2:=ownFm_c p (by omega)
 refine M.F Tryz.func44 ?_
 repeat'(first|refine M.w2 @h1 @h2 ?_|refine M.cs ?_ ?_<;>intro h|fail)
 ·have e:p.err≠0:=by simpa using h
  have e2:fill p l=(noFm,p.err):=by simp only[fill];rw[if_pos e]
  rw[e2]
  simp[tupV,V.wk,V.wks,constV,Ty.view,Fm.view,noFm]
 ·rename_i h0
  have e:¬p.err≠0:=by simpa using h0
  have e1:16<l.length:=by simp at h;omega
  have e2:fill p l=(noFm,1):=by simp only[fill];rw[if_neg e,if_pos e1]
  rw[e2]
  simp[tupV,V.wk,V.wks,constV,Ty.view,Fm.view,noFm]
 rename_i h0
 have e:¬p.err≠0:=by simpa using h0
 have e0:p.err=0:=Classical.not_not.1 e
 have e1:¬16<l.length:=by simp at h;omega
 have e2:fill p l=fillF l.length l 0 p:=by simp only[fill];rw[if_neg e,if_neg e1]
 have hpf:=ferr_full e0
 refine M.rp l.length (fun m=>(fillF l.length (l.take m) 0 p).2=0)
  (fun m=>([(1,.s .tm l),(4,.ptr 1 0),(7,.ptr 2 0),(24,.s .tm l),(25,.i l.length),(26,.i m)],⟨3,[(0,.var p.view),(1,.var [.i 0,.i 0,.slice .nil (.t .ty []),.slice .nil (.t .tm []),.slice .nil (.t .fm [])]),(2,.var (fillF l.length (l.take m) 0 p).1.view)]⟩))
  rfl (M.W rh3) ?_ ?_
 ·intro m hm hP
  have hb:=fillF_bd l.length (l.take m) 0 p (by omega)
  have hg:=fillF_go l.length l[m] [] (l.take m) 0 p hP
  have hg2:=fillF_go l.length l[m] (l.drop (m+1)) (l.take m) 0 p hP
  rw[←take_drop_at l m hm] at hg2
  have hml:((0:Int)+(l.take m).length)=m:=by simp;omega
  rw[hml] at hg hg2
  rw[List.take_append_getElem hm] at hg
  simp only[fillF] at hg hg2
  have hc:=substLift_c l[m] 0 (l.length-1-m) (by have:=hl l[m] (List.getElem_mem hm);omega)
  by_cases hl0:liftErr l[m] 0 (l.length-1-m)=0
  ·have hc2:=fput_c (fillF l.length (l.take m) 0 p).1 0 (l[m].re (liftG 0 (l.length-1-m)) 0) (by omega) (by
    have h3:l[m].err=0:=by
     by_cases h4:l[m].err=0
     ·exact h4
     ·simp only[liftErr] at hl0;rw[if_pos h4] at hl0;exact absurd hl0 h4
    rw[lift_full _ _ _ _ (err_zero h3).1]
    have:=hl l[m] (List.getElem_mem hm)
    omega)
   rw[if_pos hl0] at hc
   rw[if_neg (by simpa using hl0)] at hg hg2
   by_cases hp0:putFErr (fillF l.length (l.take m) 0 p).1 0 (l[m].re (liftG 0 (l.length-1-m)) 0)=0
   ·rw [if_pos hp0] at hc2
    rw[if_neg (by simpa using hp0)] at hg hg2
    rw[hl0] at hc
    rw[hp0] at hc2
    refine M.w2 @hc @hc2 ?_
    exact⟨rfl,by simp only[hg],(M.W rh3 (he:=(by(repeat'(first|exact trivial|refine And.intro ?_ ?_|refine⟨_,U,_,U,_,U,?_⟩|exact VLe.refl _|exact VLe.of_eq (by simp[Sto.upd,hg])));done)))⟩
   ·rw [if_neg hp0] at hc2
    rw[if_pos (by simpa using hp0)] at hg hg2
    rw[hl0] at hc
    rw[e2,hg2]
    repeat'(first|refine M.w2 @hc @hc2 ?_|refine M.cs ?_ ?_<;>intro h|fail)
    ·simp [tupV,V.wk,V.wks,constV,Ty.view,Fm.view,noFm]
    ·exfalso;simp[hp0] at h
  ·rw [if_neg hl0] at hc
   rw[if_pos (by simpa using hl0)] at hg hg2
   rw[e2,hg2]
   repeat'(first|refine M.w1 @hc ?_|refine M.cs ?_ ?_<;>intro h|fail)
   ·simp [tupV,V.wk,V.wks,constV,Ty.view,Fm.view,noFm]
   ·exfalso;simp[hl0] at h
 ·intro hP
  rw[List.take_of_length_le (Nat.le_refl _)] at hP
  rw[List.take_of_length_le (Nat.le_refl _)]
  rw[e2,hP]
  refine M.w0 ?_
  rfl
theorem fillR_c(p:Fm)(l:List Tm)(hp:p.full<274877906944)(hl:l.length≤16→∀t∈l,t.full<137438953472):PC E 15 [.agg p.view,.s .tm l] (.tup [.agg (fill p l).1.view,.i (fill p l).2]):=by
 have h1:=fcheckR_c p (by omega)
 have h2:=copyFm_c _ p (Nat.le_refl _) (by omega)
 by_cases he:p.err=0
 case neg=>
  have e2:fill p l=(noFm,p.err):=by simp only[fill];rw[if_pos he]
  rw[e2]
  refine M.F Tryz.func15 ?_
  repeat'(first|refine M.o1 @h1 ?_|refine M.z1 4 ?_|refine M.cs ?_ ?_<;>intro h|refine M.gk ?_|fail)
  all_goals first
   |rfl
   |(exfalso;simp at h;exact he h)
 rw[he] at h1
 by_cases hl16:16<l.length
 ·have e2:fill p l=(noFm,1):=by simp only[fill];rw[if_neg (by simp[he]),if_pos hl16]
  rw[e2]
  refine M.F Tryz.func15 ?_
  repeat'(first|refine M.o1 @h1 ?_|refine M.z1 6 ?_|refine M.cs ?_ ?_<;>intro h|refine M.gk ?_|fail)
  all_goals first
   |rfl
   |(exfalso;simp at h;omega)
 have hl:=hl (by omega)
 have e2:fill p l=fillF l.length l 0 p:=by simp only[fill];rw[if_neg (by simp[he]),if_neg hl16]
 have hpf:=ferr_full he
 refine M.F Tryz.func15 ?_
 repeat'(first|refine M.o2 @h1 @h2 ?_|refine M.z1 5 ?_|refine M.cs ?_ ?_<;>intro h|refine M.gk ?_|fail)
 all_goals first
  |(exfalso;simp at h;omega)
  |skip
 refine M.rp l.length (fun m=>(fillF l.length (l.take m) 0 p).2=0)
  (fun m=>([(1,.s .tm l),(2,.ptr 0 0),(4,.ptr 1 0),(23,.s .tm l),(24,.i l.length),(25,.i m)],⟨2,[(0,.var (fillF l.length (l.take m) 0 p).1.view),(1,.var [.i 0,.i 0,.slice .nil (.t .ty []),.slice .nil (.t .tm []),.slice .nil (.t .fm [])])]⟩))
  rfl (M.W rh2) ?_ ?_
 ·intro m hm hP
  have hb:=fillF_bd l.length (l.take m) 0 p (by omega)
  have hg:=fillF_go l.length l[m] [] (l.take m) 0 p hP
  have hg2:=fillF_go l.length l[m] (l.drop (m+1)) (l.take m) 0 p hP
  rw[←take_drop_at l m hm] at hg2
  have hml:((0:Int)+(l.take m).length)=m:=by simp;omega
  rw[hml] at hg hg2
  rw[List.take_append_getElem hm] at hg
  simp only[fillF] at hg hg2
  have hc:=rlift_c l[m] 0 (l.length-1-m) (by have:=hl l[m] (List.getElem_mem hm);omega)
  by_cases hl0:liftErr l[m] 0 (l.length-1-m)=0
  ·have hc2:=fputR_c (fillF l.length (l.take m) 0 p).1 0 (l[m].re (liftG 0 (l.length-1-m)) 0) (by omega) (by
    have h3:l[m].err=0:=by
     by_cases h4:l[m].err=0
     ·exact h4
     ·simp only[liftErr] at hl0;rw[if_pos h4] at hl0;exact absurd hl0 h4
    rw[lift_full _ _ _ _ (err_zero h3).1]
    have:=hl l[m] (List.getElem_mem hm)
    omega)
   rw[if_pos hl0] at hc
   rw[if_neg (by simpa using hl0)] at hg hg2
   by_cases hp0:putFErr (fillF l.length (l.take m) 0 p).1 0 (l[m].re (liftG 0 (l.length-1-m)) 0)=0
   ·rw [if_pos hp0] at hc2
    rw[if_neg (by simpa using hp0)] at hg hg2
    rw[hl0] at hc
    rw[hp0] at hc2
    refine M.w2 @hc @hc2 ?_
    exact⟨rfl,by simp only[hg],(M.W rh2 (he:=(by(repeat'(first|exact trivial|refine And.intro ?_ ?_|refine⟨_,U,_,U,_,U,?_⟩|exact VLe.refl _|exact VLe.of_eq (by simp[Sto.upd,hg])));done)))⟩
   ·rw [if_neg hp0] at hc2
    rw[if_pos (by simpa using hp0)] at hg hg2
    rw[hl0] at hc
    rw[e2,hg2]
    repeat'(first|refine M.w2 @hc @hc2 ?_|refine M.cs ?_ ?_<;>intro h|fail)
    ·simp [tupV,V.wk,V.wks,constV,Ty.view,Fm.view,noFm]
    ·exfalso;simp[hp0] at h
  ·rw [if_neg hl0] at hc
   rw[if_pos (by simpa using hl0)] at hg hg2
   rw[e2,hg2]
   repeat'(first|refine M.o1 @hc ?_|refine M.z1 13 ?_|refine M.cs ?_ ?_<;>intro h|refine M.gk ?_|fail)
   ·simp [tupV,V.wk,V.wks,constV,Ty.view,Fm.view,noFm]
   ·exfalso;simp[hl0] at h
 ·intro hP
  rw[List.take_of_length_le (Nat.le_refl _)] at hP
  rw[List.take_of_length_le (Nat.le_refl _)]
  rw[e2,hP]
  refine M.w0 ?_
  rfl
theorem keyAt_look:∀{m:FMap} {k:Int},(keyAt k (m.map (·.1))=none→lookT m k=none)∧∀i,keyAt k (m.map (·.1))=some i→lookT m k=(m.map (·.2))[i]?
 |[],k=>⟨fun _=>rfl,fun i h=>by cases h⟩
 |p::m,k=>by
  obtain⟨h1,h2⟩:=keyAt_look (m:=m) (k:=k)
  simp only[List.map_cons,keyAt,lookT]
  by_cases hp:p.1=k
  ·rw [if_pos hp,if_pos hp]
   exact⟨fun h=>by(exact absurd h (by simp)),fun i h=>by cases h;rfl⟩
  ·rw [if_neg hp,if_neg hp]
   refine⟨fun h=>h1 (by simpa using h),fun i h=> ?_⟩
   rw[Option.map_eq_some_iff] at h
   obtain⟨j,h3,rfl⟩:=h
   rw[h2 j h3,List.getElem?_cons_succ]
theorem outs_succ(m:FMap)(n:Nat):outs m (n+1)=outs m n++[(lookT m n).getD zeroT]:=by simp[outs,List.range_succ]
theorem outs_len(m:FMap)(n:Nat):(outs m n).length=n:=by simp[outs]
theorem fill_bd{p:Fm}{l:List Tm}:(fill p l).1.full≤1200000000:=by
 simp only[fill]
 split
 ·simp [noFm,Fm.full,Fm.fulls,Ty.size,Ty.sizes]
 ·split
  ·simp [noFm,Fm.full,Fm.fulls,Ty.size,Ty.sizes]
  ·rename_i h1 _
   have:=ferr_full (Classical.not_not.1 h1)
   exact fillF_bd _ _ _ _ (by omega)
theorem match_c(p f:Fm)(ho:Int)(hp:p.full<68719476736)(hf:f.full<68719476736):PC E 21 [.agg p.view,.i ho,.agg f.view] (.tup [.s .tm (matchF p ho f).1,.i (matchF p ho f).2]):=by
 have h1:=fcheck_c p (by omega)
 have h2:=fcheck_c f (by omega)
 have h3:=enear_c p (by omega)
 have h4:=enear_c f (by omega)
 by_cases e1:p.err=0
 rotate_left
 ·have e:matchF p ho f=([],p.err):=by simp only[matchF];rw[if_pos e1]
  rw[e]
  refine M.F Tryz.func21 ?_
  repeat'(first|refine M.o1 @h1 ?_|refine M.z1 4 ?_|refine M.cs ?_ ?_<;>intro h|refine M.gk ?_|fail)
  ·rfl
  ·exfalso;simp[e1] at h
 by_cases e2:f.err=0
 rotate_left
 ·have e:matchF p ho f=([],f.err):=by simp only[matchF];rw[if_neg (by simpa using e1),if_pos e2]
  rw[e1] at h1
  rw[e]
  refine M.F Tryz.func21 ?_
  repeat'(first|refine M.o2 @h1 @h2 ?_|refine M.z1 7 ?_|refine M.cs ?_ ?_<;>intro h|refine M.gk ?_|fail)
  ·rfl
  ·exfalso;simp[e2] at h
 rw[e1] at h1
 rw[e2] at h2
 have hpf:=ferr_full e1
 have hff:=ferr_full e2
 have hps:=((Fm.err_iff p).1 e1).1
 have hfs:=((Fm.err_iff f).1 e2).1
 by_cases e3:0≤ho∧ho≤16∧p.nearE=true∧f.nearE=true
 rotate_left
 ·have e:matchF p ho f=([],1):=by
   simp only[matchF];rw[if_neg (by simpa using e1),if_neg (by simpa using e2),if_pos]
   cases hn1:p.nearE with
   |false=>exact .inr (.inl rfl)
   |true=>
    cases hn2:f.nearE with
    |false=>exact .inr (.inr rfl)
    |true=>exact .inl fun hc=>e3 ⟨hc.1,hc.2,hn1,hn2⟩
  rw[e]
  refine M.F Tryz.func21 ?_
  repeat'(first|refine M.o4 @h1 @h2 @h3 @h4 ?_|refine M.gs ?_ ?_<;>intro h|refine M.z1 9 ?_|refine M.cs ?_ ?_<;>intro h|refine M.gk ?_|fail)
  all_goals first
   |rfl
   |(exfalso;apply e3;simp at*;omega)
   |(exfalso;apply e3;simp_all;done)
   |(exfalso;apply e3;simp_all;omega)
 obtain⟨e3,e4,e5,e6⟩:=e3
 rw[e5] at h3
 rw[e6] at h4
 have h5:=formM_c ho (by omega) _ p f [] 0 (Nat.le_refl _) (by omega) (by omega) (by omega) hps hfs hf e5 e6
 simp only[List.map_nil] at h5
 have hob:=outs_bd (p:=p) (h:=ho) e2 e6
 have em:matchF p ho f=if(mF ho 0 p f []).1=false then([],11)
  else if(fill p (outs (mF ho 0 p f []).2 ho.toNat)).2≠0∨(fill p (outs (mF ho 0 p f []).2 ho.toNat)).1≠f then([],11)
  else if((mF ho 0 p f []).2.length:Int)<ho then([],13) else(outs (mF ho 0 p f []).2 ho.toNat,0):=by
  simp only[matchF]
  rw[if_neg (by simpa using e1),if_neg (by simpa using e2),if_neg]
  rintro(hc|hc|hc)
  ·exact hc ⟨e3,e4⟩
  ·rw [e5] at hc;cases hc
  ·rw [e6] at hc;cases hc
 have hnew:=mF_new ho 266240 p 0 f [] hfs e6 hff
 generalize mF ho 0 p f []=r at*
 obtain⟨ok,m⟩:=r
 have h6:=tof_c 4 []
 have hhn:(ho.toNat:Int)=ho:=by omega
 refine M.F Tryz.func21 ?_
 repeat'(first|refine M.w4 @h1 @h2 @h3 @h4 ?_|refine M.cb (h5) [3,2] 0 ?_|refine M.gs ?_ ?_<;>intro h|refine M.cs ?_ ?_<;>intro h|fail)
 ·exfalso;simp at h;omega
 ·exfalso;simp at h;omega
 ·have hok:ok=false:=by simpa using h
  rw[em]
  simp only[hok,if_true]
  rfl
 have hok:ok=true:=by simpa using h
 simp only[hok,if_false,Bool.true_eq_false] at em
 refine AW.range ho.toNat (fun m=>True)
  (fun k=>([(1,.i ho),(3,.ptr 0 0),(5,.ptr 1 0),(10,.ptr 3 0),(11,.slice (.own 4) (.t .tm (outs m k))),(52,.i ho),(53,.i k)],⟨5,[(0,.var p.view),(1,.var f.view),(2,.map .tm (m.map (·.1)) (m.map (·.2))),(3,.var [.i ho,.mp 2]),(4,.row)]⟩))
  (by omega) (fun m=>rfl) (fun m=>by rw[←hhn];rfl) rfl trivial (M.W rn4) ?_ ?_
 ·intro k hk _
  have hlen:=outs_len m k
  have hs:=outs_succ m k
  have hkl:=keyAt_look (m:=m) (k:=(k:Int))
  have hbk:=hob (k:Int)
  cases hka:keyAt (k:Int) (m.map (·.1)) with
  |none=>
   rw[hkl.1 hka] at hs hbk
   have hc:=ownTm_c _ zeroT (Nat.le_refl _) (by decide)
   refine M.w2 @h6 @hc ?_
   exact⟨rfl,trivial,(M.W [some 0,some 1,some 2,some 3,some 6] (hf:=(by(repeat'(first|exact trivial|refine And.intro ?_ ?_|refine⟨_,U,_,U,?_⟩|exact VLe.refl _|exact VLe.of_eq (by simp[Sto.upd,hs,zeroT])));done)))⟩
  |some i=>
   have hil:i<m.length:=by have:=(keyAt_some hka).2;simpa using this
   have hc0:(m.map (·.2))[i]? =some (m[i]).2:=by rw[List.getElem?_map,List.getElem?_eq_getElem hil];rfl
   have h7:=hkl.2 i hka
   rw[hc0] at h7
   rw[h7] at hs hbk
   simp only[Option.getD_some] at hs hbk
   have hc:=ownTm_c _ (m[i]).2 (Nat.le_refl _) (by omega)
   refine M.w1 @hc ?_
   exact⟨rfl,trivial,(M.W [some 0,some 1,some 2,some 3,some 6] (hf:=(by(repeat'(first|exact trivial|refine And.intro ?_ ?_|refine⟨_,U,_,U,?_⟩|exact VLe.refl _|exact VLe.of_eq (by simp[Sto.upd,hs])));done)))⟩
 ·intro _
  have h8:=fill_c p (outs m ho.toNat) (by omega) (by rw[outs_len];omega) (fun t ht=>by
   obtain⟨j,hj,rfl⟩:=List.mem_map.1 ht
   have:=hob (j:Int)
   simp only at this;omega)
  have h9:=fsame_c (fill p (outs m ho.toNat)).1 f (by have:=fill_bd (p:=p) (l:=outs m ho.toNat);omega)
  have hml:(m.map (·.2)).length=m.length:=List.length_map ..
  repeat'(first|refine M.w2 @h8 @h9 ?_|refine M.gs ?_ ?_<;>intro h|refine M.cs ?_ ?_<;>intro h|fail)
  ·have hx:(fill p (outs m ho.toNat)).2≠0:=by simpa using h
   rw[em,if_pos (.inl hx)]
   rfl
  ·have hx:(fill p (outs m ho.toNat)).1≠f:=by simpa using h
   rw[em,if_pos (.inr hx)]
   rfl
  ·rename_i h10 h11
   have hx:¬(fill p (outs m ho.toNat)).2≠0:=by simpa using h10
   have hy:¬(fill p (outs m ho.toNat)).1≠f:=by simpa using h11
   have hz:(m.length:Int)<ho:=by simpa using h
   rw[em,if_neg (fun hc=>hc.elim hx hy),if_pos hz]
   rfl
  ·rename_i h10 h11
   have hx:¬(fill p (outs m ho.toNat)).2≠0:=by simpa using h10
   have hy:¬(fill p (outs m ho.toNat)).1≠f:=by simpa using h11
   have hz:¬(m.length:Int)<ho:=by simpa using h
   rw[em,if_neg (fun hc=>hc.elim hx hy),if_neg hz]
   rfl
theorem sane18_c:PC E 4 [] (.bool true):=by
 have hm:matchF (eqF (.mk 1 0 (.mk 0 []) []) (numOf 0)) 1 (eqF (.mk 5 0 (.mk 0 []) [.mk 1 3 (.mk 0 []) []]) (numOf 0))=([.mk 5 0 (.mk 0 []) [.mk 1 3 (.mk 0 []) []]],0):=by decide
 have hc:=match_c (eqF (.mk 1 0 (.mk 0 []) []) (numOf 0)) (eqF (.mk 5 0 (.mk 0 []) [.mk 1 3 (.mk 0 []) []]) (numOf 0)) 1 (by decide) (by decide)
 rw[hm] at hc
 have h1:=eqFm_c (.mk 1 0 (.mk 0 []) []) (numOf 0) (by decide) (by decide)
 have h2:=eqFm_c (.mk 5 0 (.mk 0 []) [.mk 1 3 (.mk 0 []) []]) (numOf 0) (by decide) (by decide)
 have h3:=n_c 5 [.mk 1 3 (.mk 0 []) []] (by decide)
 have h4:=sameTm_c _ (.mk 5 0 (.mk 0 []) [.mk 1 3 (.mk 0 []) []]) (.mk 5 0 (.mk 0 []) [.mk 1 3 (.mk 0 []) []]) (Nat.le_refl _) (by decide)
 refine M.F Tryz.func4 ?_
 repeat'(first|refine M.w0 ?_|refine M.bp 3 ?_|refine M.c2 (var_c _) ?_|refine M.c2 (num_c 0) ?_|refine M.c2 (h1) ?_|refine M.c2 (h2) ?_|refine M.c2 (h3) ?_|refine M.c2 (hc) ?_|refine M.c2 (h4) ?_|refine L.mn U U U U ?_|refine L.mx U U U U ?_|refine L.apt9 U U U U U U (by first|exact trivial|exact⟨rfl,trivial⟩) U U (by first|omega|(simp;omega)) ?_|refine L.aptF9 U U U U (by first|assumption|simp) U U U (by first|omega|(simp;omega)) ?_|refine L.lkb U U U U U U U U U U ?_|refine M.gs ?_ ?_<;>intro h|refine M.zb ?_|refine M.bl ?_|refine M.ks ?_ ?_<;>intro h|refine M.cs ?_ ?_<;>intro h|exact M.le|exact M.lt|fail)
 all_goals rfl
end Go.Ab
