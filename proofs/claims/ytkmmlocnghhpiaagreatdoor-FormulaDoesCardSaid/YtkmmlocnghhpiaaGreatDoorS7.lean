/- A part of the proofs of this seat's statements: S63, S64. It has no conditions of its own. -/
import Derived.Test.YtkmmlocnghhpiaaGreatDoorA2
import Derived.Test.YtkmmlocnghhpiaaGreatDoorS4
import Derived.Test.YtkmmlocnghhpiaaGreatDoorS6
import Derived.Test.YtkmmlocnghhpiaaGreatDoorS3
import Derived.Test.YtkmmlocnghhpiaaGreatDoorD1
namespace Go.Ab
open Go Go.Proofs
set_option maxRecDepth 100000
set_option maxHeartbeats 4000000
set_option linter.all false
theorem rinF_c(at_:Int)(s:Tm)(hat:0≤at_∧at_<137438953472)(hs:s.shape=true)(hsf:s.full<137438953472)(hsi:∀p∈s.vars 0,0≤p.1∧p.1<274877906944):∀(n:Nat) (f:Fm) (dp:Int),f.full≤n→n<137438953472→0≤dp→dp+n<274877906944→f.shape=true→(∀p∈f.tms 0,∀q∈p.1.vars 0,0≤q.1∧q.1<274877906944)→
 PC E 104 [.agg f.view,.i at_,.i dp,.agg s.view] (.agg (f.re (fun b t=>t.re (putG at_ s) b) dp).view):=by
 intro n
 induction n with
 |zero=>intro f dp h;have:=f.full_pos;omega
 |succ n ih=>
 intro f dp hsz hn h1 h2 hf hix
 have hsz':=f.full_eq
 have hlen:=lsum_len Fm.full Fm.full_pos f.args
 have hlen2:=lsum_len Tm.full Tm.full_pos f.terms
 have hup:=upF_le f.kind dp
 have hpl:=upF_plus f.kind dp
 have hb:=rfbelow_c f
 have he:=Fm.re_eq (fun b t=>t.re (putG at_ s) b) dp f
 have htm:=f.tms_eq 0
 refine M.F Tryz.func104 ?_
 repeat'(first|refine M.gw ?_|fail)
 refine AW.range f.terms.length (fun m=>True) (fun m=>([(1,.i at_),(2,.i dp),(4,.ptr 0 0),(7,.ptr 1 0),(8,.ptr 2 0),(9,.ptr 3 0),(20,.s .tm f.terms),(21,.i f.terms.length),(22,.i m)],⟨5,[(0,.var f.view),(1,.var s.view),(2,.var [.i 0,.i 0,.slice .nil (.t .ty []),.slice .nil (.t .tm []),.slice .nil (.t .fm [])]),(3,.var [.i f.kind,.i f.ty.kind,.s .ty f.ty.args,.slice (.own 4) (.t .tm ((f.terms.take m).map fun t=>t.re (putG at_ s) dp)),.slice .nil (.t .fm [])]),(4,.row)]⟩))
  (by omega) (fun m=>rfl) (fun m=>rfl) rfl trivial (M.W [some 0,some 1,some 2,some 3,none]) ?_ ?_
 ·intro m hm _
  have hs2:=lsum_mem Tm.full (List.getElem_mem hm)
  have hc:=rin_c at_ s hat hs hsf hsi _ f.terms[m] dp (Nat.le_refl _) (by omega) (by omega) (by omega) (fshape_terms hf (List.getElem_mem hm)) (fun p hp=>hix (f.terms[m],0) (by rw[htm];exact List.mem_append_left _ (List.mem_map.2 ⟨_,List.getElem_mem hm,rfl⟩)) p hp)
  repeat'(first|refine M.gw ?_|refine M.c2 (hc) ?_|fail)
  exact⟨rfl,trivial,(M.W [some 0,some 1,some 2,some 3,some 6] (he:=(by(repeat'(first|exact trivial|exact Or.inr ⟨_,U,rfl⟩|refine And.intro ?_ ?_|refine⟨_,U,_,U,_,U,?_⟩|exact VLe.refl _|exact VLe.of_eq (by simp[Sto.upd,map_take _ _ _ hm])));done)))⟩
 ·intro _
  simp only[List.take_length]
  repeat'(first|refine M.gw ?_|fail)
  refine AW.range f.args.length (fun m=>True) (fun m=>([(1,.i at_),(2,.i dp),(4,.ptr 0 0),(7,.ptr 1 0),(8,.ptr 2 0),(9,.ptr 3 0),(38,.s .fm f.args),(39,.i f.args.length),(40,.i m)],⟨6,[(0,.var f.view),(1,.var s.view),(2,.var [.i 0,.i 0,.slice .nil (.t .ty []),.slice .nil (.t .tm []),.slice .nil (.t .fm [])]),(3,.var [.i f.kind,.i f.ty.kind,.s .ty f.ty.args,.slice (.own 4) (.t .tm (f.terms.map fun t=>t.re (putG at_ s) dp)),.slice (.own 5) (.t .fm ((f.args.take m).map fun x=>x.re (fun b t=>t.re (putG at_ s) b) (upF f.kind dp)))]),(4,.row),(5,.row)]⟩))
   (by omega) (fun m=>rfl) (fun m=>rfl) rfl trivial (M.W [some 0,some 1,some 2,some 3,some 4,none]) ?_ ?_
  ·intro m hm _
   have hs2:=lsum_mem Fm.full (List.getElem_mem hm)
   have hc:=ih f.args[m] (upF f.kind dp) (by omega) (by omega) (by omega) (by omega) (fshape_args hf (List.getElem_mem hm)) (fun p hp q hq=>by
    obtain⟨p',hp',hpe⟩:=tms_idx (b':=upF f.kind 0) p hp
    rw[←hpe] at hq
    exact hix p' (by rw[htm];exact List.mem_append_right _ (List.mem_flatMap.2 ⟨_,List.getElem_mem hm,hp'⟩)) q hq)
   rw[←hpl] at hc
   simp only[←hpl]
   repeat'(first|refine M.gw ?_|refine M.c2 (hb) ?_|refine M.c2 (hc) ?_|fail)
   exact⟨rfl,trivial,(M.W [some 0,some 1,some 2,some 3,some 4,some 7] (he:=(by(repeat'(first|exact trivial|exact Or.inr ⟨_,U,rfl⟩|refine And.intro ?_ ?_|refine⟨_,U,_,U,_,U,?_⟩|exact VLe.refl _|exact VLe.of_eq (by simp[Sto.upd,map_take _ _ _ hm])));done)))⟩
  ·intro _
   simp only[List.take_length]
   repeat'(first|refine M.gw ?_|fail)
   rw[he]
   rfl
theorem fputR_c(f:Fm)(at_:Int)(s:Tm)(hf:f.full<549755813888)(hs:s.full<549755813888):PC E 36 [.agg f.view,.i at_,.agg s.view] (.tup [.agg (if putFErr f at_ s=0 then f.put at_ s else noFm).view,.i (putFErr f at_ s)]):=by
 have h1:=fcheckR_c f hf
 have h2:=checkTmR_c s (by omega)
 by_cases he:f.err=0
 case neg=>
  have e:putFErr f at_ s=f.err:=by simp only[putFErr];rw[if_pos he]
  rw[e,if_neg he]
  refine M.F Tryz.func36 ?_
  repeat'(first|refine M.go ?_|refine M.c2 (h1) ?_|refine M.z1 4 ?_|refine M.cs ?_ ?_<;>intro h|refine M.gk ?_|fail)
  all_goals first
   |rfl
   |(exfalso;simp at h;exact he h)
 rw[he] at h1
 by_cases ha:0≤at_∧at_≤4096
 case neg=>
  have e:putFErr f at_ s=1:=by simp only[putFErr];rw[if_neg (by simp[he]),if_pos ha]
  rw[e,if_neg (by decide)]
  refine M.F Tryz.func36 ?_
  repeat'(first|refine M.go ?_|refine M.c2 (h1) ?_|refine M.gs ?_ ?_<;>intro h|refine M.z1 6 ?_|refine M.cs ?_ ?_<;>intro h|refine M.gk ?_|fail)
  all_goals first
   |rfl
   |(exfalso;simp at h;omega)
   |(exfalso;simp at*;omega)
 by_cases hse:s.err=0
 case neg=>
  have e:putFErr f at_ s=s.err:=by simp only[putFErr];rw[if_neg (by simp[he]),if_neg (by simp;omega),if_pos hse]
  rw[e,if_neg hse]
  refine M.F Tryz.func36 ?_
  repeat'(first|refine M.go ?_|refine M.c2 (h1) ?_|refine M.c2 (h2) ?_|refine M.gs ?_ ?_<;>intro h|refine M.z2 5 9 ?_|refine M.cs ?_ ?_<;>intro h|refine M.gk ?_|fail)
  all_goals first
   |rfl
   |(exfalso;simp at h;omega)
   |(exfalso;simp at*;omega)
   |(exfalso;simp at h;exact hse h)
 rw[hse] at h2
 obtain⟨hfs,hfz⟩:=(Fm.err_iff f).1 he
 obtain⟨hss,hsz⟩:=err_zero hse
 have hff:=ferr_full he
 have hsf:=terr_full hse
 have h3:=rleastF_c 536870912 (by omega) _ f (Nat.le_refl _) (by omega) hfs
 have h4:=rleast_c 536870912 (by omega) _ s (Nat.le_refl _) (by omega) hss
 rw[←nearF_least] at h3
 rw[←near_least] at h4
 by_cases hn:f.near=true∧s.near=true
 case neg=>
  have hn':f.near=false∨s.near=false:=by
   cases h5:f.near with
   |false=>exact .inl rfl
   |true=>cases h6:s.near with
    |false=>exact .inr rfl
    |true=>exact absurd ⟨h5,h6⟩ hn
  have e:putFErr f at_ s=1:=by simp only[putFErr];rw[if_neg (by simp[he]),if_neg (by simp;omega),if_neg (by simp[hse]),if_pos hn']
  rw[e,if_neg (by decide)]
  cases h5:f.near with
  |false=>
   rw[h5] at h3
   refine M.F Tryz.func36 ?_
   repeat'(first|refine M.go ?_|refine M.c2 (h1) ?_|refine M.c2 (h2) ?_|refine M.c2 (h3) ?_|refine M.gs ?_ ?_<;>intro h|refine M.z1 5 ?_|refine M.cs ?_ ?_<;>intro h|refine M.gk ?_|fail)
   all_goals first
    |rfl
    |(exfalso;simp at h;omega)
    |(exfalso;simp at*;omega)
  |true=>
   have h6:s.near=false:=hn'.resolve_left (by simp[h5])
   rw[h5] at h3
   rw[h6] at h4
   refine M.F Tryz.func36 ?_
   repeat'(first|refine M.go ?_|refine M.c2 (h1) ?_|refine M.c2 (h2) ?_|refine M.c2 (h3) ?_|refine M.c2 (h4) ?_|refine M.gs ?_ ?_<;>intro h|refine M.z1 5 ?_|refine M.cs ?_ ?_<;>intro h|refine M.gk ?_|fail)
   all_goals first
    |rfl
    |(exfalso;simp at h;omega)
    |(exfalso;simp at*;omega)
 obtain⟨hn1,hn2⟩:=hn
 rw[hn1] at h3
 rw[hn2] at h4
 have h5:=fcountR_c _ f (Nat.le_refl _) (by omega)
 have h6:=rtimesF_c _ f at_ (Nat.le_refl _) (by omega) (by omega) (by omega) hfs
 have h7:=countTm_c _ s (Nat.le_refl _) (by omega)
 have htl:=timesF_le at_ f
 have hsp:=s.size_pos
 have hsl:=s.size_le_full
 have hfl:=f.size_le_full
 have hm:=mul_bd (timesF at_ f) (s.size-1) (by omega) (by omega)
 have hm': -9223372036854775808≤(timesF at_ f:Int)*(s.size-1)∧(timesF at_ f:Int)*(s.size-1)≤9223372036854775807:=by omega
 have ee:putFErr f at_ s=if(f.size:Int)+timesF at_ f*(s.size-1)>4096 then 4 else 0:=by
  simp only[putFErr,timesF]
  rw[if_neg (by simp[he]),if_neg (by simp;omega),if_neg (by simp[hse]),if_neg (by simp[hn1,hn2])]
  rfl
 have hput:f.put at_ s=f.re (fun b t=>t.re (putG at_ s) b) 0:=fput_eq at_ s 0 f
 have h8:=rinF_c at_ s (by omega) hss (by omega) (fun p hp=>⟨s.vars_nonneg hss 0 p hp,by have:=near_all hn2 p hp;omega⟩) _ f 0 (Nat.le_refl _) (by omega) (by omega) (by omega) hfs (fun p hp q hq=>by have:=nearF_lt he hn1 p hp q hq;have h9:=List.all_eq_true.1 hn1 p hp;have:=near_all h9 q hq;omega)
 rw[←hput] at h8
 by_cases hz:(f.size:Int)+timesF at_ f*(s.size-1)>4096
 ·rw [if_pos hz] at ee
  rw[ee,if_neg (by decide)]
  clear h8 hput
  refine M.F Tryz.func36 ?_
  repeat'(first|refine M.go ?_|refine M.c2 (h1) ?_|refine M.c2 (h2) ?_|refine M.c2 (h3) ?_|refine M.c2 (h4) ?_|refine M.c2 (h5) ?_|refine M.c2 (h6) ?_|refine M.c2 (h7) ?_|refine M.gs ?_ ?_<;>intro h|refine M.z2 5 13 ?_|refine M.cs ?_ ?_<;>intro h|refine M.gk ?_|fail)
  all_goals first
   |rfl
   |(exfalso;simp at h;omega)
   |(exfalso;simp at*;omega)
 ·rw [if_neg hz] at ee
  have h9:=copyFm_c _ (f.put at_ s) (Nat.le_refl _) (by have:=putF_bd ee;omega)
  rw[ee,if_pos rfl]
  refine M.F Tryz.func36 ?_
  repeat'(first|refine M.go ?_|refine M.c2 (h1) ?_|refine M.c2 (h2) ?_|refine M.c2 (h3) ?_|refine M.c2 (h4) ?_|refine M.c2 (h5) ?_|refine M.c2 (h6) ?_|refine M.c2 (h7) ?_|refine M.c2 (h8) ?_|refine M.c2 (h9) ?_|refine M.gs ?_ ?_<;>intro h|refine M.z2 5 12 ?_|refine M.cs ?_ ?_<;>intro h|refine M.gk ?_|fail)
  all_goals first
   |rfl
   |(exfalso;simp at h;omega)
   |(exfalso;simp at*;omega)
theorem sameAllTmD_c(a b:List Tm)(ha:(a.map Tm.full).sum<1099511627776):PC E 77 [.s .tm a,.s .tm b] (.bool (decide (a=b))):=by
 have hlen:=lsum_len Tm.full Tm.full_pos a
 by_cases hl:a.length=b.length
 case neg=>
  have e:¬a=b:=fun h=>hl (by rw[h])
  rw[decide_eq_false e]
  refine M.F Tryz.func77 ?_
  repeat'(first|refine M.go ?_|refine M.z1 3 ?_|refine M.cs ?_ ?_<;>intro h|refine M.gk ?_|fail)
  all_goals first
   |rfl
   |(exfalso;simp at h;omega)
 refine M.F Tryz.func77 ?_
 repeat'(first|refine M.gw ?_|refine M.cs ?_ ?_<;>intro h|fail)
 ·exfalso;simp at h;omega
 refine AW.range a.length (fun m=>∀j (hj:j<a.length),j<m→a[j]=b[j]'(by omega)) (fun m=>([(0,.s .tm a),(1,.s .tm b),(11,.s .tm a),(12,.i a.length),(13,.i m)],⟨0,[]⟩))
  (by omega) (fun m=>rfl) (fun m=>rfl) rfl (fun j hj h=>by omega) (M.W []) ?_ ?_
 ·intro m hm hP
  have hm':m<b.length:=by omega
  have hs2:=lsum_mem Tm.full (List.getElem_mem hm)
  have hc:=sameTm_c _ a[m] b[m] (Nat.le_refl _) (by omega)
  repeat'(first|refine M.gw ?_|refine M.c2 (hc) ?_|refine M.cs ?_ ?_<;>intro h|fail)
  ·have hx:¬a[m]=b[m]:=by simpa using h
   have e:¬a=b:=list_ne hm hm' hx
   rw[decide_eq_false e];rfl
  ·exact ⟨rfl,step2 hl hm hP (by simpa using h),(M.W [])⟩
 ·intro hP
  rw[decide_eq_true (list_eq hl hP)]
  repeat'(first|refine M.gw ?_|fail)
  rfl
theorem fsameR_c:∀(n:Nat) (x y:Fm),x.full≤n→n<1099511627776→PC E 24 [.agg x.view,.agg y.view] (.bool (decide (x=y))):=by
 intro n
 induction n with
 |zero=>intro x y h;have:=x.full_pos;omega
 |succ n ih=>
 intro x y hsz hb
 have hsz':=x.full_eq
 have hlen:=lsum_len Fm.full Fm.full_pos x.args
 have heq:=Fm.eq_iff x y
 have hty:=sameTy_c _ x.ty y.ty (Nat.le_refl _) (by omega)
 have hts:=sameAllTmD_c x.terms y.terms (by omega)
 by_cases hall:x.kind=y.kind∧x.ty=y.ty∧x.terms=y.terms∧x.args.length=y.args.length
 case neg=>
  have e:¬x=y:=fun h=>hall (by rw[h];exact⟨rfl,rfl,rfl,rfl⟩)
  rw[decide_eq_false e]
  clear ih heq e hsz'
  refine M.F Tryz.func24 ?_
  repeat'(first|refine M.go ?_|refine M.c2 (hty) ?_|refine M.c2 (hts) ?_|refine M.gs ?_ ?_<;>intro h|refine M.z1 3 ?_|refine M.cs ?_ ?_<;>intro h|refine M.gk ?_|fail)
  all_goals first
   |rfl
   |(exfalso;simp at*;exact hall (by assumption) (by assumption) (by assumption) (by omega))
 obtain⟨h1,h2,h3,h4⟩:=hall
 rw[decide_eq_true h2] at hty
 rw[decide_eq_true h3] at hts
 refine M.F Tryz.func24 ?_
 repeat'(first|refine M.gw ?_|refine M.c2 (hty) ?_|refine M.c2 (hts) ?_|refine M.gs ?_ ?_<;>intro h|refine M.cs ?_ ?_<;>intro h|fail)
 all_goals first
  |(exfalso;simp at h;omega)
  |(exfalso;simp at h;exact h h1)
  |skip
 refine AW.range x.args.length (fun m=>∀j (hj:j<x.args.length),j<m→x.args[j]=y.args[j]'(by omega)) (fun m=>([(2,.ptr 0 0),(3,.ptr 1 0),(37,.s .fm x.args),(38,.i x.args.length),(39,.i m)],⟨2,[(0,.var x.view),(1,.var y.view)]⟩))
  (by omega) (fun m=>rfl) (fun m=>rfl) rfl (fun j hj h=>by omega) (M.W [some 0,some 1]) ?_ ?_
 ·intro m hm hP
  have hm':m<y.args.length:=by omega
  have hs2:=lsum_mem Fm.full (List.getElem_mem hm)
  have hc:=ih x.args[m] y.args[m] (by omega) (by omega)
  repeat'(first|refine M.gw ?_|refine M.c2 (hc) ?_|refine M.cs ?_ ?_<;>intro h|fail)
  ·have hx:¬x.args[m]=y.args[m]:=by simpa using h
   have e:¬x=y:=by rw[heq];exact fun hc=>list_ne hm hm' hx hc.2.2.2
   rw[decide_eq_false e];rfl
  ·exact ⟨rfl,step2 h4 hm hP (by simpa using h),(M.W [some 0,some 1])⟩
 ·intro hP
  have e:x=y:=heq.2 ⟨h1,h2,h3,list_eq h4 hP⟩
  rw[decide_eq_true e]
  repeat'(first|refine M.gw ?_|fail)
  rfl
end Go.Ab
