/- A part of the proofs of this seat. No conditions. -/
import Derived.Test.YtdhoaohcgpcfcaaGreatDoorS3
namespace Go.Ab
open Go Go.Proofs
set_option maxRecDepth 100000
set_option maxHeartbeats 4000000
set_option linter.all false
theorem plainTy_c(d:Dk)(hd:d.ok):AC E 16 [.ptr 0 0] ⟨1,[(0,.var d.cells)]⟩ (.agg d.plain.1.view) ⟨1,[(0,.var d.plain.2.cells)]⟩:=by
 have h1:=next_c d 6 hd (by omega)
 have h2:=two_c natT listT (by decide) (by decide)
 have h3:=two_c natT natT (by decide) (by decide)
 have e:d.plain=(if(d.next 6).1=0∨(d.next 6).1=1 then natT else if(d.next 6).1=2 then listT else if(d.next 6).1=3 then unitT else if(d.next 6).1=4 then twoT natT listT else twoT natT natT,(d.next 6).2):=rfl
 refine M.F Tryz.func16 ?_
 repeat'(first|refine M.gw ?_|refine M.bp 3 ?_|refine M.cb (h1) [0] 0 ?_|refine M.c2 (nat_c) ?_|refine M.c2 (list_c) ?_|refine M.c2 (unit_c) ?_|refine M.c2 (h2) ?_|refine M.c2 (h3) ?_|refine L.mn U U U U ?_|refine L.mx U U U U ?_|refine L.apt9 U U U U U U (by first|exact trivial|exact⟨rfl,trivial⟩) U U (by first|omega|(simp;omega)) ?_|refine L.aptF9 U U U U (by first|assumption|simp) U U U (by first|omega|(simp;omega)) ?_|refine L.lkb U U U U U U U U U U ?_|refine M.gs ?_ ?_<;>intro h|refine M.zb ?_|refine M.bl ?_|refine M.ks ?_ ?_<;>intro h|refine M.cs ?_ ?_<;>intro h|exact M.le|exact M.lt|fail)
 all_goals
  simp only[beq_iff_eq,beq_eq_false_iff_ne,ne_eq,decide_eq_true_eq,decide_eq_false_iff_not,gt_iff_lt] at*
  simp[*] at e
  (first|exact M.n2 [some 0] (h6:=(by(repeat'(first|exact trivial|exact Or.inl U|exact Or.inr ⟨_,U,rfl⟩|refine And.intro ?_ ?_|refine⟨_,U,_,U,_,U,?_⟩|refine⟨_,U,_,U,?_⟩|exact VLe.refl _|exact VLe.any _ _|exact VsLe.refl _|refine VLe.agg ?_|exact VLe.of_eq (by simp[Sto.upd,e,natT,listT,unitT,twoT])|refine⟨_,U,_,_,U,?_,?_⟩|with_reducible exact rfl|(simp[Sto.upd,e,natT,listT,unitT,twoT];done)|exact Eq.refl true|refine⟨_,U,_,renVs_flat _ _ _,_,U,?_⟩));done)) (h8:=(by simp[tupV,V.wk,V.wks,constV,Ty.view,Tm.view,e,natT,listT,unitT,twoT]))|exact M.r2 [some 0] (h6:=(by(repeat'(first|exact trivial|exact Or.inl U|exact Or.inr ⟨_,U,rfl⟩|refine And.intro ?_ ?_|refine⟨_,U,_,U,_,U,?_⟩|refine⟨_,U,_,U,?_⟩|exact VLe.refl _|exact VLe.any _ _|exact VsLe.refl _|refine VLe.agg ?_|exact VLe.of_eq (by simp[Sto.upd,e,natT,listT,unitT,twoT])|refine⟨_,U,_,_,U,?_,?_⟩|with_reducible exact rfl|(simp[Sto.upd,e,natT,listT,unitT,twoT];done)|exact Eq.refl true|refine⟨_,U,_,renVs_flat _ _ _,_,U,?_⟩));done)) (h8:=(by simp[tupV,V.wk,V.wks,constV,Ty.view,Tm.view,e,natT,listT,unitT,twoT])))
theorem data_c(d:Dk)(hd:d.ok):AC E 7 [.ptr 0 0] ⟨1,[(0,.var d.cells)]⟩ (.tup [.agg (Dk.tm 5 d.plain.2 [] d.plain.1).1.view,.agg d.plain.1.view]) ⟨1,[(0,.var (Dk.tm 5 d.plain.2 [] d.plain.1).2.cells)]⟩:=by
 have h1:=plainTy_c d hd
 have hs:=Dk.plain_small d
 have h2:=term_c 5 (by omega) d.plain.2 [] d.plain.1 3 (by omega) (Dk.plain_ok hd) smalls_nil hs (by omega) (by omega) (by simp)
 refine M.F Tryz.func7 ?_
 repeat'(first|refine M.gw ?_|refine M.bp 3 ?_|refine M.cb (h1) [0] 0 ?_|refine M.cb (h2) [0] 0 ?_|refine L.mn U U U U ?_|refine L.mx U U U U ?_|refine L.apt9 U U U U U U (by first|exact trivial|exact⟨rfl,trivial⟩) U U (by first|omega|(simp;omega)) ?_|refine L.aptF9 U U U U (by first|assumption|simp) U U U (by first|omega|(simp;omega)) ?_|refine L.lkb U U U U U U U U U U ?_|refine M.gs ?_ ?_<;>intro h|refine M.zb ?_|refine M.bl ?_|refine M.ks ?_ ?_<;>intro h|refine M.cs ?_ ?_<;>intro h|exact M.le|exact M.lt|fail)
 (first|exact M.n2 [some 0] (h6:=(by(repeat'(first|exact trivial|exact Or.inl U|exact Or.inr ⟨_,U,rfl⟩|refine And.intro ?_ ?_|refine⟨_,U,_,U,_,U,?_⟩|refine⟨_,U,_,U,?_⟩|exact VLe.refl _|exact VLe.any _ _|exact VsLe.refl _|refine VLe.agg ?_|exact VLe.of_eq (by simp[Sto.upd,h1])|refine⟨_,U,_,_,U,?_,?_⟩|with_reducible exact rfl|(simp[Sto.upd,h1];done)|exact Eq.refl true|refine⟨_,U,_,renVs_flat _ _ _,_,U,?_⟩));done)) (h8:=(by simp[tupV,V.wk,V.wks,constV,Ty.view,Tm.view,h1]))|exact M.r2 [some 0] (h6:=(by(repeat'(first|exact trivial|exact Or.inl U|exact Or.inr ⟨_,U,rfl⟩|refine And.intro ?_ ?_|refine⟨_,U,_,U,_,U,?_⟩|refine⟨_,U,_,U,?_⟩|exact VLe.refl _|exact VLe.any _ _|exact VsLe.refl _|refine VLe.agg ?_|exact VLe.of_eq (by simp[Sto.upd,h1])|refine⟨_,U,_,_,U,?_,?_⟩|with_reducible exact rfl|(simp[Sto.upd,h1];done)|exact Eq.refl true|refine⟨_,U,_,renVs_flat _ _ _,_,U,?_⟩));done)) (h8:=(by simp[tupV,V.wk,V.wks,constV,Ty.view,Tm.view,h1])))
def nearG(b:Bool)(l:List (Int×Int)):Bool:=b&&l.all fun p=>decide (p.1≤268435456)
theorem rbelow_c(t:Tm):PC E 124 [.agg t.view] (.i (up t.kind 0)):=by
 refine M.F Tryz.func124 ?_
 repeat'(first|refine M.gw ?_|refine M.cs ?_ ?_<;>intro h|fail)
 ·have e:up t.kind 0=1:=by simp only[beq_iff_eq] at h;rw[h];rfl
  rw[e];rfl
 ·have e:up t.kind 0=0:=by simp only[beq_eq_false_iff_ne,ne_eq] at h;exact if_neg h
  rw[e];rfl
theorem up_bd(k b:Int):b≤up k b∧up k b≤b+1:=by simp only[up];split<;>omega
theorem up_plus(k b:Int):b+up k 0=up k b:=by simp only[up];split<;>omega
theorem rleast_c(most:Int)(h0:0≤most):∀(n:Nat) (t:Tm),t.full≤n→n<549755813888→t.shape=true→PC E 50 [.agg t.view,.i most] (.bool (leastT most t)):=by
 intro n
 induction n with
 |zero=>intro t h;have:=t.full_pos;omega
 |succ n ih=>
 intro t hsz hn hs
 have hsz':=Tm.full_eq t
 have hlen:=lsum_len Tm.full Tm.full_pos t.args
 have he:=leastT_eq h0 hs
 refine M.F Tryz.func50 ?_
 repeat'(first|refine M.gw ?_|refine M.cs ?_ ?_<;>intro h|fail)
 ·have h1:¬t.index≤most:=by simp at h;omega
  rw[he,decide_eq_false h1];rfl
 have h1:t.index≤most:=by simp at h;omega
 rw[decide_eq_true h1,Bool.true_and] at he
 refine AW.range t.args.length (fun m=>∀j (hj:j<t.args.length),j<m→leastT most t.args[j]=true)
  (fun m=>([(1,.i most),(2,.ptr 0 0),(12,.s .tm t.args),(13,.i t.args.length),(14,.i m)],⟨1,[(0,.var t.view)]⟩))
  (by omega) (fun m=>rfl) (fun m=>rfl) rfl (fun j hj h=>by omega) (M.W [some 0]) ?_ ?_
 ·intro m hm hP
  have hs2:=lsum_mem Tm.full (List.getElem_mem hm)
  have hc:=ih t.args[m] (by omega) (by omega) (shape_args hs _ (List.getElem_mem hm))
  repeat'(first|refine M.gw ?_|refine M.c2 (hc) ?_|refine M.cs ?_ ?_<;>intro h|fail)
  ·have hx:leastT most t.args[m]=false:=by simpa using h
   rw[he,all_not (leastT most) hm hx];rfl
  ·have hx:leastT most t.args[m]=true:=by simpa using h
   exact⟨rfl,all_step (p:=fun t=>leastT most t=true) hm hP hx,(M.W [some 0])⟩
 ·intro hP
  rw[he,all_of (leastT most) t.args fun j hj=>hP j hj hj]
  repeat'(first|refine M.gw ?_|fail)
  rfl
theorem rtimes_c:∀(n:Nat) (t:Tm) (at_:Int),t.full≤n→n<274877906944→-274877906944≤at_→at_+n<549755813888→t.shape=true→PC E 102 [.agg t.view,.i at_] (.i (timesT at_ t)):=by
 intro n
 induction n with
 |zero=>intro t at_ h;have:=t.full_pos;omega
 |succ n ih=>
 intro t at_ hsz hn h1 h2 hs
 have hsz':=Tm.full_eq t
 have hlen:=lsum_len Tm.full Tm.full_pos t.args
 have he:=timesT_eq at_ t
 have hup:=up_bd t.kind at_
 have hpl:=up_plus t.kind at_
 have hb:=rbelow_c t
 by_cases hv:t.kind=1∧t.index=at_
 ·rw [if_pos hv] at he
  rw[he]
  have ha:=var_args hs hv.1
  obtain⟨k,i,th,xs⟩:=t
  simp only[Tm.args_mk] at ha
  subst ha
  obtain⟨hv1,hv2⟩:=hv
  simp only[Tm.kind_mk,Tm.index_mk] at hv1 hv2
  subst hv1;subst hv2
  refine M.F Tryz.func102 ?_
  repeat'(first|refine M.gw ?_|refine M.cs ?_ ?_<;>intro h|fail)
  all_goals first
   |(exfalso;simp at h;done)
   |skip
  all_goals
   refine AW.range 0 (fun m=>True) (fun m=>([(1,.i i),(2,.ptr 0 0),(5,.i 1),(20,.s .tm []),(21,.i 0),(22,.i m)],⟨1,[(0,.var (Tm.mk 1 i th []).view)]⟩))
    (by omega) (fun m=>rfl) (fun m=>rfl) rfl trivial (M.W [some 0]) ?_ ?_
   ·intro m hm;omega
   ·intro _
    repeat'(first|refine M.gw ?_|fail)
    rfl
 rw[if_neg hv] at he
 refine M.F Tryz.func102 ?_
 repeat'(first|refine M.gw ?_|refine M.gs ?_ ?_<;>intro h|refine M.cs ?_ ?_<;>intro h|fail)
 all_goals first
  |(exfalso;simp_all;done)
  |skip
 all_goals
  refine AW.range t.args.length (fun m=>True)
   (fun m=>([(1,.i at_),(2,.ptr 0 0),(5,.i (((t.args.take m).map (timesT (up t.kind at_))).sum:Nat)),(20,.s .tm t.args),(21,.i t.args.length),(22,.i m)],⟨1,[(0,.var t.view)]⟩))
   (by omega) (fun m=>rfl) (fun m=>rfl) rfl trivial (M.W [some 0]) ?_ ?_
  ·intro m hm _
   have hs1:=lsum_take (timesT (up t.kind at_)) t.args m hm
   have hs2:=lsum_mem Tm.full (List.getElem_mem hm)
   have hs3:((t.args.take m).map (timesT (up t.kind at_))).sum≤(t.args.map Tm.full).sum:=by
    have a1:=lsum_take_le Tm.full t.args m
    have a2:=lsum_le (f:=timesT (up t.kind at_)) (g:=Tm.full) (t.args.take m) fun x _=>Nat.le_trans (timesT_le x _) x.size_le_full
    omega
   have hs4:=timesT_le t.args[m] (up t.kind at_)
   have hs5:=t.args[m].size_le_full
   have hc:=ih t.args[m] (up t.kind at_) (by omega) (by omega) (by omega) (by omega) (shape_args hs _ (List.getElem_mem hm))
   rw[←hpl] at hc hs1 hs3 hs4
   simp only[←hpl]
   repeat'(first|refine M.gw ?_|refine M.c2 (hb) ?_|refine M.c2 (hc) ?_|fail)
   refine⟨rfl,trivial,?_⟩
   simp only[hs1]
   exact(M.W [some 0])
  ·intro _
   repeat'(first|refine M.gw ?_|fail)
   rw[he]
   simp[tupV,V.wk,V.wks,constV]
theorem rup_w(by_:Int)(hby: -549755813888≤by_∧by_≤549755813888):∀(n:Nat) (t:Tm) (fr:Int),t.full≤n→n<274877906944→-274877906944≤fr→fr+n<549755813888→t.shape=true→(∀p∈t.vars 0,0≤p.1∧p.1<9223372036854775808∧p.1+by_<9223372036854775808)→
 PC E 125 [.agg t.view,.i fr,.i by_] (.agg (t.re (liftG fr by_) 0).view):=by
 intro n
 induction n with
 |zero=>intro t fr h;have:=t.full_pos;omega
 |succ n ih=>
 intro t fr hsz hn h1 h2 hs hix
 have hsz':=Tm.full_eq t
 have hlen:=lsum_len Tm.full Tm.full_pos t.args
 have hup:=up_bd t.kind fr
 have hpl:=up_plus t.kind fr
 have hb:=rbelow_c t
 by_cases hv:t.kind=1
 ·have ht:=var_vT hs hv
  have hi:=hix (t.index,0) (by rw[vars_var hs hv];simp)
  rw[ht]
  generalize t.index=i at hi
  simp only at hi
  rw[re_vT,liftG_eq]
  have hvi:(vT i).index=i:=rfl
  refine M.F Tryz.func125 ?_
  repeat'(first|refine M.gw ?_|refine M.cs ?_ ?_<;>intro h|fail)
  all_goals first
   |(exfalso;simp at h;done)
   |skip
  ·have h3:i-0≥fr:=by simp at h;omega
   rw[if_pos h3]
   refine AW.range 0 (fun m=>True) (fun m=>([(1,.i fr),(2,.i by_),(3,.ptr 0 0),(6,.ptr 1 0),(7,.ptr 2 0),(32,.s .tm []),(33,.i 0),(34,.i m)],⟨3,[(0,.var (vT i).view),(1,.var [.i 0,.i 0,.i 0,.slice .nil (.t .ty []),.slice .nil (.t .tm [])]),(2,.var [.i 1,.i (i+by_),.i 0,.s .ty [],.slice .nil (.t .tm [])])]⟩))
    (by omega) (fun m=>rfl) (fun m=>rfl) rfl trivial (M.W [some 0,some 1,some 2]) ?_ ?_
   ·intro m hm;omega
   ·intro _
    repeat'(first|refine M.gw ?_|fail)
    rfl
  ·have h3:¬i-0≥fr:=by simp at h;omega
   rw[if_neg h3]
   refine AW.range 0 (fun m=>True) (fun m=>([(1,.i fr),(2,.i by_),(3,.ptr 0 0),(6,.ptr 1 0),(7,.ptr 2 0),(32,.s .tm []),(33,.i 0),(34,.i m)],⟨3,[(0,.var (vT i).view),(1,.var [.i 0,.i 0,.i 0,.slice .nil (.t .ty []),.slice .nil (.t .tm [])]),(2,.var [.i 1,.i i,.i 0,.s .ty [],.slice .nil (.t .tm [])])]⟩))
    (by omega) (fun m=>rfl) (fun m=>rfl) rfl trivial (M.W [some 0,some 1,some 2]) ?_ ?_
   ·intro m hm;omega
   ·intro _
    repeat'(first|refine M.gw ?_|fail)
    rfl
 have he:=lift_node (fr:=fr) (by_:=by_) hv
 refine M.F Tryz.func125 ?_
 repeat'(first|refine M.gw ?_|refine M.gs ?_ ?_<;>intro h|refine M.cs ?_ ?_<;>intro h|fail)
 all_goals first
  |(exfalso;simp_all;done)
  |skip
 all_goals
  refine AW.range t.args.length (fun m=>True) (fun m=>([(1,.i fr),(2,.i by_),(3,.ptr 0 0),(6,.ptr 1 0),(7,.ptr 2 0),(32,.s .tm t.args),(33,.i t.args.length),(34,.i m)],⟨4,[(0,.var t.view),(1,.var [.i 0,.i 0,.i 0,.slice .nil (.t .ty []),.slice .nil (.t .tm [])]),(2,.var [.i t.kind,.i t.index,.i t.ty.kind,.s .ty t.ty.args,.slice (.own 3) (.t .tm ((t.args.take m).map fun x=>x.re (liftG (up t.kind fr) by_) 0))]),(3,.row)]⟩))
   (by omega) (fun m=>rfl) (fun m=>rfl) rfl trivial (M.W [some 0,some 1,some 2,none]) ?_ ?_
  ·intro m hm _
   have hs2:=lsum_mem Tm.full (List.getElem_mem hm)
   have hc:=ih t.args[m] (up t.kind fr) (by omega) (by omega) (by omega) (by omega) (shape_args hs _ (List.getElem_mem hm)) (fun p hp=>by
    obtain⟨q,hq,hqe⟩:=vars_idx (b':=up t.kind 0) p hp
    have:=hix q (mem_vars hv (List.getElem_mem hm) hq)
    rw[←hqe];exact this)
   rw[←hpl] at hc
   simp only[←hpl]
   repeat'(first|refine M.gw ?_|refine M.c2 (hb) ?_|refine M.c2 (hc) ?_|fail)
   exact⟨rfl,trivial,(M.W [some 0,some 1,some 2,some 5] (he:=(by(repeat'(first|exact trivial|exact Or.inr ⟨_,U,rfl⟩|refine And.intro ?_ ?_|refine⟨_,U,_,U,_,U,?_⟩|exact VLe.refl _|exact VLe.of_eq (by simp[Sto.upd,map_take _ _ _ hm])));done)))⟩
  ·intro _
   simp only[List.take_length]
   repeat'(first|refine M.gw ?_|fail)
   rw[he]
   simp[tupV,V.wk,V.wks,constV,Ty.view,Tm.view]
theorem rup_c(by_:Int)(hby: -549755813888≤by_∧by_≤549755813888):∀(n:Nat) (t:Tm) (fr:Int),t.full≤n→n<274877906944→-274877906944≤fr→fr+n<549755813888→t.shape=true→(∀p∈t.vars 0,0≤p.1∧p.1<549755813888)→
 PC E 125 [.agg t.view,.i fr,.i by_] (.agg (t.re (liftG fr by_) 0).view):=
 fun n t fr h1 h2 h3 h4 h5 h6=>rup_w by_ hby n t fr h1 h2 h3 h4 h5 fun p hp=>by have:=h6 p hp;omega
theorem putG_node{at_ b:Int}{s t:Tm}(h:t.kind≠1):t.re (putG at_ s) b= .mk t.kind t.index t.ty (t.args.map fun x=>x.re (putG at_ s) (up t.kind b)):=re_node h
theorem rin_c(at_:Int)(s:Tm)(hat:0≤at_∧at_<137438953472)(hs:s.shape=true)(hsf:s.full<137438953472)(hsi:∀p∈s.vars 0,0≤p.1∧p.1<274877906944):∀(n:Nat) (t:Tm) (dp:Int),t.full≤n→n<137438953472→0≤dp→dp+n<274877906944→t.shape=true→(∀p∈t.vars 0,0≤p.1∧p.1<274877906944)→
 PC E 103 [.agg t.view,.i at_,.i dp,.agg s.view] (.agg (t.re (putG at_ s) dp).view):=by
 intro n
 induction n with
 |zero=>intro t dp h;have:=t.full_pos;omega
 |succ n ih=>
 intro t dp hsz hn h1 h2 ht hix
 have hsz':=Tm.full_eq t
 have hlen:=lsum_len Tm.full Tm.full_pos t.args
 have hup:=up_bd t.kind dp
 have hpl:=up_plus t.kind dp
 have hb:=rbelow_c t
 by_cases hv:t.kind=1
 ·have hti:=hix (t.index,0) (by rw[vars_var ht hv];simp)
  rw[var_vT ht hv]
  generalize t.index=i at hti
  simp only at hti
  rw[re_vT,putG_eq]
  have hvi:(vT i).index=i:=rfl
  have hu:=rup_c (at_+dp) (by omega) _ s 0 (Nat.le_refl _) (by omega) (by omega) (by omega) hs fun p hp=>by have:=hsi p hp;omega
  have hvc:=var_c (i-1)
  clear ih hix
  by_cases h3:i-dp=at_
  ·rw [if_pos h3]
   have h3':i=at_+dp:=by omega
   subst h3'
   refine M.F Tryz.func103 ?_
   repeat'(first|refine M.go ?_|refine M.c2 (hu) ?_|refine M.z1 4 ?_|refine M.cs ?_ ?_<;>intro h|refine M.gk ?_|fail)
   all_goals first
    |rfl
    |(exfalso;simp at h;done)
    |(exfalso;simp at h;omega)
  ·rw [if_neg h3]
   by_cases h4:i-dp>at_
   ·rw [if_pos h4]
    refine M.F Tryz.func103 ?_
    repeat'(first|refine M.go ?_|refine M.z3 3 5 6 ?_|refine M.cs ?_ ?_<;>intro h|refine M.gk ?_|fail)
    all_goals first
     |(exfalso;simp at h;omega)
     |skip
    repeat'(first|refine M.gw ?_|refine M.c2 (hvc) ?_|fail)
    rfl
   ·rw [if_neg h4]
    refine M.F Tryz.func103 ?_
    repeat'(first|refine M.go ?_|refine M.z3 3 5 6 ?_|refine M.cs ?_ ?_<;>intro h|refine M.gk ?_|fail)
    all_goals first
     |(exfalso;simp at h;omega)
     |skip
    repeat'(first|refine M.gw ?_|fail)
    rfl
 have he:=putG_node (at_:=at_) (b:=dp) (s:=s) hv
 refine M.F Tryz.func103 ?_
 repeat'(first|refine M.go ?_|refine M.z1 2 ?_|refine M.cs ?_ ?_<;>intro h|refine M.gk ?_|fail)
 all_goals first
  |(exfalso;simp at h;exact hv h)
  |skip
 skip
 refine AW.range t.args.length (fun m=>True) (fun m=>([(1,.i at_),(2,.i dp),(4,.ptr 0 0),(7,.ptr 1 0),(8,.ptr 2 0),(9,.ptr 3 0),(45,.s .tm t.args),(46,.i t.args.length),(47,.i m)],⟨5,[(0,.var t.view),(1,.var s.view),(2,.var [.i 0,.i 0,.i 0,.slice .nil (.t .ty []),.slice .nil (.t .tm [])]),(3,.var [.i t.kind,.i t.index,.i t.ty.kind,.s .ty t.ty.args,.slice (.own 4) (.t .tm ((t.args.take m).map fun x=>x.re (putG at_ s) (up t.kind dp)))]),(4,.row)]⟩))
  (by omega) (fun m=>rfl) (fun m=>rfl) rfl trivial (M.W [some 0,some 1,some 2,some 3,none]) ?_ ?_
 ·intro m hm _
  have hs2:=lsum_mem Tm.full (List.getElem_mem hm)
  have hc:=ih t.args[m] (up t.kind dp) (by omega) (by omega) (by omega) (by omega) (shape_args ht _ (List.getElem_mem hm)) (fun p hp=>by
   obtain⟨q,hq,hqe⟩:=vars_idx (b':=up t.kind 0) p hp
   have:=hix q (mem_vars hv (List.getElem_mem hm) hq)
   rw[←hqe];exact this)
  rw[←hpl] at hc
  simp only[←hpl]
  repeat'(first|refine M.gw ?_|refine M.c2 (hb) ?_|refine M.c2 (hc) ?_|fail)
  exact⟨rfl,trivial,(M.W [some 0,some 1,some 2,some 3,some 6] (he:=(by(repeat'(first|exact trivial|exact Or.inr ⟨_,U,rfl⟩|refine And.intro ?_ ?_|refine⟨_,U,_,U,_,U,?_⟩|exact VLe.refl _|exact VLe.of_eq (by simp[Sto.upd,map_take _ _ _ hm])));done)))⟩
 ·intro _
  simp only[List.take_length]
  repeat'(first|refine M.gw ?_|fail)
  rw[he]
  simp[tupV,V.wk,V.wks,constV,Ty.view,Tm.view]
theorem near_all{t:Tm}(h:t.near=true):∀q∈t.vars 0,q.1≤536870912:=fun q hq=>by simpa using List.all_eq_true.1 h q hq
theorem root_c(t:Tm)(hs:t.shape=true):PC E 80 [.agg t.view] (.bool (rootT t)):=by
 by_cases k3:t.kind=3
 ·obtain ⟨i,th,f,a,rfl,hf,ha⟩:=mkArgs2 hs k3 rfl
  refine M.F Tryz.func80 ?_
  repeat'(first|refine M.gw ?_|refine M.bl ?_|fail)
  rfl
 ·by_cases k6:t.kind=6
  ·obtain ⟨i,th,x,y,z,rfl,_,_,_⟩:=mkArgs3 hs k6 rfl
   by_cases h4:z.kind=4
   ·have e:rootT (.mk 6 i th [x,y,z])=true:=by simp[rootT,Tm.arg,h4]
    rw[e]
    refine M.F Tryz.func80 ?_
    repeat'(first|refine M.gw ?_|refine M.gs ?_ ?_<;>intro h|refine M.bl ?_|fail)
    all_goals first
     |rfl
     |(exfalso;simp_all;done)
   ·have e:rootT (.mk 6 i th [x,y,z])=(z.kind==5):=by simp[rootT,Tm.arg,h4]
    rw[e]
    refine M.F Tryz.func80 ?_
    repeat'(first|refine M.gw ?_|refine M.gs ?_ ?_<;>intro h|refine M.bl ?_|fail)
    all_goals first
     |rfl
     |(exfalso;simp_all;done)
  ·by_cases k9:t.kind=9
   ·obtain ⟨i,th,x,y,z,rfl,_,_,_⟩:=mkArgs3 hs k9 rfl
    by_cases h4:z.kind=7
    ·have e:rootT (.mk 9 i th [x,y,z])=true:=by simp[rootT,Tm.arg,h4]
     rw[e]
     refine M.F Tryz.func80 ?_
     repeat'(first|refine M.gw ?_|refine M.gs ?_ ?_<;>intro h|refine M.bl ?_|fail)
     all_goals first
      |rfl
      |(exfalso;simp_all;done)
    ·have e:rootT (.mk 9 i th [x,y,z])=(z.kind==8):=by simp[rootT,Tm.arg,h4]
     rw[e]
     refine M.F Tryz.func80 ?_
     repeat'(first|refine M.gw ?_|refine M.gs ?_ ?_<;>intro h|refine M.bl ?_|fail)
     all_goals first
      |rfl
      |(exfalso;simp_all;done)
   ·by_cases k11:t.kind=11
    ·obtain ⟨i,th,x,rfl,_⟩:=mkArgs1 hs k11 rfl
     refine M.F Tryz.func80 ?_
     repeat'(first|refine M.gw ?_|refine M.bl ?_|fail)
     rfl
    ·by_cases k12:t.kind=12
     ·obtain ⟨i,th,x,rfl,_⟩:=mkArgs1 hs k12 rfl
      refine M.F Tryz.func80 ?_
      repeat'(first|refine M.gw ?_|refine M.bl ?_|fail)
      rfl
     ·have e:rootT t=false:=by simp[rootT,k3,k6,k9,k11,k12]
      rw[e]
      have b3:¬(t.kind==3)=true:=by simpa using k3
      have b6:¬(t.kind==6)=true:=by simpa using k6
      have b9:¬(t.kind==9)=true:=by simpa using k9
      have b11:¬(t.kind==11)=true:=by simpa using k11
      have b12:¬(t.kind==12)=true:=by simpa using k12
      refine M.F Tryz.func80 ?_
      repeat'(first|refine M.gw ?_|refine M.gs ?_ ?_<;>intro h|refine M.bl ?_|refine M.cs ?_ ?_<;>intro h|fail)
      all_goals first
       |rfl
       |contradiction
theorem rgrow_c{t x:Tm}(hv:RV t x)(hs:t.shape=true)(hz:t.size≤4096):PC E 81 [.agg t.view] (.i (growT t)):=by
 have hfull:=shape_full t hs
 have h0:=countTm_c _ t (Nat.le_refl _) (by omega)
 cases hv with
 |beta i th j s b a=>
  have hb:b.shape=true:=shape_args (shape_args hs (.mk 2 j s [b]) (by simp)) b (by simp)
  have ha:a.shape=true:=shape_args hs a (by simp)
  have hsz:(Tm.mk 3 i th [Tm.mk 2 j s [b],a]).size=2+b.size+a.size:=by simp[Tm.size,Tm.sizes];omega
  have fb:=shape_full b hb
  have fa:=shape_full a ha
  have h1:=countTm_c _ b (Nat.le_refl _) (by omega)
  have h2:=rtimes_c _ b 0 (Nat.le_refl _) (by omega) (by omega) (by omega) hb
  have h3:=countTm_c _ a (Nat.le_refl _) (by omega)
  have htl:=timesT_le b 0
  have hap:=a.size_pos
  have hm:=mul_bd (timesT 0 b) (a.size-1) (by omega) (by omega)
  have hm': -9223372036854775808≤(timesT 0 b:Int)*(a.size-1)∧(timesT 0 b:Int)*(a.size-1)≤9223372036854775807:=by omega
  have e:growT (Tm.mk 3 i th [Tm.mk 2 j s [b],a])=b.size+timesT 0 b*(a.size-1)-(Tm.mk 3 i th [Tm.mk 2 j s [b],a]).size:=by
   have hc:=times_cnt b 0 0 hb
   rw[Int.add_zero] at hc
   show((b.re (putG 0 a) 0).size:Int)-_=_
   rw[put_size 0 a b ha 0 hb,hc]
   congr 1
   rw[Int.natCast_add,Int.natCast_mul]
   congr 2
   omega
  rw[e]
  clear e
  refine M.F Tryz.func81 ?_
  repeat'(first|refine M.gw ?_|refine M.c2 (h0) ?_|refine M.c2 (h1) ?_|refine M.c2 (h2) ?_|refine M.c2 (h3) ?_|refine M.bl ?_|fail)
  rfl
 |rz i th _ f j s=>
  have h1:=countTm_c _ x (Nat.le_refl _) (by have:=shape_full x (shape_args hs x (by simp));have:=lsum_mem Tm.size (l:=[x,f,Tm.mk 4 j s []]) (t:=x) (by simp);have:=Tm.size_eq (Tm.mk 6 i th [x,f,Tm.mk 4 j s []]);simp only[Tm.args_mk] at this;omega)
  have e:(x.size:Int)≤4096:=by have:=lsum_mem Tm.size (l:=[x,f,Tm.mk 4 j s []]) (t:=x) (by simp);have:=Tm.size_eq (Tm.mk 6 i th [x,f,Tm.mk 4 j s []]);simp only[Tm.args_mk] at this;omega
  have e2:growT (Tm.mk 6 i th [x,f,Tm.mk 4 j s []])=x.size-(Tm.mk 6 i th [x,f,Tm.mk 4 j s []]).size:=rfl
  rw[e2]
  refine M.F Tryz.func81 ?_
  repeat'(first|refine M.gw ?_|refine M.c2 (h0) ?_|refine M.c2 (h1) ?_|refine M.bl ?_|fail)
  rfl
 |fz i th _ f j s=>
  have h1:=countTm_c _ x (Nat.le_refl _) (by have:=shape_full x (shape_args hs x (by simp));have:=lsum_mem Tm.size (l:=[x,f,Tm.mk 7 j s []]) (t:=x) (by simp);have:=Tm.size_eq (Tm.mk 9 i th [x,f,Tm.mk 7 j s []]);simp only[Tm.args_mk] at this;omega)
  have e:(x.size:Int)≤4096:=by have:=lsum_mem Tm.size (l:=[x,f,Tm.mk 7 j s []]) (t:=x) (by simp);have:=Tm.size_eq (Tm.mk 9 i th [x,f,Tm.mk 7 j s []]);simp only[Tm.args_mk] at this;omega
  have e2:growT (Tm.mk 9 i th [x,f,Tm.mk 7 j s []])=x.size-(Tm.mk 9 i th [x,f,Tm.mk 7 j s []]).size:=rfl
  rw[e2]
  refine M.F Tryz.func81 ?_
  repeat'(first|refine M.gw ?_|refine M.c2 (h0) ?_|refine M.c2 (h1) ?_|refine M.bl ?_|fail)
  rfl
 |rs i th x f j s n=>
  have hn:n.shape=true:=shape_args (shape_args hs (.mk 5 j s [n]) (by simp)) n (by simp)
  have hsz:(Tm.mk 6 i th [x,f,Tm.mk 5 j s [n]]).size=2+x.size+f.size+n.size:=by simp[Tm.size,Tm.sizes];omega
  have h1:=countTm_c _ f (Nat.le_refl _) (by have:=shape_full f (shape_args hs f (by simp));omega)
  have h2:=countTm_c _ n (Nat.le_refl _) (by have:=shape_full n hn;omega)
  have e2:growT (Tm.mk 6 i th [x,f,Tm.mk 5 j s [n]])=2+f.size+n.size+(Tm.mk 6 i th [x,f,Tm.mk 5 j s [n]]).size-1-(Tm.mk 6 i th [x,f,Tm.mk 5 j s [n]]).size:=by
   show((apT (apT f n) (.mk 6 0 th [x,f,n])).size:Int)-_=_
   simp[apT,Tm.size,Tm.sizes];omega
  rw[e2]
  clear e2
  refine M.F Tryz.func81 ?_
  repeat'(first|refine M.gw ?_|refine M.c2 (h0) ?_|refine M.c2 (h1) ?_|refine M.c2 (h2) ?_|refine M.bl ?_|fail)
  rfl
 |fs i th x f j s n l=>
  have hn:n.shape=true:=shape_args (shape_args hs (.mk 8 j s [n,l]) (by simp)) n (by simp)
  have hl:l.shape=true:=shape_args (shape_args hs (.mk 8 j s [n,l]) (by simp)) l (by simp)
  have hsz:(Tm.mk 9 i th [x,f,Tm.mk 8 j s [n,l]]).size=2+x.size+f.size+n.size+l.size:=by simp[Tm.size,Tm.sizes];omega
  have h1:=countTm_c _ f (Nat.le_refl _) (by have:=shape_full f (shape_args hs f (by simp));omega)
  have h2:=countTm_c _ n (Nat.le_refl _) (by have:=shape_full n hn;omega)
  have h3:=countTm_c _ l (Nat.le_refl _) (by have:=shape_full l hl;omega)
  have e2:growT (Tm.mk 9 i th [x,f,Tm.mk 8 j s [n,l]])=3+f.size+n.size+l.size+(Tm.mk 9 i th [x,f,Tm.mk 8 j s [n,l]]).size-1-n.size-(Tm.mk 9 i th [x,f,Tm.mk 8 j s [n,l]]).size:=by
   show((apT (apT (apT f n) l) (.mk 9 0 th [x,f,l])).size:Int)-_=_
   simp[apT,Tm.size,Tm.sizes];omega
  rw[e2]
  clear e2
  refine M.F Tryz.func81 ?_
  repeat'(first|refine M.gw ?_|refine M.c2 (h0) ?_|refine M.c2 (h1) ?_|refine M.c2 (h2) ?_|refine M.c2 (h3) ?_|refine M.bl ?_|fail)
  rfl
 |p1 i th j s _ y=>
  have hsz:(Tm.mk 11 i th [Tm.mk 10 j s [x,y]]).size=2+x.size+y.size:=by simp[Tm.size,Tm.sizes];omega
  have hx:x.shape=true:=shape_args (shape_args hs (.mk 10 j s [x,y]) (by simp)) x (by simp)
  have h1:=countTm_c _ x (Nat.le_refl _) (by have:=shape_full x hx;omega)
  have e2:growT (Tm.mk 11 i th [Tm.mk 10 j s [x,y]])=x.size-(Tm.mk 11 i th [Tm.mk 10 j s [x,y]]).size:=rfl
  rw[e2]
  clear e2
  refine M.F Tryz.func81 ?_
  repeat'(first|refine M.gw ?_|refine M.c2 (h0) ?_|refine M.c2 (h1) ?_|refine M.bl ?_|fail)
  rfl
 |p2 i th j s y _=>
  have hsz:(Tm.mk 12 i th [Tm.mk 10 j s [y,x]]).size=2+x.size+y.size:=by simp[Tm.size,Tm.sizes];omega
  have hx:x.shape=true:=shape_args (shape_args hs (.mk 10 j s [y,x]) (by simp)) x (by simp)
  have h1:=countTm_c _ x (Nat.le_refl _) (by have:=shape_full x hx;omega)
  have e2:growT (Tm.mk 12 i th [Tm.mk 10 j s [y,x]])=x.size-(Tm.mk 12 i th [Tm.mk 10 j s [y,x]]).size:=rfl
  rw[e2]
  clear e2
  refine M.F Tryz.func81 ?_
  repeat'(first|refine M.gw ?_|refine M.c2 (h0) ?_|refine M.c2 (h1) ?_|refine M.bl ?_|fail)
  rfl
theorem idx_arg{t x:Tm}{B:Int}(hx:x∈t.args)(h:∀p∈t.vars 0,0≤p.1∧p.1<B):∀p∈x.vars 0,0≤p.1∧p.1<B:=by
 intro p hp
 have e:=vars_shift x 0 (up t.kind 0)
 have hm:(p.1,p.2+up t.kind 0)∈t.vars 0:=by
  rw[Tm.vars_eq]
  refine List.mem_append_right _ (List.mem_flatMap.2 ⟨x,hx,?_⟩)
  rw[Int.zero_add] at e
  rw[e]
  exact List.mem_map.2 ⟨p,hp,rfl⟩
 have h3:=h (p.1,p.2+up t.kind 0) hm
 exact h3
theorem rred_c{t x:Tm}(hv:RV t x)(hs:t.shape=true)(hz:t.size≤4096)(hix:∀p∈t.vars 0,0≤p.1∧p.1<1073741824):PC E 82 [.agg t.view] (.agg x.view):=by
 have hfull:=shape_full t hs
 cases hv with
 |beta i th j s b a=>
  have hb:b.shape=true:=shape_args (shape_args hs (.mk 2 j s [b]) (by simp)) b (by simp)
  have ha:a.shape=true:=shape_args hs a (by simp)
  have hsz:(Tm.mk 3 i th [Tm.mk 2 j s [b],a]).size=2+b.size+a.size:=by simp[Tm.size,Tm.sizes];omega
  have fb:=shape_full b hb
  have fa:=shape_full a ha
  have hia:=idx_arg (t:=Tm.mk 3 i th [Tm.mk 2 j s [b],a]) (x:=a) (by simp) hix
  have hib:=idx_arg (t:=Tm.mk 2 j s [b]) (x:=b) (by simp) (idx_arg (t:=Tm.mk 3 i th [Tm.mk 2 j s [b],a]) (x:=Tm.mk 2 j s [b]) (by simp) hix)
  have h1:=rin_c 0 a (by omega) ha (by omega) (fun p hp=>by have:=hia p hp;omega) _ b 0 (Nat.le_refl _) (by omega) (by omega) (by omega) hb (fun p hp=>by have:=hib p hp;omega)
  refine M.F Tryz.func82 ?_
  repeat'(first|refine M.gw ?_|refine M.c2 (h1) ?_|refine M.bl ?_|fail)
  rfl
 |rz i th _ f j s=>
  refine M.F Tryz.func82 ?_
  repeat'(first|refine M.gw ?_|refine M.bl ?_|fail)
  rfl
 |fz i th _ f j s=>
  refine M.F Tryz.func82 ?_
  repeat'(first|refine M.gw ?_|refine M.bl ?_|fail)
  rfl
 |rs i th x f j s n=>
  have hff:(Tm.mk 6 i th [x,f,Tm.mk 5 j s [n]]).full=2+th.size+s.size+x.full+f.full+n.full:=by simp[Tm.full,Tm.fulls];omega
  have h1:=n_c 3 [f,n] (by simp;omega)
  have h2:=t_c 6 th [x,f,n] (by simp;omega) (by omega)
  have h3:=n_c 3 [apT f n,.mk 6 0 th [x,f,n]] (by simp[apT,Tm.full,Tm.fulls,Ty.size,Ty.sizes];omega)
  refine M.F Tryz.func82 ?_
  repeat'(first|refine M.gw ?_|refine M.c2 (h1) ?_|refine M.c2 (h2) ?_|refine M.c2 (h3) ?_|refine M.bl ?_|fail)
  rfl
 |fs i th x f j s n l=>
  have hff:(Tm.mk 9 i th [x,f,Tm.mk 8 j s [n,l]]).full=2+th.size+s.size+x.full+f.full+n.full+l.full:=by simp[Tm.full,Tm.fulls];omega
  have h1:=n_c 3 [f,n] (by simp;omega)
  have h2:=n_c 3 [apT f n,l] (by simp[apT,Tm.full,Tm.fulls,Ty.size,Ty.sizes];omega)
  have h3:=t_c 9 th [x,f,l] (by simp;omega) (by omega)
  have h4:=n_c 3 [apT (apT f n) l,.mk 9 0 th [x,f,l]] (by simp[apT,Tm.full,Tm.fulls,Ty.size,Ty.sizes];omega)
  refine M.F Tryz.func82 ?_
  repeat'(first|refine M.gw ?_|refine M.c2 (h1) ?_|refine M.c2 (h2) ?_|refine M.c2 (h3) ?_|refine M.c2 (h4) ?_|refine M.bl ?_|fail)
  rfl
 |p1 i th j s _ y=>
  refine M.F Tryz.func82 ?_
  repeat'(first|refine M.gw ?_|refine M.bl ?_|fail)
  rfl
 |p2 i th j s y _=>
  refine M.F Tryz.func82 ?_
  repeat'(first|refine M.gw ?_|refine M.bl ?_|fail)
  rfl
def nxV(t:Tm)(o:Option (Tm×Bool)):V:= .tup [.agg ((o.map (·.1)).getD t).view,.bool o.isSome,.bool ((o.map (·.2)).getD true)]
theorem rnext_c(room:Int):∀(n:Nat) (t:Tm),t.size≤n→t.shape=true→t.size≤4096→(∀p∈t.vars 0,0≤p.1∧p.1<1073741824)→PC E 51 [.agg t.view,.i room] (nxV t (nxR room t)):=by
 intro n
 induction n with
 |zero=>intro t h;have:=t.size_pos;omega
 |succ n ih=>
 intro t hsz hs hz hix
 have hfull:=shape_full t hs
 have hse:=t.size_eq
 have hlen:=lsum_len Tm.size Tm.size_pos t.args
 have h1:=root_c t hs
 have he:=nxR_eq room t
 by_cases hr:rootT t=true
 ·have h2:=rgrow_c (root_rv hs hr) hs hz
  rw[hr] at h1
  rw[if_pos hr] at he
  by_cases hg:growT t>room
  ·rw [if_pos hg] at he
   rw[he]
   refine AC.mk Tryz.func51 rfl rfl rfl rfl rfl (Nat.le_of_ble_eq_true rfl) ?_
   repeat'(first|((with_reducible refine D.nil ?_);refine AX.nilL ?_)|((with_reducible refine D.load ?_);refine L.ldb U U U U U U ?_)|((with_reducible refine D.move ?_);refine L.mv U U U ?_)|((with_reducible refine D.assign ?_);refine L.asg U U U ?_)|((with_reducible refine D.bin ?_);refine L.bn U U U U U ?_)|((with_reducible refine D.call ?_);first|refine L.c2 (h1) U U U U ?_|refine L.c2 (h2) U U U U ?_)|((with_reducible refine D.box ?_);refine L.bx U U U U ?_)|((with_reducible refine D.alloc ?_);refine L.al U U U ?_)|((with_reducible refine D.store ?_);refine L.st U U U U U U U U U ?_)|((with_reducible refine D.ax ?_);refine L.bd U U U U U ?_)|((with_reducible refine D.aw ?_);first|refine K.sq (AW.regL ?_)|refine K.sq (K.sq ?_)|refine AW.regL ?_|refine AW.condT U ?_|refine AW.condS U (fun h=> ?_) (fun h=> ?_)|refine AW.skip ?_|refine AW.ret ?_)|with_reducible refine K.tN ?_|with_reducible refine K.tR ?_|with_reducible refine K.r1 (by with_unfolding_all rfl) (by with_unfolding_all rfl) ?_)
   all_goals first
    |rfl
    |(exfalso;simp at h;omega)
  ·rw [if_neg hg] at he
   rw[he]
   have h3:=rred_c (root_rv hs hr) hs hz hix
   refine AC.mk Tryz.func51 rfl rfl rfl rfl rfl (Nat.le_of_ble_eq_true rfl) ?_
   repeat'(first|((with_reducible refine D.nil ?_);refine AX.nilL ?_)|((with_reducible refine D.load ?_);refine L.ldb U U U U U U ?_)|((with_reducible refine D.move ?_);refine L.mv U U U ?_)|((with_reducible refine D.assign ?_);refine L.asg U U U ?_)|((with_reducible refine D.bin ?_);refine L.bn U U U U U ?_)|((with_reducible refine D.call ?_);first|refine L.c2 (h1) U U U U ?_|refine L.c2 (h2) U U U U ?_|refine L.c2 (h3) U U U U ?_)|((with_reducible refine D.box ?_);refine L.bx U U U U ?_)|((with_reducible refine D.alloc ?_);refine L.al U U U ?_)|((with_reducible refine D.store ?_);refine L.st U U U U U U U U U ?_)|((with_reducible refine D.ax ?_);refine L.bd U U U U U ?_)|((with_reducible refine D.aw ?_);first|refine K.sq (AW.regL ?_)|refine K.sq (K.sq ?_)|refine AW.regL ?_|refine AW.condT U ?_|refine AW.condS U (fun h=> ?_) (fun h=> ?_)|refine AW.skip ?_|refine AW.ret ?_)|with_reducible refine K.tN ?_|with_reducible refine K.tR ?_|with_reducible refine K.r1 (by with_unfolding_all rfl) (by with_unfolding_all rfl) ?_)
   all_goals first
    |rfl
    |(exfalso;simp at h;omega)
 rw[if_neg hr] at he
 rw[Bool.not_eq_true] at hr
 rw[hr] at h1
 have hih:∀m (hm:m<t.args.length),PC E 51 [.agg t.args[m].view,.i room] (nxV t.args[m] (nxR room t.args[m])):=fun m hm=>by
  have h5:=lsum_mem Tm.size (List.getElem_mem hm)
  exact ih t.args[m] (by omega) (shape_args hs _ (List.getElem_mem hm)) (by omega) (idx_arg (List.getElem_mem hm) hix)
 clear ih
 refine AC.mk Tryz.func51 rfl rfl rfl rfl rfl (Nat.le_of_ble_eq_true rfl) ?_
 repeat'(first|((with_reducible refine D.nil ?_);refine AX.nilL ?_)|((with_reducible refine D.load ?_);refine L.ldb U U U U U U ?_)|((with_reducible refine D.move ?_);refine L.mv U U U ?_)|((with_reducible refine D.fieldAddr ?_);refine L.fab U U U U U ?_)|((with_reducible refine D.assign ?_);refine L.asg U U U ?_)|((with_reducible refine D.call ?_);first|refine L.lnt U U U U ?_|refine L.c2 (h1) U U U U ?_)|((with_reducible refine D.box ?_);refine L.bx U U U U ?_)|((with_reducible refine D.alloc ?_);refine L.al U U U ?_)|((with_reducible refine D.aw ?_);first|refine K.sq (AW.regL ?_)|refine K.sq (K.sq ?_)|refine AW.regL ?_|refine AW.condF U ?_|refine AW.skip ?_)|with_reducible refine K.tN ?_)
 refine AW.range t.args.length (fun m=>∀j (hj:j<t.args.length),j<m→nxR room t.args[j]=none)
  (fun m=>([(1,.i room),(2,.ptr 0 0),(4,.ptr 1 0),(23,.s .tm t.args),(24,.i t.args.length),(25,.i m)],⟨2,[(0,.var t.view),(1,.var [.i 0,.i 0,.i 0,.slice .nil (.t .ty []),.slice .nil (.t .tm [])])]⟩))
  (by omega) (fun m=>rfl) (fun m=>rfl) U (fun j hj h=>by omega) (Weak.mk [some 0,some 1] _ _ _ U U U U (by(repeat'(first|exact trivial|refine And.intro ?_ ?_|refine⟨_,U,_,U,?_⟩|exact VLe.refl _));done) (by(repeat'(first|exact trivial|refine And.intro ?_ ?_|refine⟨_,U,_,U,_,U,?_⟩|exact VLe.refl _));done)) ?_ ?_
 ·intro m hm hP
  have hc:=hih m hm
  cases hn:nxR room t.args[m] with
  |none=>
   rw[hn] at hc
   simp only[nxV,Option.map_none,Option.getD_none,Option.isSome_none] at hc
   repeat'(first|((with_reducible refine D.nil ?_);refine AX.nilL ?_)|((with_reducible refine D.load ?_);first|refine L.ldb U U U U U U ?_|refine L.lda U U U U U ?_)|((with_reducible refine D.move ?_);refine L.mv U U U ?_)|((with_reducible refine D.assign ?_);refine L.asg U U U ?_)|((with_reducible refine D.call ?_);refine L.c2 (hc) U U U U ?_)|((with_reducible refine D.extract ?_);refine L.ex U U U U ?_)|((with_reducible refine D.alloc ?_);refine L.al U U U ?_)|((with_reducible refine D.store ?_);refine L.st U U U U U U U U U ?_)|((with_reducible refine D.indexAddr ?_);refine L.ixt _ U U U U U U U (by first|assumption|fail) ?_)|((with_reducible refine D.not ?_);refine L.nt U U U ?_)|((with_reducible refine D.aw ?_);first|refine K.sq (AW.regL ?_)|refine K.sq (K.sq ?_)|refine AW.regL ?_|refine AW.condT U ?_|refine AW.exit ?_)|with_reducible refine K.tN ?_|with_reducible refine K.tE ?_|with_reducible refine K.bX (by with_unfolding_all rfl) ?_)
   exact⟨rfl,all_step (p:=fun x:Tm=>nxR room x=none) hm hP hn,(Weak.mk [some 0,some 1] _ _ _ U U U U (by(repeat'(first|exact trivial|refine And.intro ?_ ?_|refine⟨_,U,_,U,?_⟩|exact VLe.refl _));done) (by(repeat'(first|exact trivial|refine And.intro ?_ ?_|refine⟨_,U,_,U,_,U,?_⟩|exact VLe.refl _));done))⟩
  |some u=>
   obtain⟨u,f⟩:=u
   rw[hn] at hc
   simp only[nxV,Option.map_some,Option.getD_some,Option.isSome_some] at hc
   have e:nxR room t=some (.mk t.kind t.index t.ty (t.args.set m u),f):=by rw[he,nxRs_at room t.args m hm (u,f) hn hP];rfl
   rw[e]
   simp only[nxV,Option.map_some,Option.getD_some,Option.isSome_some]
   repeat'(first|((with_reducible refine D.nil ?_);refine AX.nilL ?_)|((with_reducible refine D.load ?_);first|refine L.ldb U U U U U U ?_|refine L.lda U U U U U ?_)|((with_reducible refine D.move ?_);refine L.mv U U U ?_)|((with_reducible refine D.assign ?_);refine L.asg U U U ?_)|((with_reducible refine D.call ?_);refine L.c2 (hc) U U U U ?_)|((with_reducible refine D.extract ?_);refine L.ex U U U U ?_)|((with_reducible refine D.alloc ?_);refine L.al U U U ?_)|((with_reducible refine D.store ?_);refine L.st U U U U U U U U U ?_)|((with_reducible refine D.indexAddr ?_);refine L.ixt _ U U U U U U U (by first|assumption|fail) ?_)|((with_reducible refine D.not ?_);refine L.nt U U U ?_)|((with_reducible refine D.aw ?_);(fail_if_success with_reducible refine D.stopR (id:=11) ?_);(fail_if_success with_reducible refine D.stopS (id:=11) ?_);first|refine K.sq (AW.regL ?_)|refine K.sq (K.sq ?_)|refine AW.regL ?_|refine AW.condF U ?_|refine AW.skip ?_)|with_reducible refine K.tN ?_)
   refine K.sq (AW.regL ?_)
   refine L.fab rfl rfl rfl rfl rfl ?_
   refine L.ldb rfl rfl rfl rfl rfl rfl ?_
   refine L.apA (te:=32) rfl rfl rfl rfl (by kernel_rfl) rfl rfl rfl rfl (by omega) (by omega) ?_
   repeat'(first|((with_reducible refine D.nil ?_);refine AX.nilL ?_)|((with_reducible refine D.load ?_);refine L.ldb U U U U U U ?_)|((with_reducible refine D.move ?_);refine L.mv U U U ?_)|((with_reducible refine D.fieldAddr ?_);refine L.fab U U U U U ?_)|((with_reducible refine D.store ?_);refine L.st U U U U U U U U U ?_)|((with_reducible refine D.aw ?_);refine K.sq (AW.regL ?_))|with_reducible refine K.tN ?_)
   refine L.ixr m rfl rfl rfl rfl rfl hm rfl ?_
   refine L.sta (c:= .tm) (l:=t.args) (u:=u) m rfl rfl rfl rfl rfl rfl rfl rfl hm rfl ?_
   repeat'(first|((with_reducible refine D.nil ?_);refine AX.nilL ?_)|with_reducible refine K.tN ?_)
   refine AW.frz (c:= .tm) 5 t.args.length (t.args.set m u) rfl (by simp) (by(repeat'(first|exact trivial|exact fun _=>rfl|exact fun h=>absurd rfl h|exact fun h=>absurd h (by decide)|refine And.intro ?_ ?_|intro _));done) (by(repeat'(first|exact trivial|exact fun _=>rfl|exact fun h=>absurd rfl h|exact fun h=>absurd h (by decide)|refine And.intro ?_ ?_|intro _));done) ?_
   repeat'(first|((with_reducible refine D.nil ?_);refine AX.nilL ?_)|((with_reducible refine D.load ?_);refine L.ldb U U U U U U ?_)|((with_reducible refine D.move ?_);refine L.mv U U U ?_)|((with_reducible refine D.assign ?_);refine L.asg U U U ?_)|((with_reducible refine D.store ?_);refine L.st U U U U U U U U U ?_)|((with_reducible refine D.aw ?_);first|refine K.sq (AW.regL ?_)|refine AW.ret ?_)|with_reducible refine K.tN ?_|with_reducible refine K.tR ?_|with_reducible refine K.bR ?_|with_reducible refine K.gR ?_|with_reducible refine K.r1 (by with_unfolding_all rfl) (by with_unfolding_all rfl) ?_)
   rfl
 ·intro hP
  have e:nxR room t=none:=by rw[he,nxRs_none room t.args hP];rfl
  rw[e]
  simp only[nxV,Option.map_none,Option.getD_none,Option.isSome_none]
  repeat'(first|((with_reducible refine D.nil ?_);refine AX.nilL ?_)|((with_reducible refine D.load ?_);refine L.ldb U U U U U U ?_)|((with_reducible refine D.assign ?_);refine L.asg U U U ?_)|((with_reducible refine D.store ?_);refine L.st U U U U U U U U U ?_)|((with_reducible refine D.aw ?_);first|refine K.sq (AW.regL ?_)|refine AW.ret ?_)|with_reducible refine K.tN ?_|with_reducible refine K.r1 (by with_unfolding_all rfl) (by with_unfolding_all rfl) ?_)
  simp[tupV,V.wk,V.wks,constV,Tm.view]
theorem vars_depth(t:Tm):∀b:Int,∀p∈t.vars b,p.2<b+t.size:=by
 induction t using Tm.ind with
 |h t ih=>
  intro b p hp
  have hz:=t.size_eq
  rw[t.vars_eq,List.mem_append] at hp
  rcases hp with hp|hp
  ·split at hp
   ·simp at hp;subst hp;simp only;omega
   ·cases hp
  ·obtain ⟨x,hx,hp⟩:=List.mem_flatMap.1 hp
   have h1:=ih x hx _ p hp
   have h2:=lsum_mem Tm.size hx
   have:up t.kind b≤b+1:=by simp only[up];split<;>omega
   omega
theorem free_idx{t:Tm}(he:t.err=0)(hf:∀p∈t.vars 0,p.1-p.2≤536870912):∀p∈t.vars 0,0≤p.1∧p.1<1073741824:=fun p hp=>by
 obtain⟨hs,hz⟩:=err_zero he
 have h1:=t.vars_nonneg hs 0 p hp
 have h2:=hf p hp
 have h3:=vars_depth t 0 p hp
 omega
theorem nrm_none{t:Tm}(h:nxR (4096-t.size) t=none)(k n:Nat):nrm k t n=(t,(n:Int),0):=by
 cases k<;>simp only[nrm,h]
theorem rnormal_c(t:Tm)(steps:Int)(ht:t.full<274877906944):PC E 22 [.agg t.view,.i steps] (.tup [.agg (normR t steps).1.view,.i (normR t steps).2.1,.i (normR t steps).2.2]):=by
 have h1:=checkTmR_c t (by omega)
 unfold normR
 by_cases he:t.err=0
 case neg=>
  rw[if_pos he]
  refine M.F Tryz.func22 ?_
  repeat'(first|refine M.go ?_|refine M.c2 (h1) ?_|refine M.z1 4 ?_|refine M.cs ?_ ?_<;>intro h|refine M.gk ?_|fail)
  all_goals first
   |rfl
   |(exfalso;simp at h;exact he h)
 rw[he] at h1
 rw[if_neg (by simp[he])]
 obtain⟨hs,hz⟩:=err_zero he
 have h2:=rleast_c 536870912 (by omega) _ t (Nat.le_refl _) (by omega) hs
 rw[←near_least] at h2
 by_cases hst:0≤steps∧steps≤65536
 case neg=>
  rw[if_pos (.inl hst)]
  refine M.F Tryz.func22 ?_
  repeat'(first|refine M.gw ?_|refine M.c2 (h1) ?_|refine M.c2 (h2) ?_|refine M.gs ?_ ?_<;>intro h|refine M.cs ?_ ?_<;>intro h|fail)
  all_goals first
   |rfl
   |(exfalso;simp at h;omega)
   |(exfalso;simp at*;omega)
 cases hn:t.near with
 |false=>
  rw[hn] at h2
  rw[if_pos (.inr rfl)]
  refine M.F Tryz.func22 ?_
  repeat'(first|refine M.gw ?_|refine M.c2 (h1) ?_|refine M.c2 (h2) ?_|refine M.gs ?_ ?_<;>intro h|fail)
  all_goals first
   |rfl
   |(exfalso;simp at h;omega)
   |(exfalso;simp at*;omega)
 |true=>
 rw[hn] at h2
 rw[if_neg (by simp[hst])]
 have hfr:∀p∈t.vars 0,p.1-p.2≤536870912:=fun p hp=>by have:=near_all hn p hp;have:=vars_snd t 0 p hp;omega
 generalize hR:nrm steps.toNat t 0=r
 refine M.F Tryz.func22 ?_
 repeat'(first|refine M.gw ?_|refine M.c2 (h1) ?_|refine M.c2 (h2) ?_|refine M.gs ?_ ?_<;>intro h|fail)
 all_goals first
  |(exfalso;simp at h;omega)
  |skip
 refine AW.block (AW.loop (ι:={p:Tm×Nat // p.1.err=0∧(∀q∈p.1.vars 0,q.1-q.2≤536870912)∧p.2≤steps.toNat∧nrm (steps.toNat-p.2) p.1 p.2=r})
  (fun p=>([(1,.i steps),(2,.ptr 0 0),(4,.ptr 1 0),(8,.i p.1.2)],⟨2,[(0,.var p.1.1.view),(1,.var [.i 0,.i 0,.i 0,.slice .nil (.t .ty []),.slice .nil (.t .tm [])])]⟩)) (fun p=>steps.toNat-p.1.2) ⟨(t,0),he,hfr,Nat.zero_le _,hR⟩ (M.W [some 0,some 1]) ?_)
 rintro⟨⟨x,n⟩,hx,hxf,hxn,hxe⟩
 dsimp only at hx hxf hxn hxe ⊢
 obtain⟨hxs,hxz⟩:=err_zero hx
 have hfx:=terr_full hx
 have c1:=countTm_c _ x (Nat.le_refl _) (by omega)
 have c2:=rnext_c (4096-x.size) _ x (Nat.le_refl _) hxs hxz (free_idx hx hxf)
 have c3:=copyTm_c _ x (Nat.le_refl _) (by omega)
 cases hr:nxR (4096-x.size) x with
 |none=>
  rw[hr] at c2
  simp only[nxV,Option.map_none,Option.getD_none,Option.isSome_none] at c2
  rw[nrm_none hr] at hxe
  subst hxe
  repeat'(first|refine M.gw ?_|refine M.c2 (c1) ?_|refine M.c2 (c2) ?_|refine M.c2 (c3) ?_|refine M.zb ?_|fail)
  rfl
 |some y=>
  obtain⟨y,f⟩:=y
  rw[hr] at c2
  simp only[nxV,Option.map_some,Option.getD_some,Option.isSome_some] at c2
  by_cases hns:n=steps.toNat
  ·have e:r=(noTm,0,5):=by rw[←hxe,hns,Nat.sub_self];simp only[nrm,hr]
   subst e
   repeat'(first|refine M.gw ?_|refine M.c2 (c1) ?_|refine M.c2 (c2) ?_|refine M.zb ?_|refine M.cs ?_ ?_<;>intro h|fail)
   all_goals first
    |rfl
    |(exfalso;simp at h;omega)
    |(exfalso;simp at*;omega)
  ·obtain ⟨k,hk⟩:∃k,steps.toNat-n=k+1:=⟨steps.toNat-n-1,by omega⟩
   rw[hk] at hxe
   cases f with
   |false=>
    have e:r=(noTm,0,4):=by rw[←hxe];simp only[nrm,hr]
    subst e
    repeat'(first|refine M.gw ?_|refine M.c2 (c1) ?_|refine M.c2 (c2) ?_|refine M.zb ?_|refine M.cs ?_ ?_<;>intro h|fail)
    all_goals first
     |rfl
     |(exfalso;simp at h;omega)
     |(exfalso;simp at*;omega)
   |true=>
    have e:nrm k y (n+1)=r:=by rw[←hxe];simp only[nrm,hr]
    obtain⟨f1,f2,f3⟩:=nx_facts _ x y hxs hr
    repeat'(first|refine M.gw ?_|refine M.c2 (c1) ?_|refine M.c2 (c2) ?_|refine M.zb ?_|refine M.cs ?_ ?_<;>intro h|fail)
    all_goals first
     |(exfalso;simp at h;omega)
     |skip
    refine⟨⟨(y,n+1),nx_err hx hr,f3 _ (by omega) 0 (by omega) hxf,by show n+1≤_;omega,by rw[show steps.toNat-(n+1)=k by omega];exact e⟩,by show steps.toNat-(n+1)<steps.toNat-n;omega,?_⟩
    exact(M.W [some 0,some 1])
theorem rmtch_c(a b:Tm)(ha:a.full<274877906944)(hb:b.full<274877906944)(steps:Int):PC E 10 [.agg a.view,.agg b.view,.i steps] (.i (mtchR a b steps)):=by
 have h1:=checkTmR_c a (by omega)
 have h2:=checkTmR_c b (by omega)
 have h3:=sameTm_c _ a b (Nat.le_refl _) (by omega)
 have h4:=rnormal_c a steps ha
 have h5:=rnormal_c b steps hb
 unfold mtchR
 by_cases ea:a.err=0
 case neg=>
  rw[if_pos ea]
  refine M.F Tryz.func10 ?_
  repeat'(first|refine M.gw ?_|refine M.c2 (h1) ?_|refine M.cs ?_ ?_<;>intro h|fail)
  all_goals first
   |rfl
   |(exfalso;simp at h;exact ea h)
 rw[ea] at h1
 rw[if_neg (by simp[ea])]
 by_cases eb:b.err=0
 case neg=>
  rw[if_pos eb]
  refine M.F Tryz.func10 ?_
  repeat'(first|refine M.gw ?_|refine M.c2 (h1) ?_|refine M.c2 (h2) ?_|refine M.cs ?_ ?_<;>intro h|fail)
  all_goals first
   |rfl
   |(exfalso;simp at h;exact eb h)
 rw[eb] at h2
 rw[if_neg (by simp[eb])]
 by_cases eq:a=b
 ·rw [if_pos eq]
  rw[decide_eq_true eq] at h3
  refine M.F Tryz.func10 ?_
  repeat'(first|refine M.gw ?_|refine M.c2 (h1) ?_|refine M.c2 (h2) ?_|refine M.c2 (h3) ?_|fail)
  rfl
 rw[if_neg eq]
 rw[decide_eq_false eq] at h3
 have g1:(normR a steps).2.2=0→(normR a steps).1.full<274877906944:=fun h=>norm_full a steps h
 have g2:(normR b steps).2.2=0→(normR b steps).1.full<274877906944:=fun h=>norm_full b steps h
 generalize normR a steps=A at*
 generalize normR b steps=B at*
 obtain⟨x,n,e⟩:=A
 obtain⟨y,m,f⟩:=B
 dsimp only at h4 h5 g1 g2 ⊢
 by_cases he:e=0
 case neg=>
  rw[if_pos he]
  refine M.F Tryz.func10 ?_
  repeat'(first|refine M.gw ?_|refine M.c2 (h1) ?_|refine M.c2 (h2) ?_|refine M.c2 (h3) ?_|refine M.c2 (h4) ?_|refine M.cs ?_ ?_<;>intro h|fail)
  all_goals first
   |rfl
   |(exfalso;simp at h;exact he h)
 subst he
 rw[if_neg (by simp)]
 by_cases hf:f=0
 case neg=>
  rw[if_pos hf]
  refine M.F Tryz.func10 ?_
  repeat'(first|refine M.gw ?_|refine M.c2 (h1) ?_|refine M.c2 (h2) ?_|refine M.c2 (h3) ?_|refine M.c2 (h4) ?_|refine M.c2 (h5) ?_|refine M.cs ?_ ?_<;>intro h|fail)
  all_goals first
   |rfl
   |(exfalso;simp at h;exact hf h)
 subst hf
 rw[if_neg (by simp)]
 have h6:=sameTm_c _ x y (Nat.le_refl _) (by have:=g1 rfl;omega)
 refine M.F Tryz.func10 ?_
 repeat'(first|refine M.gw ?_|refine M.c2 (h1) ?_|refine M.c2 (h2) ?_|refine M.c2 (h3) ?_|refine M.c2 (h4) ?_|refine M.c2 (h5) ?_|refine M.c2 (h6) ?_|refine M.cs ?_ ?_<;>intro h|fail)
 ·have:¬x=y:=by simpa using h
  rw[if_neg this]
  rfl
 ·have:x=y:=by simpa using h
  rw[if_pos this]
  rfl
theorem limits36_c(e:Int)(h:e=0∨e=4∨e=5):PC E 9 [.i e] (.bool (decide (e≠0))):=by
 rcases h with rfl|rfl|rfl
 ·refine M.F Tryz.func9 ?_
  repeat'(first|refine M.gw ?_|fail)
  rfl
 ·refine M.F Tryz.func9 ?_
  repeat'(first|refine M.gw ?_|fail)
  rfl
 ·refine M.F Tryz.func9 ?_
  repeat'(first|refine M.gw ?_|fail)
  rfl
end Go.Ab
