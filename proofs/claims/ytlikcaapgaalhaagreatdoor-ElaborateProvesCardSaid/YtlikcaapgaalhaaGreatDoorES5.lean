/- A part of this seat's proofs. No conditions. -/
import Derived.Test.YtlikcaapgaalhaaGreatDoorES4
namespace Go.Ab
open Go Go.Proofs
set_option maxRecDepth 100000
set_option maxHeartbeats 4000000
set_option linter.all false
theorem rbelow_c(t:Tm):PC E 101 [.agg t.view] (.i (up t.kind 0)):=by
 refine M.F Tryz.func101 ?_
 repeat'(first|refine M.w0 ?_|refine M.cs ?_ ?_<;>intro h|fail)
 ·have e:up t.kind 0=1:=by simp only[beq_iff_eq] at h;rw[h];rfl
  rw[e];rfl
 ·have e:up t.kind 0=0:=by simp only[beq_eq_false_iff_ne,ne_eq] at h;exact if_neg h
  rw[e];rfl
theorem up_bd(k b:Int):b≤up k b∧up k b≤b+1:=by simp only[up];split<;>omega
theorem up_plus(k b:Int):b+up k 0=up k b:=by simp only[up];split<;>omega
theorem rleast_c(most:Int)(h0:0≤most):∀(n:Nat) (t:Tm),t.full≤n→n<549755813888→t.shape=true→PC E 64 [.agg t.view,.i most] (.bool (leastT most t)):=by
 intro n
 induction n with
 |zero=>intro t h;have:=t.full_pos;omega
 |succ n ih=>
 intro t hsz hn hs
 have hsz':=Tm.full_eq t
 have hlen:=lsum_len Tm.full Tm.full_pos t.args
 have he:=leastT_eq h0 hs
 refine M.F Tryz.func64 ?_
 repeat'(first|refine M.w0 ?_|refine M.cs ?_ ?_<;>intro h|fail)
 ·have h1:¬t.index≤most:=by simp at h;omega
  rw[he,decide_eq_false h1];rfl
 have h1:t.index≤most:=by simp at h;omega
 rw[decide_eq_true h1,Bool.true_and] at he
 refine M.rp t.args.length (fun m=>∀j (hj:j<t.args.length),j<m→leastT most t.args[j]=true)
  (fun m=>([(1,.i most),(2,.ptr 0 0),(12,.s .tm t.args),(13,.i t.args.length),(14,.i m)],⟨1,[(0,.var t.view)]⟩))
  (fun j hj h=>by omega) (M.W rh1) ?_ ?_
 ·intro m hm hP
  have hs2:=lsum_mem Tm.full (List.getElem_mem hm)
  have hc:=ih t.args[m] (by omega) (by omega) (shape_args hs _ (List.getElem_mem hm))
  repeat'(first|refine M.w1 @hc ?_|refine M.cs ?_ ?_<;>intro h|fail)
  ·have hx:leastT most t.args[m]=false:=by simpa using h
   rw[he,all_not (leastT most) hm hx];rfl
  ·have hx:leastT most t.args[m]=true:=by simpa using h
   exact⟨rfl,all_step (p:=fun t=>leastT most t=true) hm hP hx,(M.W rh1)⟩
 ·intro hP
  rw[he,all_of (leastT most) t.args fun j hj=>hP j hj hj]
  refine M.w0 ?_
  rfl
theorem rhas_c:∀(n:Nat) (t:Tm) (at_:Int),t.full≤n→n<274877906944→-274877906944≤at_→at_+n<549755813888→t.shape=true→PC E 224 [.agg t.view,.i at_] (.bool (decide (timesT at_ t≠0))):=by
 intro n
 induction n with
 |zero=>intro t at_ h;have:=t.full_pos;omega
 |succ n ih=>
 intro t at_ hsz hn h1 h2 hs
 have hsz':=Tm.full_eq t
 have hlen:=lsum_len Tm.full Tm.full_pos t.args
 have he:=timesT_eq at_ t
 have hup:=up_bd t.kind at_
 have hpl:=up_plus t.kind at_
 have hb:=rbelow_c t
 by_cases hv:t.kind=1∧t.index=at_
 ·rw [if_pos hv] at he
  rw[he]
  refine M.F Tryz.func224 ?_
  repeat'(first|refine M.o0 ?_|refine M.gs ?_ ?_<;>intro h|refine M.z1 4 ?_|refine M.cs ?_ ?_<;>intro h|refine M.gk ?_|fail)
  all_goals first
   |rfl
   |(exfalso;simp[hv.1,hv.2] at*;done)
   |(exfalso;simp_all;done)
 rw[if_neg hv] at he
 refine M.F Tryz.func224 ?_
 repeat'(first|refine M.w0 ?_|refine M.gs ?_ ?_<;>intro h|refine M.cs ?_ ?_<;>intro h|fail)
 all_goals first
  |(exfalso;simp_all;done)
  |skip
 all_goals
  refine M.rp t.args.length (fun m=>∀j (hj:j<t.args.length),j<m→timesT (up t.kind at_) t.args[j]=0)
   (fun m=>([(1,.i at_),(2,.ptr 0 0),(17,.s .tm t.args),(18,.i t.args.length),(19,.i m)],⟨1,[(0,.var t.view)]⟩))
   (fun j hj h=>by omega) (M.W rh1) ?_ ?_
  ·intro m hm hP
   have hs2:=lsum_mem Tm.full (List.getElem_mem hm)
   have hc:=ih t.args[m] (up t.kind at_) (by omega) (by omega) (by omega) (by omega) (shape_args hs _ (List.getElem_mem hm))
   rw[←hpl] at hc
   rw[←hpl] at hP he
   repeat'(first|refine M.w2 @hb @hc ?_|refine M.cs ?_ ?_<;>intro h|fail)
   ·have hx:timesT (at_+up t.kind 0) t.args[m]≠0:=by simpa using h
    rw[he,decide_eq_true (sum_pos hm hx)];rfl
   ·have hx:timesT (at_+up t.kind 0) t.args[m]=0:=by simpa using h
    exact⟨rfl,by rw[←hpl];exact all_step (p:=fun t'=>timesT (at_+up t.kind 0) t'=0) hm hP hx,(M.W rh1)⟩
  ·intro hP
   rw[he,sum_zero fun j hj=>hP j hj hj]
   refine M.w0 ?_
   rfl
theorem rtimes_c:∀(n:Nat) (t:Tm) (at_:Int),t.full≤n→n<274877906944→-274877906944≤at_→at_+n<549755813888→t.shape=true→PC E 102 [.agg t.view,.i at_] (.i (timesT at_ t)):=by
 intro n
 induction n with
 |zero=>intro t at_ h;have:=t.full_pos;omega
 |succ n ih=>
 intro t at_ hsz hn h1 h2 hs
 have hsz':=Tm.full_eq t
 have hlen:=lsum_len Tm.full Tm.full_pos t.args
 have he:=timesT_eq at_ t
 have hup:=up_bd t.kind at_
 have hpl:=up_plus t.kind at_
 have hb:=rbelow_c t
 by_cases hv:t.kind=1∧t.index=at_
 ·rw [if_pos hv] at he
  rw[he]
  have ha:=var_args hs hv.1
  obtain⟨k,i,th,xs⟩:=t
  simp only[Tm.args_mk] at ha
  subst ha
  obtain⟨hv1,hv2⟩:=hv
  simp only[Tm.kind_mk,Tm.index_mk] at hv1 hv2
  subst hv1;subst hv2
  refine M.F Tryz.func102 ?_
  repeat'(first|refine M.w0 ?_|refine M.cs ?_ ?_<;>intro h|fail)
  all_goals first
   |(exfalso;simp at h;done)
   |skip
  all_goals
   refine M.rt 0 (fun m=>([(1,.i i),(2,.ptr 0 0),(5,.i 1),(20,.s .tm []),(21,.i 0),(22,.i m)],⟨1,[(0,.var (Tm.mk 1 i th []).view)]⟩))
    (M.W rh1) ?_ ?_
   ·intro m hm;omega
   ·intro _
    refine M.w0 ?_
    rfl
 rw[if_neg hv] at he
 refine M.F Tryz.func102 ?_
 repeat'(first|refine M.w0 ?_|refine M.gs ?_ ?_<;>intro h|refine M.cs ?_ ?_<;>intro h|fail)
 all_goals first
  |(exfalso;simp_all;done)
  |skip
 all_goals
  refine M.rt t.args.length
   (fun m=>([(1,.i at_),(2,.ptr 0 0),(5,.i (((t.args.take m).map (timesT (up t.kind at_))).sum:Nat)),(20,.s .tm t.args),(21,.i t.args.length),(22,.i m)],⟨1,[(0,.var t.view)]⟩))
   (M.W rh1) ?_ ?_
  ·intro m hm _
   have hs1:=lsum_take (timesT (up t.kind at_)) t.args m hm
   have hs2:=lsum_mem Tm.full (List.getElem_mem hm)
   have hs3:((t.args.take m).map (timesT (up t.kind at_))).sum≤(t.args.map Tm.full).sum:=by
    have a1:=lsum_take_le Tm.full t.args m
    have a2:=lsum_le (f:=timesT (up t.kind at_)) (g:=Tm.full) (t.args.take m) fun x _=>Nat.le_trans (timesT_le x _) x.size_le_full
    omega
   have hs4:=timesT_le t.args[m] (up t.kind at_)
   have hs5:=t.args[m].size_le_full
   have hc:=ih t.args[m] (up t.kind at_) (by omega) (by omega) (by omega) (by omega) (shape_args hs _ (List.getElem_mem hm))
   rw[←hpl] at hc hs1 hs3 hs4
   simp only[←hpl]
   refine M.w2 @hb @hc ?_
   refine⟨rfl,trivial,?_⟩
   simp only[hs1]
   exact(M.W rh1)
  ·intro _
   refine M.w0 ?_
   rw[he]
   simp[tupV,V.wk,V.wks,constV]
theorem rup_w(by_:Int)(hby: -549755813888≤by_∧by_≤549755813888):∀(n:Nat) (t:Tm) (fr:Int),t.full≤n→n<274877906944→-274877906944≤fr→fr+n<549755813888→t.shape=true→(∀p∈t.vars 0,0≤p.1∧p.1<9223372036854775808∧p.1+by_<9223372036854775808)→
 PC E 65 [.agg t.view,.i fr,.i by_] (.agg (t.re (liftG fr by_) 0).view):=by
 intro n
 induction n with
 |zero=>intro t fr h;have:=t.full_pos;omega
 |succ n ih=>
 intro t fr hsz hn h1 h2 hs hix
 have hsz':=Tm.full_eq t
 have hlen:=lsum_len Tm.full Tm.full_pos t.args
 have hup:=up_bd t.kind fr
 have hpl:=up_plus t.kind fr
 have hb:=rbelow_c t
 by_cases hv:t.kind=1
 ·have ht:=var_vT hs hv
  have hi:=hix (t.index,0) (by rw[vars_var hs hv];simp)
  rw[ht]
  generalize t.index=i at hi
  simp only at hi
  rw[re_vT,liftG_eq]
  have hvi:(vT i).index=i:=rfl
  refine M.F Tryz.func65 ?_
  repeat'(first|refine M.w0 ?_|refine M.cs ?_ ?_<;>intro h|fail)
  all_goals first
   |(exfalso;simp at h;done)
   |skip
  ·have h3:i-0≥fr:=by simp at h;omega
   rw[if_pos h3]
   refine M.rt 0 (fun m=>([(1,.i fr),(2,.i by_),(3,.ptr 0 0),(6,.ptr 1 0),(7,.ptr 2 0),(32,.s .tm []),(33,.i 0),(34,.i m)],⟨3,[(0,.var (vT i).view),(1,.var [.i 0,.i 0,.i 0,.slice .nil (.t .ty []),.slice .nil (.t .tm [])]),(2,.var [.i 1,.i (i+by_),.i 0,.s .ty [],.slice .nil (.t .tm [])])]⟩))
    (M.W rh3) ?_ ?_
   ·intro m hm;omega
   ·intro _
    refine M.w0 ?_
    rfl
  ·have h3:¬i-0≥fr:=by simp at h;omega
   rw[if_neg h3]
   refine M.rt 0 (fun m=>([(1,.i fr),(2,.i by_),(3,.ptr 0 0),(6,.ptr 1 0),(7,.ptr 2 0),(32,.s .tm []),(33,.i 0),(34,.i m)],⟨3,[(0,.var (vT i).view),(1,.var [.i 0,.i 0,.i 0,.slice .nil (.t .ty []),.slice .nil (.t .tm [])]),(2,.var [.i 1,.i i,.i 0,.s .ty [],.slice .nil (.t .tm [])])]⟩))
    (M.W rh3) ?_ ?_
   ·intro m hm;omega
   ·intro _
    refine M.w0 ?_
    rfl
 have he:=lift_node (fr:=fr) (by_:=by_) hv
 refine M.F Tryz.func65 ?_
 repeat'(first|refine M.w0 ?_|refine M.gs ?_ ?_<;>intro h|refine M.cs ?_ ?_<;>intro h|fail)
 all_goals first
  |(exfalso;simp_all;done)
  |skip
 all_goals
  refine M.rt t.args.length (fun m=>([(1,.i fr),(2,.i by_),(3,.ptr 0 0),(6,.ptr 1 0),(7,.ptr 2 0),(32,.s .tm t.args),(33,.i t.args.length),(34,.i m)],⟨4,[(0,.var t.view),(1,.var [.i 0,.i 0,.i 0,.slice .nil (.t .ty []),.slice .nil (.t .tm [])]),(2,.var [.i t.kind,.i t.index,.i t.ty.kind,.s .ty t.ty.args,.slice (.own 3) (.t .tm ((t.args.take m).map fun x=>x.re (liftG (up t.kind fr) by_) 0))]),(3,.row)]⟩))
   (M.W rn3) ?_ ?_
  ·intro m hm _
   have hs2:=lsum_mem Tm.full (List.getElem_mem hm)
   have hc:=ih t.args[m] (up t.kind fr) (by omega) (by omega) (by omega) (by omega) (shape_args hs _ (List.getElem_mem hm)) (fun p hp=>by
    obtain⟨q,hq,hqe⟩:=vars_idx (b':=up t.kind 0) p hp
    have:=hix q (mem_vars hv (List.getElem_mem hm) hq)
    rw[←hqe];exact this)
   rw[←hpl] at hc
   simp only[←hpl]
   refine M.w2 @hb @hc ?_
   exact⟨rfl,trivial,(M.W [some 0,some 1,some 2,some 5] (he:=(by(repeat'(first|exact trivial|exact Or.inr ⟨_,U,rfl⟩|refine And.intro ?_ ?_|refine⟨_,U,_,U,_,U,?_⟩|exact VLe.refl _|exact VLe.of_eq (by simp[Sto.upd,map_take _ _ _ hm])));done)))⟩
  ·intro _
   simp only[List.take_length]
   refine M.w0 ?_
   rw[he]
   simp[tupV,V.wk,V.wks,constV,Ty.view,Tm.view]
theorem rup_c(by_:Int)(hby: -549755813888≤by_∧by_≤549755813888):∀(n:Nat) (t:Tm) (fr:Int),t.full≤n→n<274877906944→-274877906944≤fr→fr+n<549755813888→t.shape=true→(∀p∈t.vars 0,0≤p.1∧p.1<549755813888)→
 PC E 65 [.agg t.view,.i fr,.i by_] (.agg (t.re (liftG fr by_) 0).view):=
 fun n t fr h1 h2 h3 h4 h5 h6=>rup_w by_ hby n t fr h1 h2 h3 h4 h5 fun p hp=>by have:=h6 p hp;omega
theorem rquant_c(k:Int):PC E 99 [.i k] (.bool (quantK k)):=by
 have e:quantK k=decide (k=4∨k=5∨k=6∨k=7):=by rw[Bool.eq_iff_iff,quantK_iff,decide_eq_true_iff];omega
 rw[e]
 refine M.F Tryz.func99 ?_
 repeat'(first|refine M.w0 ?_|refine M.gs ?_ ?_<;>intro h|fail)
 all_goals(simp_all[tupV,V.wk,V.wks,constV];try(first|omega|(rw[Bool.eq_iff_iff];simp)))
theorem rfbelow_c(f:Fm):PC E 103 [.agg f.view] (.i (upF f.kind 0)):=by
 have h1:=rquant_c f.kind
 cases hq:quantK f.kind with
 |true=>
  have e:upF f.kind 0=1:=by simp[upF,hq]
  rw[hq] at h1
  rw[e]
  refine M.F Tryz.func103 ?_
  refine M.w1 @h1 ?_
  rfl
 |false=>
  have e:upF f.kind 0=0:=by simp[upF,hq]
  rw[hq] at h1
  rw[e]
  refine M.F Tryz.func103 ?_
  refine M.w1 @h1 ?_
  rfl
theorem upF_plus(k b:Int):b+upF k 0=upF k b:=by simp only[upF];split<;>omega
theorem tyok_err(t:Ty):t.ok=(t.err==0):=Ty.ok_err t
theorem fshapeEq{f:Fm}(hk:f.kind=1):f.shape=(decide (f.args.length=0)&&f.ty.isNo&&decide (f.terms.length=2)&&f.terms.all Tm.shape):=by
 rw[Fm.shape_eq]
 simp only[Fm.head,hk,if_true]
 by_cases h:f.args.length=0
 ·have ha:f.args=[]:=List.length_eq_zero_iff.1 h
  rw[ha]
  cases f.ty.isNo<;>simp
  rw[Bool.eq_iff_iff];simp
 ·simp [h]
theorem fshapeTwo{f:Fm}(hk:f.kind=2∨f.kind=3):f.shape=(decide (f.terms.length=0)&&f.ty.isNo&&decide (f.args.length=2)&&f.args.all Fm.shape):=by
 rw[Fm.shape_eq]
 have h1:¬f.kind=1:=by omega
 simp only[Fm.head,if_neg h1,if_pos hk]
 by_cases h:f.terms.length=0
 ·have ha:f.terms=[]:=List.length_eq_zero_iff.1 h
  rw[ha]
  cases f.ty.isNo<;>simp
  rw[Bool.eq_iff_iff];simp
 ·simp [h]
theorem fshapeQu{f:Fm}(hk:quantK f.kind=true):f.shape=(decide (f.terms.length=0)&&f.ty.ok&&decide (f.args.length=1)&&f.args.all Fm.shape):=by
 rw[Fm.shape_eq]
 rw[quantK_iff] at hk
 have h1:¬f.kind=1:=by omega
 have h2:¬(f.kind=2∨f.kind=3):=by omega
 have h3:f.kind=4∨f.kind=5∨f.kind=6∨f.kind=7:=by omega
 simp only[Fm.head,if_neg h1,if_neg h2,if_pos h3]
 by_cases h:f.terms.length=0
 ·have ha:f.terms=[]:=List.length_eq_zero_iff.1 h
  rw[ha]
  cases f.ty.ok<;>simp
  rw[Bool.eq_iff_iff];simp
 ·simp [h]
theorem fshapeNo{f:Fm}(h1:f.kind≠1)(h2:¬(f.kind=2∨f.kind=3))(h3:quantK f.kind=false):f.shape=false:=by
 rw[Fm.shape_eq]
 have h4:¬(f.kind=4∨f.kind=5∨f.kind=6∨f.kind=7):=by
  intro hc
  have:quantK f.kind=true:=by rw[quantK_iff];omega
  rw[h3] at this;cases this
 simp only[Fm.head,if_neg h1,if_neg h2,if_neg h4,Bool.false_and]
theorem fshapeR_c:∀(n:Nat) (f:Fm),f.full≤n→n<549755813888→PC E 61 [.agg f.view] (.bool f.shape):=by
 intro n
 induction n with
 |zero=>intro f h;have:=f.full_pos;omega
 |succ n ih=>
 intro f hsz hn
 have hsz':=f.full_eq
 have hlen:=lsum_len Fm.full Fm.full_pos f.args
 have hlen2:=lsum_len Tm.full Tm.full_pos f.terms
 have hz:=zeroTy_c f.ty
 have hty:=checkTyR_c f.ty (by omega)
 have hq:=rquant_c f.kind
 have ht:∀x∈f.terms,PC E 98 [.agg x.view] (.bool x.shape):=fun x hx=>shapeTm_c _ x (Nat.le_refl _) (by have:=lsum_mem Tm.full hx;omega)
 have ha:∀x∈f.args,PC E 61 [.agg x.view] (.bool x.shape):=fun x hx=>ih x (by have:=lsum_mem Fm.full hx;omega) (by omega)
 clear ih
 by_cases k1:f.kind=1
 ·have e:=fshapeEq k1
  obtain⟨k,ty,ts,fs⟩:=f
  simp only[Fm.kind_mk,Fm.ty_mk,Fm.terms_mk,Fm.args_mk] at*
  subst k1
  by_cases hl:ts.length=2
  ·obtain ⟨a,b,rfl⟩:=len_2 hl
   have t1:=ht a (by simp)
   have t2:=ht b (by simp)
   rw[e]
   refine M.F Tryz.func61 ?_
   repeat'(first|refine M.w3 @hz @t1 @t2 ?_|refine M.gs ?_ ?_<;>intro h|refine M.zb ?_|fail)
   all_goals(simp at*;simp_all[tupV,V.wk,V.wks,constV];done)
  ·have e2:(Fm.mk 1 ty ts fs).shape=false:=by rw[e];simp[hl]
   rw[e2]
   refine M.F Tryz.func61 ?_
   repeat'(first|refine M.w1 @hz ?_|refine M.gs ?_ ?_<;>intro h|refine M.zb ?_|fail)
   all_goals first
    |(simp at*;simp_all[tupV,V.wk,V.wks,constV];done)
    |(exfalso;simp at*;omega)
 by_cases k2:f.kind=2∨f.kind=3
 ·have e:=fshapeTwo k2
  obtain⟨k,ty,ts,fs⟩:=f
  simp only[Fm.kind_mk,Fm.ty_mk,Fm.terms_mk,Fm.args_mk] at*
  by_cases hl:fs.length=2
  ·obtain ⟨a,b,rfl⟩:=len_2 hl
   have t1:=ha a (by simp)
   have t2:=ha b (by simp)
   rw[e]
   rcases k2 with rfl|rfl
   all_goals
    refine M.F Tryz.func61 ?_
    repeat'(first|refine M.w3 @hz @t1 @t2 ?_|refine M.gs ?_ ?_<;>intro h|refine M.zb ?_|fail)
    all_goals(simp at*;simp_all[tupV,V.wk,V.wks,constV];done)
  ·have e2:(Fm.mk k ty ts fs).shape=false:=by rw[e];simp[hl]
   rw[e2]
   rcases k2 with rfl|rfl
   all_goals
    refine M.F Tryz.func61 ?_
    repeat'(first|refine M.w1 @hz ?_|refine M.gs ?_ ?_<;>intro h|refine M.zb ?_|fail)
    all_goals first
     |(simp at*;simp_all[tupV,V.wk,V.wks,constV];done)
     |(exfalso;simp at*;omega)
 cases k3:quantK f.kind with
 |true=>
  have e:=fshapeQu k3
  rw[k3] at hq
  have hk:f.kind=4∨f.kind=5∨f.kind=6∨f.kind=7:=by rw[quantK_iff] at k3;omega
  obtain⟨k,ty,ts,fs⟩:=f
  simp only[Fm.kind_mk,Fm.ty_mk,Fm.terms_mk,Fm.args_mk] at*
  rw[tyok_err] at e
  by_cases hl:fs.length=1
  ·obtain ⟨a,rfl⟩:=len_1 hl
   have t1:=ha a (by simp)
   rw[e]
   rcases hk with rfl|rfl|rfl|rfl
   all_goals
    refine M.F Tryz.func61 ?_
    repeat'(first|refine M.w3 @hty @hq @t1 ?_|refine M.gs ?_ ?_<;>intro h|refine M.zb ?_|fail)
    all_goals(simp at*;simp_all[tupV,V.wk,V.wks,constV];done)
  ·have e2:(Fm.mk k ty ts fs).shape=false:=by rw[e];simp[hl]
   rw[e2]
   rcases hk with rfl|rfl|rfl|rfl
   all_goals
    refine M.F Tryz.func61 ?_
    repeat'(first|refine M.w2 @hty @hq ?_|refine M.gs ?_ ?_<;>intro h|refine M.zb ?_|fail)
    all_goals first
     |(simp at*;simp_all[tupV,V.wk,V.wks,constV];done)
     |(exfalso;simp at*;omega)
 |false=>
  have e:=fshapeNo k1 k2 k3
  rw[k3] at hq
  rw[e]
  refine M.F Tryz.func61 ?_
  repeat'(first|refine M.w1 @hq ?_|refine M.gs ?_ ?_<;>intro h|refine M.zb ?_|refine M.cs ?_ ?_<;>intro h|fail)
  all_goals first
   |rfl
   |(exfalso;simp at*;omega)
theorem fcountR_c:∀(n:Nat) (f:Fm),f.full≤n→n<549755813888→PC E 62 [.agg f.view] (.i f.size):=by
 intro n
 induction n with
 |zero=>intro f h;have:=f.full_pos;omega
 |succ n ih=>
 intro f hsz hn
 have hsz':=f.full_eq
 have hse:=f.size_eq
 have hlen:=lsum_len Fm.full Fm.full_pos f.args
 have hlen2:=lsum_len Tm.full Tm.full_pos f.terms
 have hle1:=lsum_le (f:=Tm.size) (g:=Tm.full) f.terms fun x _=>x.size_le_full
 have hle2:=lsum_le (f:=Fm.size) (g:=Fm.full) f.args fun x _=>x.size_le_full
 refine M.F Tryz.func62 ?_
 refine M.w0 ?_
 refine M.rt f.terms.length
  (fun m=>([(1,.ptr 0 0),(3,.i (1+((f.terms.take m).map Tm.size).sum:Nat)),(9,.s .tm f.terms),(10,.i f.terms.length),(11,.i m)],⟨1,[(0,.var f.view)]⟩))
  (M.W rh1) ?_ ?_
 ·intro m hm _
  have hs1:=lsum_take Tm.size f.terms m hm
  have hs2:=lsum_mem Tm.full (List.getElem_mem hm)
  have hs3:=lsum_take_le Tm.size f.terms (m+1)
  have hc:=countTm_c _ f.terms[m] (Nat.le_refl _) (by omega)
  refine M.w1 @hc ?_
  refine⟨rfl,trivial,?_⟩
  simp only[hs1]
  exact(M.W rh1 (hf:=(by(repeat'(first|exact trivial|refine And.intro ?_ ?_|refine⟨_,U,_,U,?_⟩|exact VLe.refl _|exact VLe.of_eq (by simp[Sto.upd,Int.natCast_add,Int.add_assoc])));done)))
 ·intro _
  simp only[List.take_length]
  refine M.w0 ?_
  refine M.rt f.args.length
   (fun m=>([(1,.ptr 0 0),(3,.i (1+(f.terms.map Tm.size).sum+((f.args.take m).map Fm.size).sum:Nat)),(21,.s .fm f.args),(22,.i f.args.length),(23,.i m)],⟨1,[(0,.var f.view)]⟩))
   (M.W rh1) ?_ ?_
  ·intro m hm _
   have hs1:=lsum_take Fm.size f.args m hm
   have hs2:=lsum_mem Fm.full (List.getElem_mem hm)
   have hs3:=lsum_take_le Fm.size f.args (m+1)
   have hc:=ih f.args[m] (by omega) (by omega)
   refine M.w1 @hc ?_
   refine⟨rfl,trivial,?_⟩
   simp only[hs1]
   exact(M.W rh1 (hf:=(by(repeat'(first|exact trivial|refine And.intro ?_ ?_|refine⟨_,U,_,U,?_⟩|exact VLe.refl _|exact VLe.of_eq (by simp[Sto.upd,Int.natCast_add,Int.add_assoc])));done)))
  ·intro _
   simp only[List.take_length]
   refine M.w0 ?_
   rw[hse]
   rfl
theorem fcheckR_c(f:Fm)(hf:f.full<549755813888):PC E 36 [.agg f.view] (.i f.err):=by
 have h1:=fshapeR_c _ f (Nat.le_refl _) hf
 have h2:=fcountR_c _ f (Nat.le_refl _) hf
 have hle:=f.size_le_full
 cases hs:f.shape with
 |false=>
  have e:f.err=2:=by simp[Fm.err,hs]
  rw[hs] at h1
  rw[e]
  refine M.F Tryz.func36 ?_
  refine M.w1 @h1 ?_
  rfl
 |true=>
  rw[hs] at h1
  by_cases hz:f.size>4096
  ·have e:f.err=4:=by simp[Fm.err,hs,hz]
   rw[e]
   refine M.F Tryz.func36 ?_
   repeat'(first|refine M.w2 @h1 @h2 ?_|refine M.cs ?_ ?_<;>intro h|fail)
   ·rfl
   ·exfalso;simp at h;omega
  ·have e:f.err=0:=by simp[Fm.err,hs,hz]
   rw[e]
   refine M.F Tryz.func36 ?_
   repeat'(first|refine M.w2 @h1 @h2 ?_|refine M.cs ?_ ?_<;>intro h|fail)
   ·exfalso;simp at h;omega
   ·rfl
theorem fhas_c:∀(n:Nat) (f:Fm) (at_:Int),f.full≤n→n<274877906944→-274877906944≤at_→at_+n<549755813888→f.shape=true→PC E 207 [.agg f.view,.i at_] (.bool (decide (timesF at_ f≠0))):=by
 intro n
 induction n with
 |zero=>intro f at_ h;have:=f.full_pos;omega
 |succ n ih=>
 intro f at_ hsz hn h1 h2 hs
 have hsz':=f.full_eq
 have hlen:=lsum_len Fm.full Fm.full_pos f.args
 have hlen2:=lsum_len Tm.full Tm.full_pos f.terms
 have he:=timesF_eq (at_:=at_) hs
 have hup:=upF_le f.kind at_
 have hpl:=upF_plus f.kind at_
 have hb:=rfbelow_c f
 refine M.F Tryz.func207 ?_
 refine M.w0 ?_
 refine M.rp f.terms.length (fun m=>∀j (hj:j<f.terms.length),j<m→timesT at_ f.terms[j]=0)
  (fun m=>([(1,.i at_),(2,.ptr 0 0),(10,.s .tm f.terms),(11,.i f.terms.length),(12,.i m)],⟨1,[(0,.var f.view)]⟩))
  (fun j hj h=>by omega) (M.W rh1) ?_ ?_
 ·intro m hm hP
  have hs2:=lsum_mem Tm.full (List.getElem_mem hm)
  have hc:=rhas_c _ f.terms[m] at_ (Nat.le_refl _) (by omega) (by omega) (by omega) (fshape_terms hs (List.getElem_mem hm))
  repeat'(first|refine M.w1 @hc ?_|refine M.cs ?_ ?_<;>intro h|fail)
  ·have hx:timesT at_ f.terms[m]≠0:=by simpa using h
   have:=sum_pos hm hx
   rw[he,decide_eq_true (show _≠0 by omega)];rfl
  ·have hx:timesT at_ f.terms[m]=0:=by simpa using h
   exact⟨rfl,all_step (p:=fun t'=>timesT at_ t'=0) hm hP hx,(M.W rh1)⟩
 ·intro hP
  rw[sum_zero (f:=timesT at_) fun j hj=>hP j hj hj,Nat.zero_add] at he
  refine M.w0 ?_
  refine M.rp f.args.length (fun m=>∀j (hj:j<f.args.length),j<m→timesF (upF f.kind at_) f.args[j]=0)
   (fun m=>([(1,.i at_),(2,.ptr 0 0),(21,.s .fm f.args),(22,.i f.args.length),(23,.i m)],⟨1,[(0,.var f.view)]⟩))
   (fun j hj h=>by omega) (M.W rh1) ?_ ?_
  ·intro m hm hP
   have hs2:=lsum_mem Fm.full (List.getElem_mem hm)
   have hc:=ih f.args[m] (upF f.kind at_) (by omega) (by omega) (by omega) (by omega) (fshape_args hs (List.getElem_mem hm))
   rw[←hpl] at hc
   rw[←hpl] at hP he
   repeat'(first|refine M.w2 @hb @hc ?_|refine M.cs ?_ ?_<;>intro h|fail)
   ·have hx:timesF (at_+upF f.kind 0) f.args[m]≠0:=by simpa using h
    rw[he,decide_eq_true (sum_pos hm hx)];rfl
   ·have hx:timesF (at_+upF f.kind 0) f.args[m]=0:=by simpa using h
    exact⟨rfl,by rw[←hpl];exact all_step (p:=fun t'=>timesF (at_+upF f.kind 0) t'=0) hm hP hx,(M.W rh1)⟩
  ·intro hP
   rw[he,sum_zero fun j hj=>hP j hj hj]
   refine M.w0 ?_
   rfl
theorem ftyped_c:∀(n:Nat) (f:Fm) (g:List Ty),f.full≤n→n<100000000→f.shape=true→(∀x∈g,x.err=0)→g.length+n<274877906944→g.length+f.size<100000→PC E 129 [.s .ty g,.agg f.view] (.i (f.tyE g)):=by
 intro n
 induction n with
 |zero=>intro f g h;have:=f.full_pos;omega
 |succ n ih=>
 intro f g hsz hn hs hg hgl hgz
 have hsz':=f.full_eq
 have hse:=f.size_eq
 have hlen:=lsum_len Fm.full Fm.full_pos f.args
 have hlen2:=lsum_len Tm.full Tm.full_pos f.terms
 have he:=Fm.tyE_eq g f
 have hq:=rquant_c f.kind
 refine M.F Tryz.func129 ?_
 refine M.w0 ?_
 refine M.rp f.terms.length (fun m=>∀j (hj:j<f.terms.length),j<m→tE g f.terms[j]=0)
  (fun m=>([(0,.s .ty g),(3,.ptr 0 0),(13,.s .tm f.terms),(14,.i f.terms.length),(15,.i m)],⟨1,[(0,.var f.view)]⟩))
  (fun j hj h=>by omega) (M.W rh1) ?_ ?_
 ·intro m hm hP
  have hs2:=lsum_mem Tm.full (List.getElem_mem hm)
  have hc:=typed_c' g f.terms[m] (by omega) hg (by omega)
  have hfi:tE g f.terms[m]≠0→f.tyE g=tE g f.terms[m]:=fun hx=>by
   have h1:=firstI_at hm hP hx
   rw[he,h1,if_pos hx]
  by_cases hx:(typed g f.terms[m]).2=0
  ·by_cases hk:(typed g f.terms[m]).1.kind=1
   ·have ht:tE g f.terms[m]=0:=by simp[tE,hx,hk]
    rw[hx] at hc
    repeat'(first|refine M.w1 @hc ?_|refine M.cs ?_ ?_<;>intro h|fail)
    ·exfalso;simp at h;exact h hk
    ·exact ⟨rfl,all_step (p:=fun t'=>tE g t'=0) hm hP ht,(M.W rh1)⟩
   ·have ht:tE g f.terms[m]=7:=by simp[tE,hx,hk]
    rw[ht] at hfi
    rw[hfi (by decide)]
    rw[hx] at hc
    repeat'(first|refine M.w1 @hc ?_|refine M.cs ?_ ?_<;>intro h|fail)
    ·rfl
    ·exfalso;simp at h;exact hk h
  ·have ht:tE g f.terms[m]=(typed g f.terms[m]).2:=by simp[tE,hx]
   rw[ht] at hfi
   rw[hfi hx]
   repeat'(first|refine M.w1 @hc ?_|refine M.cs ?_ ?_<;>intro h|fail)
   ·rfl
   all_goals(exfalso;simp_all)
 ·intro hP
  have h0:firstI (tE g) f.terms=0:=firstI_none fun j hj _=>hP j hj hj
  rw[if_neg (by simp[h0])] at he
  have htyl:=f.ty.size_pos
  have hrest:∀g',g'=ctxF g f→(∀x∈g',x.err=0)∧g'.length≤g.length+1∧∀(m:Nat) (hm:m<f.args.length),PC E 129 [.s .ty g',.agg f.args[m].view] (.i (f.args[m].tyE g')):=fun g' hg'=>by
   have hl:g'.length≤g.length+1:=by rw[hg'];simp only[ctxF];split<;>simp
   have hee:∀x∈g',x.err=0:=fun x hx=>by
    rw[hg'] at hx
    simp only[ctxF] at hx
    split at hx
    ·rename_i hqk
     rcases List.mem_append.1 hx with hx|hx
     ·exact hg x hx
     ·rw [List.mem_singleton] at hx;subst hx
      have h1:=fshapeQu hqk
      rw[hs] at h1
      have h2:f.ty.ok=true:=by
       cases ho:f.ty.ok with
       |true=>rfl
       |false=>rw[ho] at h1;simp at h1
      rw[tyok_err] at h2
      simpa using h2
    ·exact hg x hx
   refine⟨hee,hl,fun m hm=> ?_⟩
   have hs2:=lsum_mem Fm.full (List.getElem_mem hm)
   have hs3:=lsum_mem Fm.size (List.getElem_mem hm)
   exact ih f.args[m] g' (by omega) (by omega) (fshape_args hs (List.getElem_mem hm)) hee (by omega) (by omega)
  cases hqk:quantK f.kind with
  |true=>
   rw[hqk] at hq
   have hcx:ctxF g f=g++[f.ty]:=ctxF_q hqk
   obtain⟨_,_,hcall⟩:=hrest (g++[f.ty]) hcx.symm
   rw[hcx] at he
   refine M.w1 @hq ?_
   refine M.rp f.args.length (fun m=>∀j (hj:j<f.args.length),j<m→f.args[j].tyE (g++[f.ty])=0)
    (fun m=>([(0,.s .ty (g++[f.ty])),(3,.ptr 0 0),(46,.s .fm f.args),(47,.i f.args.length),(48,.i m)],⟨1,[(0,.var f.view)]⟩))
    (fun j hj h=>by omega) (M.W rh1) ?_ ?_
   ·intro m hm hP
    have hc:=hcall m hm
    by_cases hx:f.args[m].tyE (g++[f.ty])=0
    ·rw [hx] at hc
     refine M.w1 @hc ?_
     exact⟨rfl,all_step (p:=fun t'=>Fm.tyE (g++[f.ty]) t'=0) hm hP hx,(M.W rh1)⟩
    ·rw [he,firstI_at hm hP hx]
     repeat'(first|refine M.w1 @hc ?_|refine M.cs ?_ ?_<;>intro h|fail)
     ·rfl
     ·exfalso;simp at h;exact hx h
   ·intro hP
    rw[he,firstI_none fun j hj _=>hP j hj hj]
    refine M.w0 ?_
    rfl
  |false=>
   rw[hqk] at hq
   have hcx:ctxF g f=g:=ctxF_n (by simp[hqk])
   obtain⟨_,_,hcall⟩:=hrest g hcx.symm
   rw[hcx] at he
   refine M.w1 @hq ?_
   refine M.rp f.args.length (fun m=>∀j (hj:j<f.args.length),j<m→f.args[j].tyE g=0)
    (fun m=>([(0,.s .ty g),(3,.ptr 0 0),(46,.s .fm f.args),(47,.i f.args.length),(48,.i m)],⟨1,[(0,.var f.view)]⟩))
    (fun j hj h=>by omega) (M.W rh1) ?_ ?_
   ·intro m hm hP
    have hc:=hcall m hm
    by_cases hx:f.args[m].tyE g=0
    ·rw [hx] at hc
     refine M.w1 @hc ?_
     exact⟨rfl,all_step (p:=fun t'=>Fm.tyE g t'=0) hm hP hx,(M.W rh1)⟩
    ·rw [he,firstI_at hm hP hx]
     repeat'(first|refine M.w1 @hc ?_|refine M.cs ?_ ?_<;>intro h|fail)
     ·rfl
     ·exfalso;simp at h;exact hx h
   ·intro hP
    rw[he,firstI_none fun j hj _=>hP j hj hj]
    refine M.w0 ?_
    rfl
theorem fBelow_c(g:List Ty)(f:Fm)(hf:f.full<549755813888)(hg:∀x∈g,x.err=0)(hgl:g.length<90000):PC E 85 [.s .ty g,.agg f.view] (.i (typedF g f)):=by
 have h1:=fcheckR_c f hf
 by_cases he:f.err=0
 ·have h2:=(Fm.err_iff f).1 he
  have h3:=ferr_full he
  have h4:=ftyped_c _ f g (Nat.le_refl _) (by omega) h2.1 hg (by omega) (by omega)
  have e:typedF g f=f.tyE g:=by simp only[typedF];rw[if_neg (by simp[he])]
  rw[he] at h1
  rw[e]
  refine M.F Tryz.func85 ?_
  refine M.w2 @h1 @h4 ?_
  rfl
 ·have e:typedF g f=f.err:=by simp only[typedF];rw[if_pos he]
  rw[e]
  refine M.F Tryz.func85 ?_
  repeat'(first|refine M.w1 @h1 ?_|refine M.cs ?_ ?_<;>intro h|fail)
  ·rfl
  ·exfalso;simp at h;exact he h
theorem fTyped_c(g:List Ty)(f:Fm)(hf:f.full<549755813888)(hg:(g.map Ty.size).sum<1099511627776):PC E 48 [.s .ty g,.agg f.view] (.i (typedFC g f)):=by
 have h1:=contextR_c g hg
 by_cases he:ctxErr g=0
 ·have h2:=ctxErr_all he
  have h4:=fBelow_c g f hf h2.2 (by omega)
  have e:typedFC g f=typedF g f:=by simp only[typedFC];rw[if_neg (by simp[he])]
  rw[he] at h1
  rw[e]
  refine M.F Tryz.func48 ?_
  refine M.w2 @h1 @h4 ?_
  rfl
 ·have e:typedFC g f=ctxErr g:=by simp only[typedFC];rw[if_pos he]
  rw[e]
  refine M.F Tryz.func48 ?_
  repeat'(first|refine M.w1 @h1 ?_|refine M.cs ?_ ?_<;>intro h|fail)
  ·rfl
  ·exfalso;simp at h;exact he h
theorem putG_node{at_ b:Int}{s t:Tm}(h:t.kind≠1):t.re (putG at_ s) b= .mk t.kind t.index t.ty (t.args.map fun x=>x.re (putG at_ s) (up t.kind b)):=re_node h
theorem rin_c(at_:Int)(s:Tm)(hat:0≤at_∧at_<137438953472)(hs:s.shape=true)(hsf:s.full<137438953472)(hsi:∀p∈s.vars 0,0≤p.1∧p.1<274877906944):∀(n:Nat) (t:Tm) (dp:Int),t.full≤n→n<137438953472→0≤dp→dp+n<274877906944→t.shape=true→(∀p∈t.vars 0,0≤p.1∧p.1<274877906944)→
 PC E 104 [.agg t.view,.i at_,.i dp,.agg s.view] (.agg (t.re (putG at_ s) dp).view):=by
 intro n
 induction n with
 |zero=>intro t dp h;have:=t.full_pos;omega
 |succ n ih=>
 intro t dp hsz hn h1 h2 ht hix
 have hsz':=Tm.full_eq t
 have hlen:=lsum_len Tm.full Tm.full_pos t.args
 have hup:=up_bd t.kind dp
 have hpl:=up_plus t.kind dp
 have hb:=rbelow_c t
 by_cases hv:t.kind=1
 ·have hti:=hix (t.index,0) (by rw[vars_var ht hv];simp)
  rw[var_vT ht hv]
  generalize t.index=i at hti
  simp only at hti
  rw[re_vT,putG_eq]
  have hvi:(vT i).index=i:=rfl
  have hu:=rup_c (at_+dp) (by omega) _ s 0 (Nat.le_refl _) (by omega) (by omega) (by omega) hs fun p hp=>by have:=hsi p hp;omega
  have hvc:=var_c (i-1)
  clear ih hix
  by_cases h3:i-dp=at_
  ·rw [if_pos h3]
   have h3':i=at_+dp:=by omega
   subst h3'
   refine M.F Tryz.func104 ?_
   repeat'(first|refine M.o1 @hu ?_|refine M.z1 4 ?_|refine M.cs ?_ ?_<;>intro h|refine M.gk ?_|fail)
   all_goals first
    |rfl
    |(exfalso;simp at h;done)
    |(exfalso;simp at h;omega)
  ·rw [if_neg h3]
   by_cases h4:i-dp>at_
   ·rw [if_pos h4]
    refine M.F Tryz.func104 ?_
    repeat'(first|refine M.o0 ?_|refine M.z3 3 5 6 ?_|refine M.cs ?_ ?_<;>intro h|refine M.gk ?_|fail)
    all_goals first
     |(exfalso;simp at h;omega)
     |skip
    refine M.w1 @hvc ?_
    rfl
   ·rw [if_neg h4]
    refine M.F Tryz.func104 ?_
    repeat'(first|refine M.o0 ?_|refine M.z3 3 5 6 ?_|refine M.cs ?_ ?_<;>intro h|refine M.gk ?_|fail)
    all_goals first
     |(exfalso;simp at h;omega)
     |skip
    refine M.w0 ?_
    rfl
 have he:=putG_node (at_:=at_) (b:=dp) (s:=s) hv
 refine M.F Tryz.func104 ?_
 repeat'(first|refine M.o0 ?_|refine M.z1 2 ?_|refine M.cs ?_ ?_<;>intro h|refine M.gk ?_|fail)
 all_goals first
  |(exfalso;simp at h;exact hv h)
  |skip
 skip
 refine M.rt t.args.length (fun m=>([(1,.i at_),(2,.i dp),(4,.ptr 0 0),(7,.ptr 1 0),(8,.ptr 2 0),(9,.ptr 3 0),(45,.s .tm t.args),(46,.i t.args.length),(47,.i m)],⟨5,[(0,.var t.view),(1,.var s.view),(2,.var [.i 0,.i 0,.i 0,.slice .nil (.t .ty []),.slice .nil (.t .tm [])]),(3,.var [.i t.kind,.i t.index,.i t.ty.kind,.s .ty t.ty.args,.slice (.own 4) (.t .tm ((t.args.take m).map fun x=>x.re (putG at_ s) (up t.kind dp)))]),(4,.row)]⟩))
  (M.W rn4) ?_ ?_
 ·intro m hm _
  have hs2:=lsum_mem Tm.full (List.getElem_mem hm)
  have hc:=ih t.args[m] (up t.kind dp) (by omega) (by omega) (by omega) (by omega) (shape_args ht _ (List.getElem_mem hm)) (fun p hp=>by
   obtain⟨q,hq,hqe⟩:=vars_idx (b':=up t.kind 0) p hp
   have:=hix q (mem_vars hv (List.getElem_mem hm) hq)
   rw[←hqe];exact this)
  rw[←hpl] at hc
  simp only[←hpl]
  refine M.w2 @hb @hc ?_
  exact⟨rfl,trivial,(M.W [some 0,some 1,some 2,some 3,some 6] (he:=(by(repeat'(first|exact trivial|exact Or.inr ⟨_,U,rfl⟩|refine And.intro ?_ ?_|refine⟨_,U,_,U,_,U,?_⟩|exact VLe.refl _|exact VLe.of_eq (by simp[Sto.upd,map_take _ _ _ hm])));done)))⟩
 ·intro _
  simp only[List.take_length]
  refine M.w0 ?_
  rw[he]
  simp[tupV,V.wk,V.wks,constV,Ty.view,Tm.view]
theorem near_all{t:Tm}(h:t.near=true):∀q∈t.vars 0,q.1≤536870912:=fun q hq=>by simpa using List.all_eq_true.1 h q hq
theorem rlift_c(t:Tm)(fr by_:Int)(ht:t.full<274877906944):PC E 38 [.agg t.view,.i fr,.i by_] (.tup [.agg (if liftErr t fr by_=0 then t.re (liftG fr by_) 0 else noTm).view,.i (liftErr t fr by_)]):=by
 have h1:=checkTmR_c t (by omega)
 by_cases he:t.err=0
 case neg=>
  have e:liftErr t fr by_=t.err:=by simp only[liftErr];rw[if_pos he]
  rw[e,if_neg he]
  refine M.F Tryz.func38 ?_
  repeat'(first|refine M.o1 @h1 ?_|refine M.z1 4 ?_|refine M.cs ?_ ?_<;>intro h|refine M.gk ?_|fail)
  all_goals first
   |rfl
   |(exfalso;simp at h;exact he h)
 obtain⟨hsh,hsz⟩:=err_zero he
 have h2:=rleast_c 536870912 (by omega) _ t (Nat.le_refl _) (by omega) hsh
 have hfl:=tfull_le t hsh
 rw[he] at h1
 by_cases hr:(0≤fr∧fr≤4096)∧(0≤by_∧by_≤4096)∧t.near=true
 ·have e:liftErr t fr by_=0:=by
   simp only[liftErr]
   rw[if_neg (by simp[he]),if_neg]
   rintro(hc|hc|hc)
   ·exact hc hr.1
   ·exact hc hr.2.1
   ·rw [hr.2.2] at hc;cases hc
  have h3:=rup_c by_ (by omega) _ t fr (Nat.le_refl _) (by omega) (by omega) (by omega) hsh fun p hp=>⟨t.vars_nonneg hsh 0 p hp,by have:=near_all hr.2.2 p hp;omega⟩
  have hlf:=lift_full fr by_ t 0 hsh
  have h4:=copyTm_c _ (t.re (liftG fr by_) 0) (Nat.le_refl _) (by omega)
  have hn:=hr.2.2
  rw[near_least] at hn
  rw[hn] at h2
  rw[e,if_pos rfl]
  obtain⟨⟨r1,r2⟩,⟨r3,r4⟩,_⟩:=hr
  clear he
  refine M.F Tryz.func38 ?_
  repeat'(first|refine M.w4 @h1 @h2 @h3 @h4 ?_|refine M.gs ?_ ?_<;>intro h|fail)
  all_goals first
   |rfl
   |(exfalso;simp at*;omega)
 ·have e:liftErr t fr by_=1:=by
   simp only[liftErr]
   rw[if_neg (by simp[he]),if_pos]
   by_cases a1:0≤fr∧fr≤4096
   ·by_cases a2:0≤by_∧by_≤4096
    ·refine .inr (.inr ?_)
     cases hn:t.near with
     |false=>rfl
     |true=>exact absurd ⟨a1,a2,hn⟩ hr
    ·exact .inr (.inl a2)
   ·exact .inl a1
  rw[e,if_neg (by decide)]
  rw[near_least] at hr
  refine M.F Tryz.func38 ?_
  repeat'(first|refine M.o2 @h1 @h2 ?_|refine M.gs ?_ ?_<;>intro h|refine M.z1 6 ?_|refine M.cs ?_ ?_<;>intro h|refine M.gk ?_|fail)
  all_goals first
   |rfl
   |(exfalso;apply hr;simp at*;exact⟨by omega,by omega,by assumption⟩)
   |(exfalso;apply hr;simp_all;omega)
theorem rtimesF_c:∀(n:Nat) (f:Fm) (at_:Int),f.full≤n→n<274877906944→-274877906944≤at_→at_+n<549755813888→f.shape=true→PC E 67 [.agg f.view,.i at_] (.i (timesF at_ f)):=by
 intro n
 induction n with
 |zero=>intro f at_ h;have:=f.full_pos;omega
 |succ n ih=>
 intro f at_ hsz hn h1 h2 hs
 have hsz':=f.full_eq
 have hlen:=lsum_len Fm.full Fm.full_pos f.args
 have hlen2:=lsum_len Tm.full Tm.full_pos f.terms
 have he:=timesF_eq (at_:=at_) hs
 have hup:=upF_le f.kind at_
 have hpl:=upF_plus f.kind at_
 have hb:=rfbelow_c f
 have hle1:∀m,((f.terms.take m).map (timesT at_)).sum≤(f.terms.map Tm.full).sum:=fun m=>by
  have a1:=lsum_take_le Tm.full f.terms m
  have a2:=lsum_le (f:=timesT at_) (g:=Tm.full) (f.terms.take m) fun x _=>Nat.le_trans (timesT_le x _) x.size_le_full
  omega
 have hle2:∀m,((f.args.take m).map (timesF (upF f.kind at_))).sum≤(f.args.map Fm.full).sum:=fun m=>by
  have a1:=lsum_take_le Fm.full f.args m
  have a2:=lsum_le (f:=timesF (upF f.kind at_)) (g:=Fm.full) (f.args.take m) fun x _=>Nat.le_trans (timesF_le _ x) x.size_le_full
  omega
 refine M.F Tryz.func67 ?_
 refine M.w0 ?_
 refine M.rt f.terms.length
  (fun m=>([(1,.i at_),(2,.ptr 0 0),(5,.i (((f.terms.take m).map (timesT at_)).sum:Nat)),(11,.s .tm f.terms),(12,.i f.terms.length),(13,.i m)],⟨1,[(0,.var f.view)]⟩))
  (M.W rh1) ?_ ?_
 ·intro m hm _
  have hs1:=lsum_take (timesT at_) f.terms m hm
  have hs2:=lsum_mem Tm.full (List.getElem_mem hm)
  have hs3:=hle1 m
  have hs4:=timesT_le f.terms[m] at_
  have hs5:=f.terms[m].size_le_full
  have hc:=rtimes_c _ f.terms[m] at_ (Nat.le_refl _) (by omega) (by omega) (by omega) (fshape_terms hs (List.getElem_mem hm))
  refine M.w1 @hc ?_
  refine⟨rfl,trivial,?_⟩
  simp only[hs1]
  exact(M.W rh1)
 ·intro _
  have hs6:=hle1 f.terms.length
  simp only[List.take_length] at hs6 ⊢
  refine M.w0 ?_
  refine M.rt f.args.length
   (fun m=>([(1,.i at_),(2,.ptr 0 0),(5,.i ((f.terms.map (timesT at_)).sum+((f.args.take m).map (timesF (upF f.kind at_))).sum:Nat)),(24,.s .fm f.args),(25,.i f.args.length),(26,.i m)],⟨1,[(0,.var f.view)]⟩))
   (M.W rh1) ?_ ?_
  ·intro m hm _
   have hs1:=lsum_take (timesF (upF f.kind at_)) f.args m hm
   have hs2:=lsum_mem Fm.full (List.getElem_mem hm)
   have hs3:=hle2 m
   have hs4:=timesF_le (upF f.kind at_) f.args[m]
   have hs5:=f.args[m].size_le_full
   have hc:=ih f.args[m] (upF f.kind at_) (by omega) (by omega) (by omega) (by omega) (fshape_args hs (List.getElem_mem hm))
   rw[←hpl] at hc hs1 hs3 hs4
   simp only[←hpl]
   refine M.w2 @hb @hc ?_
   refine⟨rfl,trivial,?_⟩
   simp only[hs1]
   exact(M.W rh1 (hf:=(by(repeat'(first|exact trivial|refine And.intro ?_ ?_|refine⟨_,U,_,U,?_⟩|exact VLe.refl _|exact VLe.of_eq (by simp[Sto.upd,Int.natCast_add,Int.add_assoc])));done)))
  ·intro _
   simp only[List.take_length]
   refine M.w0 ?_
   rw[he]
   rfl
theorem rleastF_c(most:Int)(h0:0≤most):∀(n:Nat) (f:Fm),f.full≤n→n<549755813888→f.shape=true→PC E 66 [.agg f.view,.i most] (.bool (leastF most f)):=by
 intro n
 induction n with
 |zero=>intro f h;have:=f.full_pos;omega
 |succ n ih=>
 intro f hsz hn hs
 have hsz':=f.full_eq
 have hlen:=lsum_len Fm.full Fm.full_pos f.args
 have hlen2:=lsum_len Tm.full Tm.full_pos f.terms
 have he:=leastF_eq most f
 refine M.F Tryz.func66 ?_
 refine M.w0 ?_
 refine M.rp f.terms.length (fun m=>∀j (hj:j<f.terms.length),j<m→leastT most f.terms[j]=true)
  (fun m=>([(1,.i most),(2,.ptr 0 0),(10,.s .tm f.terms),(11,.i f.terms.length),(12,.i m)],⟨1,[(0,.var f.view)]⟩))
  (fun j hj h=>by omega) (M.W rh1) ?_ ?_
 ·intro m hm hP
  have hs2:=lsum_mem Tm.full (List.getElem_mem hm)
  have hc:=rleast_c most h0 _ f.terms[m] (Nat.le_refl _) (by omega) (fshape_terms hs (List.getElem_mem hm))
  repeat'(first|refine M.w1 @hc ?_|refine M.cs ?_ ?_<;>intro h|fail)
  ·have hx:leastT most f.terms[m]=false:=by simpa using h
   rw[he,all_not (leastT most) hm hx];rfl
  ·have hx:leastT most f.terms[m]=true:=by simpa using h
   exact⟨rfl,all_step (p:=fun t=>leastT most t=true) hm hP hx,(M.W rh1)⟩
 ·intro hP
  rw[all_of (leastT most) f.terms fun j hj=>hP j hj hj,Bool.true_and] at he
  refine M.w0 ?_
  refine M.rp f.args.length (fun m=>∀j (hj:j<f.args.length),j<m→leastF most f.args[j]=true)
   (fun m=>([(1,.i most),(2,.ptr 0 0),(22,.s .fm f.args),(23,.i f.args.length),(24,.i m)],⟨1,[(0,.var f.view)]⟩))
   (fun j hj h=>by omega) (M.W rh1) ?_ ?_
  ·intro m hm hP
   have hs2:=lsum_mem Fm.full (List.getElem_mem hm)
   have hc:=ih f.args[m] (by omega) (by omega) (fshape_args hs (List.getElem_mem hm))
   repeat'(first|refine M.w1 @hc ?_|refine M.cs ?_ ?_<;>intro h|fail)
   ·have hx:leastF most f.args[m]=false:=by simpa using h
    rw[he,all_not (leastF most) hm hx];rfl
   ·have hx:leastF most f.args[m]=true:=by simpa using h
    exact⟨rfl,all_step (p:=fun t=>leastF most t=true) hm hP hx,(M.W rh1)⟩
  ·intro hP
   rw[he,all_of (leastF most) f.args fun j hj=>hP j hj hj]
   refine M.w0 ?_
   rfl
theorem root_c(t:Tm)(hs:t.shape=true):PC E 226 [.agg t.view] (.bool (rootT t)):=by
 by_cases k3:t.kind=3
 ·obtain ⟨i,th,f,a,rfl,hf,ha⟩:=mkArgs2 hs k3 rfl
  refine M.F Tryz.func226 ?_
  refine M.v0 ?_
  rfl
 ·by_cases k6:t.kind=6
  ·obtain ⟨i,th,x,y,z,rfl,_,_,_⟩:=mkArgs3 hs k6 rfl
   by_cases h4:z.kind=4
   ·have e:rootT (.mk 6 i th [x,y,z])=true:=by simp[rootT,Tm.arg,h4]
    rw[e]
    refine M.F Tryz.func226 ?_
    repeat'(first|refine M.w0 ?_|refine M.gs ?_ ?_<;>intro h|refine M.bl ?_|fail)
    all_goals first
     |rfl
     |(exfalso;simp_all;done)
   ·have e:rootT (.mk 6 i th [x,y,z])=(z.kind==5):=by simp[rootT,Tm.arg,h4]
    rw[e]
    refine M.F Tryz.func226 ?_
    repeat'(first|refine M.w0 ?_|refine M.gs ?_ ?_<;>intro h|refine M.bl ?_|fail)
    all_goals first
     |rfl
     |(exfalso;simp_all;done)
  ·by_cases k9:t.kind=9
   ·obtain ⟨i,th,x,y,z,rfl,_,_,_⟩:=mkArgs3 hs k9 rfl
    by_cases h4:z.kind=7
    ·have e:rootT (.mk 9 i th [x,y,z])=true:=by simp[rootT,Tm.arg,h4]
     rw[e]
     refine M.F Tryz.func226 ?_
     repeat'(first|refine M.w0 ?_|refine M.gs ?_ ?_<;>intro h|refine M.bl ?_|fail)
     all_goals first
      |rfl
      |(exfalso;simp_all;done)
    ·have e:rootT (.mk 9 i th [x,y,z])=(z.kind==8):=by simp[rootT,Tm.arg,h4]
     rw[e]
     refine M.F Tryz.func226 ?_
     repeat'(first|refine M.w0 ?_|refine M.gs ?_ ?_<;>intro h|refine M.bl ?_|fail)
     all_goals first
      |rfl
      |(exfalso;simp_all;done)
   ·by_cases k11:t.kind=11
    ·obtain ⟨i,th,x,rfl,_⟩:=mkArgs1 hs k11 rfl
     refine M.F Tryz.func226 ?_
     refine M.v0 ?_
     rfl
    ·by_cases k12:t.kind=12
     ·obtain ⟨i,th,x,rfl,_⟩:=mkArgs1 hs k12 rfl
      refine M.F Tryz.func226 ?_
      refine M.v0 ?_
      rfl
     ·have e:rootT t=false:=by simp[rootT,k3,k6,k9,k11,k12]
      rw[e]
      have b3:¬(t.kind==3)=true:=by simpa using k3
      have b6:¬(t.kind==6)=true:=by simpa using k6
      have b9:¬(t.kind==9)=true:=by simpa using k9
      have b11:¬(t.kind==11)=true:=by simpa using k11
      have b12:¬(t.kind==12)=true:=by simpa using k12
      refine M.F Tryz.func226 ?_
      repeat'(first|refine M.w0 ?_|refine M.gs ?_ ?_<;>intro h|refine M.bl ?_|refine M.cs ?_ ?_<;>intro h|fail)
      all_goals first
       |rfl
       |contradiction
theorem rgrow_c{t x:Tm}(hv:RV t x)(hs:t.shape=true)(hz:t.size≤4096):PC E 227 [.agg t.view] (.i (growT t)):=by
 have hfull:=shape_full t hs
 have h0:=countTm_c _ t (Nat.le_refl _) (by omega)
 cases hv with
 |beta i th j s b a=>
  have hb:b.shape=true:=shape_args (shape_args hs (.mk 2 j s [b]) (by simp)) b (by simp)
  have ha:a.shape=true:=shape_args hs a (by simp)
  have hsz:(Tm.mk 3 i th [Tm.mk 2 j s [b],a]).size=2+b.size+a.size:=by simp[Tm.size,Tm.sizes];omega
  have fb:=shape_full b hb
  have fa:=shape_full a ha
  have h1:=countTm_c _ b (Nat.le_refl _) (by omega)
  have h2:=rtimes_c _ b 0 (Nat.le_refl _) (by omega) (by omega) (by omega) hb
  have h3:=countTm_c _ a (Nat.le_refl _) (by omega)
  have htl:=timesT_le b 0
  have hap:=a.size_pos
  have hm:=mul_bd (timesT 0 b) (a.size-1) (by omega) (by omega)
  have hm': -9223372036854775808≤(timesT 0 b:Int)*(a.size-1)∧(timesT 0 b:Int)*(a.size-1)≤9223372036854775807:=by omega
  have e:growT (Tm.mk 3 i th [Tm.mk 2 j s [b],a])=b.size+timesT 0 b*(a.size-1)-(Tm.mk 3 i th [Tm.mk 2 j s [b],a]).size:=by
   have hc:=times_cnt b 0 0 hb
   rw[Int.add_zero] at hc
   show((b.re (putG 0 a) 0).size:Int)-_=_
   rw[put_size 0 a b ha 0 hb,hc]
   congr 1
   rw[Int.natCast_add,Int.natCast_mul]
   congr 2
   omega
  rw[e]
  clear e
  refine M.F Tryz.func227 ?_
  refine M.v4 @h0 @h1 @h2 @h3 ?_
  rfl
 |rz i th _ f j s=>
  have h1:=countTm_c _ x (Nat.le_refl _) (by have:=shape_full x (shape_args hs x (by simp));have:=lsum_mem Tm.size (l:=[x,f,Tm.mk 4 j s []]) (t:=x) (by simp);have:=Tm.size_eq (Tm.mk 6 i th [x,f,Tm.mk 4 j s []]);simp only[Tm.args_mk] at this;omega)
  have e:(x.size:Int)≤4096:=by have:=lsum_mem Tm.size (l:=[x,f,Tm.mk 4 j s []]) (t:=x) (by simp);have:=Tm.size_eq (Tm.mk 6 i th [x,f,Tm.mk 4 j s []]);simp only[Tm.args_mk] at this;omega
  have e2:growT (Tm.mk 6 i th [x,f,Tm.mk 4 j s []])=x.size-(Tm.mk 6 i th [x,f,Tm.mk 4 j s []]).size:=rfl
  rw[e2]
  refine M.F Tryz.func227 ?_
  refine M.v2 @h0 @h1 ?_
  rfl
 |fz i th _ f j s=>
  have h1:=countTm_c _ x (Nat.le_refl _) (by have:=shape_full x (shape_args hs x (by simp));have:=lsum_mem Tm.size (l:=[x,f,Tm.mk 7 j s []]) (t:=x) (by simp);have:=Tm.size_eq (Tm.mk 9 i th [x,f,Tm.mk 7 j s []]);simp only[Tm.args_mk] at this;omega)
  have e:(x.size:Int)≤4096:=by have:=lsum_mem Tm.size (l:=[x,f,Tm.mk 7 j s []]) (t:=x) (by simp);have:=Tm.size_eq (Tm.mk 9 i th [x,f,Tm.mk 7 j s []]);simp only[Tm.args_mk] at this;omega
  have e2:growT (Tm.mk 9 i th [x,f,Tm.mk 7 j s []])=x.size-(Tm.mk 9 i th [x,f,Tm.mk 7 j s []]).size:=rfl
  rw[e2]
  refine M.F Tryz.func227 ?_
  refine M.v2 @h0 @h1 ?_
  rfl
 |rs i th x f j s n=>
  have hn:n.shape=true:=shape_args (shape_args hs (.mk 5 j s [n]) (by simp)) n (by simp)
  have hsz:(Tm.mk 6 i th [x,f,Tm.mk 5 j s [n]]).size=2+x.size+f.size+n.size:=by simp[Tm.size,Tm.sizes];omega
  have h1:=countTm_c _ f (Nat.le_refl _) (by have:=shape_full f (shape_args hs f (by simp));omega)
  have h2:=countTm_c _ n (Nat.le_refl _) (by have:=shape_full n hn;omega)
  have e2:growT (Tm.mk 6 i th [x,f,Tm.mk 5 j s [n]])=2+f.size+n.size+(Tm.mk 6 i th [x,f,Tm.mk 5 j s [n]]).size-1-(Tm.mk 6 i th [x,f,Tm.mk 5 j s [n]]).size:=by
   show((apT (apT f n) (.mk 6 0 th [x,f,n])).size:Int)-_=_
   simp[apT,Tm.size,Tm.sizes];omega
  rw[e2]
  clear e2
  refine M.F Tryz.func227 ?_
  refine M.v3 @h0 @h1 @h2 ?_
  rfl
 |fs i th x f j s n l=>
  have hn:n.shape=true:=shape_args (shape_args hs (.mk 8 j s [n,l]) (by simp)) n (by simp)
  have hl:l.shape=true:=shape_args (shape_args hs (.mk 8 j s [n,l]) (by simp)) l (by simp)
  have hsz:(Tm.mk 9 i th [x,f,Tm.mk 8 j s [n,l]]).size=2+x.size+f.size+n.size+l.size:=by simp[Tm.size,Tm.sizes];omega
  have h1:=countTm_c _ f (Nat.le_refl _) (by have:=shape_full f (shape_args hs f (by simp));omega)
  have h2:=countTm_c _ n (Nat.le_refl _) (by have:=shape_full n hn;omega)
  have h3:=countTm_c _ l (Nat.le_refl _) (by have:=shape_full l hl;omega)
  have e2:growT (Tm.mk 9 i th [x,f,Tm.mk 8 j s [n,l]])=3+f.size+n.size+l.size+(Tm.mk 9 i th [x,f,Tm.mk 8 j s [n,l]]).size-1-n.size-(Tm.mk 9 i th [x,f,Tm.mk 8 j s [n,l]]).size:=by
   show((apT (apT (apT f n) l) (.mk 9 0 th [x,f,l])).size:Int)-_=_
   simp[apT,Tm.size,Tm.sizes];omega
  rw[e2]
  clear e2
  refine M.F Tryz.func227 ?_
  refine M.v4 @h0 @h1 @h2 @h3 ?_
  rfl
 |p1 i th j s _ y=>
  have hsz:(Tm.mk 11 i th [Tm.mk 10 j s [x,y]]).size=2+x.size+y.size:=by simp[Tm.size,Tm.sizes];omega
  have hx:x.shape=true:=shape_args (shape_args hs (.mk 10 j s [x,y]) (by simp)) x (by simp)
  have h1:=countTm_c _ x (Nat.le_refl _) (by have:=shape_full x hx;omega)
  have e2:growT (Tm.mk 11 i th [Tm.mk 10 j s [x,y]])=x.size-(Tm.mk 11 i th [Tm.mk 10 j s [x,y]]).size:=rfl
  rw[e2]
  clear e2
  refine M.F Tryz.func227 ?_
  refine M.v2 @h0 @h1 ?_
  rfl
 |p2 i th j s y _=>
  have hsz:(Tm.mk 12 i th [Tm.mk 10 j s [y,x]]).size=2+x.size+y.size:=by simp[Tm.size,Tm.sizes];omega
  have hx:x.shape=true:=shape_args (shape_args hs (.mk 10 j s [y,x]) (by simp)) x (by simp)
  have h1:=countTm_c _ x (Nat.le_refl _) (by have:=shape_full x hx;omega)
  have e2:growT (Tm.mk 12 i th [Tm.mk 10 j s [y,x]])=x.size-(Tm.mk 12 i th [Tm.mk 10 j s [y,x]]).size:=rfl
  rw[e2]
  clear e2
  refine M.F Tryz.func227 ?_
  refine M.v2 @h0 @h1 ?_
  rfl
theorem idx_arg{t x:Tm}{B:Int}(hx:x∈t.args)(h:∀p∈t.vars 0,0≤p.1∧p.1<B):∀p∈x.vars 0,0≤p.1∧p.1<B:=by
 intro p hp
 have e:=vars_shift x 0 (up t.kind 0)
 have hm:(p.1,p.2+up t.kind 0)∈t.vars 0:=by
  rw[Tm.vars_eq]
  refine List.mem_append_right _ (List.mem_flatMap.2 ⟨x,hx,?_⟩)
  rw[Int.zero_add] at e
  rw[e]
  exact List.mem_map.2 ⟨p,hp,rfl⟩
 have h3:=h (p.1,p.2+up t.kind 0) hm
 exact h3
theorem rred_c{t x:Tm}(hv:RV t x)(hs:t.shape=true)(hz:t.size≤4096)(hix:∀p∈t.vars 0,0≤p.1∧p.1<1073741824):PC E 228 [.agg t.view] (.agg x.view):=by
 have hfull:=shape_full t hs
 cases hv with
 |beta i th j s b a=>
  have hb:b.shape=true:=shape_args (shape_args hs (.mk 2 j s [b]) (by simp)) b (by simp)
  have ha:a.shape=true:=shape_args hs a (by simp)
  have hsz:(Tm.mk 3 i th [Tm.mk 2 j s [b],a]).size=2+b.size+a.size:=by simp[Tm.size,Tm.sizes];omega
  have fb:=shape_full b hb
  have fa:=shape_full a ha
  have hia:=idx_arg (t:=Tm.mk 3 i th [Tm.mk 2 j s [b],a]) (x:=a) (by simp) hix
  have hib:=idx_arg (t:=Tm.mk 2 j s [b]) (x:=b) (by simp) (idx_arg (t:=Tm.mk 3 i th [Tm.mk 2 j s [b],a]) (x:=Tm.mk 2 j s [b]) (by simp) hix)
  have h1:=rin_c 0 a (by omega) ha (by omega) (fun p hp=>by have:=hia p hp;omega) _ b 0 (Nat.le_refl _) (by omega) (by omega) (by omega) hb (fun p hp=>by have:=hib p hp;omega)
  refine M.F Tryz.func228 ?_
  refine M.v1 @h1 ?_
  rfl
 |rz i th _ f j s=>
  refine M.F Tryz.func228 ?_
  refine M.v0 ?_
  rfl
 |fz i th _ f j s=>
  refine M.F Tryz.func228 ?_
  refine M.v0 ?_
  rfl
 |rs i th x f j s n=>
  have hff:(Tm.mk 6 i th [x,f,Tm.mk 5 j s [n]]).full=2+th.size+s.size+x.full+f.full+n.full:=by simp[Tm.full,Tm.fulls];omega
  have h1:=n_c 3 [f,n] (by simp;omega)
  have h2:=t_c 6 th [x,f,n] (by simp;omega) (by omega)
  have h3:=n_c 3 [apT f n,.mk 6 0 th [x,f,n]] (by simp[apT,Tm.full,Tm.fulls,Ty.size,Ty.sizes];omega)
  refine M.F Tryz.func228 ?_
  refine M.v3 @h1 @h2 @h3 ?_
  rfl
 |fs i th x f j s n l=>
  have hff:(Tm.mk 9 i th [x,f,Tm.mk 8 j s [n,l]]).full=2+th.size+s.size+x.full+f.full+n.full+l.full:=by simp[Tm.full,Tm.fulls];omega
  have h1:=n_c 3 [f,n] (by simp;omega)
  have h2:=n_c 3 [apT f n,l] (by simp[apT,Tm.full,Tm.fulls,Ty.size,Ty.sizes];omega)
  have h3:=t_c 9 th [x,f,l] (by simp;omega) (by omega)
  have h4:=n_c 3 [apT (apT f n) l,.mk 9 0 th [x,f,l]] (by simp[apT,Tm.full,Tm.fulls,Ty.size,Ty.sizes];omega)
  refine M.F Tryz.func228 ?_
  refine M.v4 @h1 @h2 @h3 @h4 ?_
  rfl
 |p1 i th j s _ y=>
  refine M.F Tryz.func228 ?_
  refine M.v0 ?_
  rfl
 |p2 i th j s y _=>
  refine M.F Tryz.func228 ?_
  refine M.v0 ?_
  rfl
end Go.Ab
