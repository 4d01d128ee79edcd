/- A part of the proofs of this seat's statements: S101, S74, S105, S106, S107, S75, S110. It has no conditions of its own. -/
import Derived.Test.YthlkampfjlkniaaGreatDoorXA1
import Derived.Test.YthlkampfjlkniaaGreatDoorXD1
import Derived.Test.YthlkampfjlkniaaGreatDoorXDT1
import Derived.Test.YthlkampfjlkniaaGreatDoorA2
import Derived.Test.YthlkampfjlkniaaGreatDoorST3
import Derived.Test.YthlkampfjlkniaaGreatDoorS3
import Derived.Test.YthlkampfjlkniaaGreatDoorDT1
import Derived.Test.YthlkampfjlkniaaGreatDoorS2
import Derived.Test.YthlkampfjlkniaaGreatDoorS1
import Derived.Test.YthlkampfjlkniaaGreatDoorAT1
namespace Go.Ab
open Go Go.Proofs
set_option maxRecDepth 100000
set_option maxHeartbeats 4000000
set_option linter.all false
theorem vT_full(i:Int):(vT i).full=2:=by simp only[vT,Tm.full,Tm.fulls,Ty.size,Ty.sizes]
theorem dzero_c:PC E 56 [] (.agg zT.view):=by
 have h1:=tof_c 4 []
 refine M.F Tryz.func56 ?_
 repeat'(first|refine M.gw ?_|refine M.c2 (h1) ?_|fail)
 rfl
theorem dsucc_c(t:Tm):PC E 62 [.agg t.view] (.agg (sT t).view):=by
 have h1:=tof_c 5 [t]
 refine M.F Tryz.func62 ?_
 repeat'(first|refine M.gw ?_|refine M.c2 (h1) ?_|fail)
 rfl
theorem dabsurd_c(p:Pf):PC E 63 [.agg p.view] (.agg (absurdP p).view):=by
 have h1:=dzero_c
 have h2:=dsucc_c zT
 have h3:=tvar_c 0
 have h4:=deither_c zT (sT zT) (vT 0) (by decide) (by decide)
 have h5:=deq_c zT (eitherT zT (sT zT) (vT 0))
 have h6:=drefl_c zT
 have h7:=dsubst_c (eqF zT (eitherT zT (sT zT) (vT 0))) p (reflP zT)
 refine M.F Tryz.func63 ?_
 repeat'(first|refine M.gw ?_|refine M.c2 (h1) ?_|refine M.c2 (h2) ?_|refine M.c2 (h3) ?_|refine M.c2 (h4) ?_|refine M.c2 (h5) ?_|refine M.c2 (h6) ?_|refine M.c2 (h7) ?_|fail)
 rfl
theorem liftFmCb(fr by_:Int)(hat:0≤fr∧fr<274877906944)(hs:0≤by_∧by_<274877906944)(t:Tm)(bl:Int)(ht:t.full<274877906944)(hb:0≤bl∧bl<274877906944)(hix:∀p∈t.vars 0,0≤p.1∧p.1<549755813888):
 AC E 175 [.agg t.view,.i bl,.ptr 0 0,.ptr 1 0] ⟨2,[(0,.var [.i fr]),(1,.var [.i by_])]⟩ (.agg (t.re (liftG (fr+bl) by_) 0).view) ⟨2,[(0,.var [.i fr]),(1,.var [.i by_])]⟩:=by
 have hc:=lift_c t (fr+bl) by_ (by omega) ht hix
 refine M.F Tryz.func175 ?_
 repeat'(first|refine M.gw ?_|refine M.c2 (hc) ?_|fail)
 (exact M.n2 [some 0,some 1] (h8:=(by simp[tupV,V.wk,V.wks,constV,Ty.view,Tm.view,hc])))
theorem liftFmRe(fr by_:Int)(hat:0≤fr∧fr<274877906944)(hs:0≤by_∧by_<274877906944):∀(n:Nat) (f:Fm) (bl:Int),f.full≤n→n<274877906944→0≤bl→bl+n<274877906944→(∀p∈f.tms bl,∀q∈p.1.vars 0,0≤q.1∧q.1<549755813888)→
 AC E 174 [.agg f.view,.i bl,.fn (.func 175) [] [.ptr 0 0,.ptr 1 0]] ⟨2,[(0,.var [.i fr]),(1,.var [.i by_])]⟩ (.agg (f.re (fun b t=>t.re (liftG (fr+b) by_) 0) bl).view) ⟨2,[(0,.var [.i fr]),(1,.var [.i by_])]⟩:=by
 intro n
 induction n with
 |zero=>intro f bl h;intros;have:=f.full_pos;omega
 |succ n ih=>
 intro f bl hsz hb hbl hbn hix
 have hsz':=f.full_eq
 have hlen:=lsum_len Fm.full Fm.full_pos f.args
 have hlen2:=lsum_len Tm.full Tm.full_pos f.terms
 have hty:=ownTy_c _ f.ty (Nat.le_refl _) (by omega)
 have hq:=quantifier_c f.kind
 have hre:=Fm.re_eq (fun b t=>t.re (liftG (fr+b) by_) 0) bl f
 have htm:=f.tms_eq bl
 refine M.F Tryz.func174 ?_
 repeat'(first|refine M.gw ?_|refine M.c2 (hty) ?_|fail)
 refine AW.range f.terms.length (fun m=>True)
  (fun m=>([(1,.i bl),(2,.fn (.func 175) [] [.ptr 0 0,.ptr 1 0]),(3,.ptr 2 0),(6,.ptr 3 0),(7,.ptr 4 0),(19,.s .tm f.terms),(20,.i f.terms.length),(21,.i m)],⟨6,[(0,.var [.i fr]),(1,.var [.i by_]),(2,.var f.view),(3,.var [.i 0,.i 0,.slice .nil (.t .ty []),.slice .nil (.t .tm []),.slice .nil (.t .fm [])]),(4,.var [.i f.kind,.i f.ty.kind,.s .ty f.ty.args,.slice (.own 5) (.t .tm ((f.terms.take m).map ((fun b t=>t.re (liftG (fr+b) by_) 0) bl))),.slice .nil (.t .fm [])]),(5,.row)]⟩))
  (by omega) (fun m=>rfl) (fun m=>rfl) rfl trivial (M.W [some 0,some 1,some 2,some 3,some 4,none]) ?_ ?_
 ·intro m hm _
  have hs2:=lsum_mem Tm.full (List.getElem_mem hm)
  have hc:=liftFmCb fr by_ hat hs f.terms[m] bl (by omega) (by omega) (fun p hp=>hix _ (by rw[htm];exact List.mem_append_left _ (List.mem_map.2 ⟨_,List.getElem_mem hm,rfl⟩)) p hp)
  repeat'(first|refine M.gw ?_|refine M.cv (hc) [0,1] 0 ?_|fail)
  exact⟨rfl,trivial,(M.W [some 0,some 1,some 2,some 3,some 4,some 7] (he:=(by(repeat'(first|exact trivial|exact Or.inr ⟨_,U,rfl⟩|refine And.intro ?_ ?_|refine⟨_,U,_,U,_,U,?_⟩|exact VLe.refl _|exact VLe.of_eq (by simp[Sto.upd,map_take _ _ _ hm])));done)))⟩
 ·intro _
  simp only[List.take_length]
  cases hqk:quantK f.kind with
  |true=>
   rw[hqk] at hq
   have hu:upF f.kind bl=bl+1:=by simp[upF,hqk]
   rw[hu] at hre htm
   repeat'(first|refine M.gw ?_|refine M.c2 (hq) ?_|fail)
   refine AW.range f.args.length (fun m=>True)
    (fun m=>([(1,.i (bl+1)),(2,.fn (.func 175) [] [.ptr 0 0,.ptr 1 0]),(3,.ptr 2 0),(6,.ptr 3 0),(7,.ptr 4 0),(41,.s .fm f.args),(42,.i f.args.length),(43,.i m)],⟨7,[(0,.var [.i fr]),(1,.var [.i by_]),(2,.var f.view),(3,.var [.i 0,.i 0,.slice .nil (.t .ty []),.slice .nil (.t .tm []),.slice .nil (.t .fm [])]),(4,.var [.i f.kind,.i f.ty.kind,.s .ty f.ty.args,.slice (.own 5) (.t .tm (f.terms.map ((fun b t=>t.re (liftG (fr+b) by_) 0) bl))),.slice (.own 6) (.t .fm ((f.args.take m).map (Fm.re (fun b t=>t.re (liftG (fr+b) by_) 0) (bl+1))))]),(5,.row),(6,.row)]⟩))
    (by omega) (fun m=>rfl) (fun m=>rfl) rfl trivial (M.W [some 0,some 1,some 2,some 3,some 4,some 5,none]) ?_ ?_
   ·intro m hm _
    have hs2:=lsum_mem Fm.full (List.getElem_mem hm)
    have hc:=ih f.args[m] (bl+1) (by omega) (by omega) (by omega) (by omega) (fun p hp=>hix p (by rw[htm];exact List.mem_append_right _ (List.mem_flatMap.2 ⟨_,List.getElem_mem hm,hp⟩)))
    repeat'(first|refine M.gw ?_|refine M.cv (hc) [0,1] 0 ?_|fail)
    exact⟨rfl,trivial,(M.W [some 0,some 1,some 2,some 3,some 4,some 5,some 8] (he:=(by(repeat'(first|exact trivial|exact Or.inr ⟨_,U,rfl⟩|refine And.intro ?_ ?_|refine⟨_,U,_,U,_,U,?_⟩|exact VLe.refl _|exact VLe.of_eq (by simp[Sto.upd,map_take _ _ _ hm])));done)))⟩
   ·intro _
    simp only[List.take_length]
    repeat'(first|refine M.gw ?_|fail)
    (exact M.n2 [some 0,some 1] (h8:=(by simp[tupV,V.wk,V.wks,constV,Ty.view,Tm.view,hre])))
  |false=>
   rw[hqk] at hq
   have hu:upF f.kind bl=bl:=by simp[upF,hqk]
   rw[hu] at hre htm
   repeat'(first|refine M.gw ?_|refine M.c2 (hq) ?_|fail)
   refine AW.range f.args.length (fun m=>True)
    (fun m=>([(1,.i bl),(2,.fn (.func 175) [] [.ptr 0 0,.ptr 1 0]),(3,.ptr 2 0),(6,.ptr 3 0),(7,.ptr 4 0),(41,.s .fm f.args),(42,.i f.args.length),(43,.i m)],⟨7,[(0,.var [.i fr]),(1,.var [.i by_]),(2,.var f.view),(3,.var [.i 0,.i 0,.slice .nil (.t .ty []),.slice .nil (.t .tm []),.slice .nil (.t .fm [])]),(4,.var [.i f.kind,.i f.ty.kind,.s .ty f.ty.args,.slice (.own 5) (.t .tm (f.terms.map ((fun b t=>t.re (liftG (fr+b) by_) 0) bl))),.slice (.own 6) (.t .fm ((f.args.take m).map (Fm.re (fun b t=>t.re (liftG (fr+b) by_) 0) bl)))]),(5,.row),(6,.row)]⟩))
    (by omega) (fun m=>rfl) (fun m=>rfl) rfl trivial (M.W [some 0,some 1,some 2,some 3,some 4,some 5,none]) ?_ ?_
   ·intro m hm _
    have hs2:=lsum_mem Fm.full (List.getElem_mem hm)
    have hc:=ih f.args[m] bl (by omega) (by omega) (by omega) (by omega) (fun p hp=>hix p (by rw[htm];exact List.mem_append_right _ (List.mem_flatMap.2 ⟨_,List.getElem_mem hm,hp⟩)))
    repeat'(first|refine M.gw ?_|refine M.cv (hc) [0,1] 0 ?_|fail)
    exact⟨rfl,trivial,(M.W [some 0,some 1,some 2,some 3,some 4,some 5,some 8] (he:=(by(repeat'(first|exact trivial|exact Or.inr ⟨_,U,rfl⟩|refine And.intro ?_ ?_|refine⟨_,U,_,U,_,U,?_⟩|exact VLe.refl _|exact VLe.of_eq (by simp[Sto.upd,map_take _ _ _ hm])));done)))⟩
   ·intro _
    simp only[List.take_length]
    repeat'(first|refine M.gw ?_|fail)
    (exact M.n2 [some 0,some 1] (h8:=(by simp[tupV,V.wk,V.wks,constV,Ty.view,Tm.view,hre])))
theorem liftFm_c(f:Fm)(fr by_:Int)(hat:0≤fr∧fr<274877906944)(hs:0≤by_∧by_<274877906944)(hf:f.full<137438953472)(hix:∀p∈f.tms 0,∀q∈p.1.vars 0,0≤q.1∧q.1<549755813888):PC E 118 [.agg f.view,.i fr,.i by_] (.agg (f.lft fr by_).view):=by
 have hc:=liftFmRe fr by_ hat hs _ f 0 (Nat.le_refl _) (by omega) (by omega) (by omega) hix
 refine M.F Tryz.func118 ?_
 repeat'(first|refine M.gw ?_|refine M.cv (hc) [1,2] 0 ?_|fail)
 rfl
theorem fLift_c(f:Fm)(fr by_:Int)(hf:f.full<137438953472):PC E 125 [.agg f.view,.i fr,.i by_] (.tup [.agg (if liftFErr f fr by_=0 then f.lft fr by_ else noFm).view,.i (liftFErr f fr by_)]):=by
 have h1:=fcheck_c f (by omega)
 have h2:=fwithin_c fr
 have h3:=fwithin_c by_
 have h4:=nearFm_c f (by omega)
 have h5:f.err=0→f.near=true→(0≤fr∧fr≤4096)→(0≤by_∧by_≤4096)→_:=fun h hn ha hb=>liftFm_c f fr by_ (by omega) (by omega) hf (nearF_lt h hn)
 refine M.F Tryz.func125 ?_
 repeat'(first|refine M.gw ?_|refine M.c2 (h1) ?_|refine M.c2 (h2) ?_|refine M.c2 (h3) ?_|refine M.c2 (h4) ?_|refine M.c2 (h5 (by simp_all) (by simp_all) (by simp_all) (by simp_all)) ?_|((fail_if_success refine AX.wt U ?_);refine AX.gs U U (fun _=>trivial) (fun h=> ?_) (fun h=> ?_))|refine AW.condS U (fun h=> ?_) (fun h=> ?_)|fail)
 ·have e':f.err≠0:=by simpa using h
  have e:liftFErr f fr by_=f.err:=by simp only[liftFErr];rw[if_pos e']
  simp[tupV,V.wk,V.wks,constV,Ty.view,Fm.view,e,noFm,e']
 ·rename_i h0
  have e':¬f.err≠0:=by simpa using h0
  have e:liftFErr f fr by_=1:=by simp only[liftFErr];rw[if_neg e',if_pos (.inl (by intro hc;simp[hc] at h))]
  simp[tupV,V.wk,V.wks,constV,Ty.view,Fm.view,e,noFm]
 ·rename_i h0 h1
  have e':¬f.err≠0:=by simpa using h0
  have e:liftFErr f fr by_=1:=by simp only[liftFErr];rw[if_neg e',if_pos (.inr (.inl (by intro hc;simp[hc] at h)))]
  simp[tupV,V.wk,V.wks,constV,Ty.view,Fm.view,e,noFm]
 ·rename_i h0 h1 h2
  have e':¬f.err≠0:=by simpa using h0
  have e:liftFErr f fr by_=1:=by simp only[liftFErr];rw[if_neg e',if_pos (.inr (.inr (by simpa using h)))]
  simp[tupV,V.wk,V.wks,constV,Ty.view,Fm.view,e,noFm]
 ·rename_i h0 h1 h2
  have e':¬f.err≠0:=by simpa using h0
  have e:liftFErr f fr by_=0:=by
   simp only[liftFErr];rw[if_neg e',if_neg]
   rintro(hc|hc|hc)
   ·simp at h1;omega
   ·simp at h2;omega
   ·simp [hc] at h
  simp[tupV,V.wk,V.wks,constV,Ty.view,Fm.view,e,noFm]
theorem rupF0_c(f:Fm)(fr by_:Int)(hf:f.full<100000000000)(h1:0≤fr∧fr<100000000000)(hby:0≤by_∧by_≤549755813888)(hs:f.shape=true)(hix:∀p∈f.tms 0,∀q∈p.1.vars 0,0≤q.1∧q.1<549755813888):
 PC E 115 [.agg f.view,.i fr,.i by_] (.agg (f.lft fr by_).view):=by
 have h:=rupF_c by_ (by omega) _ f fr (Nat.le_refl _) (by omega) (by omega) (by omega) hs hix
 have e:f.re (fun b t=>t.re (liftG b by_) 0) fr=f.lft fr by_:=by
  have e1:=Fm.re_shift (fun b t=>t.re (liftG b by_) 0) fr f 0
  rw[Int.zero_add] at e1
  rw[e1,lft_at]
  exact Fm.re_pt (fun b t _=>by rw[Int.add_comm b fr]) f
 rw[e] at h
 exact h
theorem ltCb1(fr by_:Int)(hat:0≤fr∧fr<274877906944)(hs:0≤by_∧by_<274877906944)(t:Tm)(bl:Int)(ht:t.full<274877906944)(hb:0≤bl∧bl<274877906944)(hix:∀p∈t.vars 0,0≤p.1∧p.1<549755813888):
 AC E 178 [.agg t.view,.i bl,.ptr 0 0,.ptr 1 0] ⟨2,[(0,.var [.i fr]),(1,.var [.i by_])]⟩ (.agg (t.re (liftG (fr+bl) by_) 0).view) ⟨2,[(0,.var [.i fr]),(1,.var [.i by_])]⟩:=by
 have hc:=lift_c t (fr+bl) by_ (by omega) ht hix
 refine AC.mk Tryz.func178 rfl rfl rfl rfl rfl (Nat.le_of_ble_eq_true rfl) ?_
 repeat'(first|((with_reducible refine D.nil ?_);refine AX.nilL ?_)|((with_reducible refine D.load ?_);refine L.ldb U U U U U U ?_)|((with_reducible refine D.move ?_);refine L.mv U U U ?_)|((with_reducible refine D.bin ?_);refine L.ad U U U U (by omega) ?_)|((with_reducible refine D.call ?_);refine L.c2 (hc) U U U U ?_)|((with_reducible refine D.box ?_);refine L.bx U U U U ?_)|((with_reducible refine D.alloc ?_);refine L.al U U U ?_)|((with_reducible refine D.store ?_);refine L.st U U U U U U U U U ?_)|((with_reducible refine D.aw ?_);first|refine K.sq (AW.regL ?_)|refine AW.ret ?_)|with_reducible refine K.tN ?_)
 (exact K.n2 [some 0,some 1] U U U U U (by(repeat'(first|exact trivial|refine And.intro ?_ ?_|refine⟨_,U,_,U,_,U,?_⟩|exact VLe.refl _));done) U (by simp[tupV,V.wk,V.wks,constV,Ty.view,Tm.view,hc]))
theorem ltCb2(fr by_:Int)(hat:0≤fr∧fr<100000000000)(hs:0≤by_∧by_<274877906944)(f:Fm)(bl:Int)(ht:f.full<137438953472)(hb:0≤bl∧bl<100000000000)(hix:∀p∈f.tms 0,∀q∈p.1.vars 0,0≤q.1∧q.1<549755813888):
 AC E 179 [.agg f.view,.i bl,.ptr 0 0,.ptr 1 0] ⟨2,[(0,.var [.i fr]),(1,.var [.i by_])]⟩ (.agg (f.lft (fr+bl) by_).view) ⟨2,[(0,.var [.i fr]),(1,.var [.i by_])]⟩:=by
 have hc:=liftFm_c f (fr+bl) by_ (by omega) hs ht hix
 generalize f.lft (fr+bl) by_=F at*
 refine AC.mk Tryz.func179 rfl rfl rfl rfl rfl (Nat.le_of_ble_eq_true rfl) ?_
 repeat'(first|((with_reducible refine D.nil ?_);refine AX.nilL ?_)|((with_reducible refine D.load ?_);refine L.ldb U U U U U U ?_)|((with_reducible refine D.move ?_);refine L.mv U U U ?_)|((with_reducible refine D.bin ?_);refine L.ad U U U U (by omega) ?_)|((with_reducible refine D.call ?_);refine L.c2 (hc) U U U U ?_)|((with_reducible refine D.box ?_);refine L.bx U U U U ?_)|((with_reducible refine D.alloc ?_);refine L.al U U U ?_)|((with_reducible refine D.store ?_);refine L.st U U U U U U U U U ?_)|((with_reducible refine D.aw ?_);first|refine K.sq (AW.regL ?_)|refine AW.ret ?_)|with_reducible refine K.tN ?_)
 (exact K.n2 [some 0,some 1] U U U U U (by(repeat'(first|exact trivial|refine And.intro ?_ ?_|refine⟨_,U,_,U,_,U,?_⟩|exact VLe.refl _));done) U (by simp[tupV,V.wk,V.wks,constV,Ty.view,Tm.view,Fm.view]))
theorem liftPfRe(fr by_:Int)(hfr:0≤fr∧fr<10000000000)(hby:0≤by_∧by_<10000000000):∀(n:Nat) (p:Pf) (v y:Int),p.full≤n→n<10000000000→(0≤v∧v+2*n≤50000000000)→(0≤y∧y+2*n≤50000000000)→p.shape=true→p.ix 549755813888→
 AC E 149 [.agg p.view,.agg [.i v,.i y],.agg [.fn (.func 178) [] [.ptr 0 0,.ptr 1 0],.fn (.func 179) [] [.ptr 0 0,.ptr 1 0],.nilf]] ⟨2,[(0,.var [.i fr]),(1,.var [.i by_])]⟩ (.agg (p.up fr by_ v).view) ⟨2,[(0,.var [.i fr]),(1,.var [.i by_])]⟩:=by
 intro n
 induction n with
 |zero=>intro p v y hz;have:=p.full_pos;omega
 |succ n ih=>
 intro p v y hz hn hv hh hs hix
 obtain⟨x1,x2,x3⟩:=(Pf.ix_iff _ _).1 hix
 have hre:=p.up_eq fr by_ v
 have hsz':=p.full_eq
 have hlen:=lsum_len Pf.full Pf.full_pos p.args
 have hlen1:=lsum_len Fm.full Fm.full_pos p.forms
 have hlen2:=lsum_len Tm.full Tm.full_pos p.terms
 have hty:=ownTy_c _ p.ty (Nat.le_refl _) (by omega)
 have hru:=ruleOf_c p.kind
 obtain⟨nd,n1,n2,n3,n4,_⟩:=pf_parts hs
 have hal:p.args.length≤2:=by
  rw[n4]
  unfold ndP at n1
  repeat(split at n1;· cases n1;decide)
  cases n1
 have hpl:=fun(m:Nat) (hm:m≤1000000)=>placeBelow_c p.kind v y nd n1 m hm (by omega) (by omega)
 have e2:ruC p.kind=[.bool nd.index,.bool nd.typ,.i nd.terms,.i nd.forms,.i nd.args,.i (fvK p.kind),.i (vaK p.kind),.i (hyK p.kind)]:=by unfold ruC;rw[n1]
 have b1:0≤vaK p.kind∧vaK p.kind≤2:=by unfold vaK;split<;>(try split)<;>omega
 have b2:0≤hyK p.kind∧hyK p.kind≤1:=by unfold hyK;split<;>omega
 have b3:0≤fvK p.kind∧fvK p.kind≤1:=by unfold fvK;split<;>omega
 rw[n1] at hru
 simp only[Option.isSome_some] at hru
 have hpf:=(pshape_parts hs).2.2.2
 rw[e2] at hru
 simp only[e2] at hpl
 refine AC.mk Tryz.func149 rfl rfl rfl rfl rfl (Nat.le_of_ble_eq_true rfl) ?_
 repeat'(first|((with_reducible refine D.nil ?_);first|refine AX.nilL ?_|refine AX.nilD (by kernel_rfl) ?_)|((with_reducible refine D.load ?_);first|refine L.ldb U U U U U U ?_|refine AX.sk U U ?_)|((with_reducible refine D.move ?_);refine L.mv U U U ?_)|((with_reducible refine D.fieldAddr ?_);first|refine L.fab U U U U U ?_|refine AX.sk U U ?_|((fail_if_success refine AX.wt U ?_);refine AX.gs U U (fun _=>trivial) (fun h=> ?_) (fun h=> ?_)))|((with_reducible refine D.assign ?_);refine L.asg U U U ?_)|((with_reducible refine D.bin ?_);first|refine L.bn U U U U U ?_|refine AX.sk U U ?_|refine L.fnn U (by kernel_rfl) U U U U ?_)|((with_reducible refine D.call ?_);first|refine L.lnt U U U U ?_|refine L.c2 (hru) U U U U ?_|refine L.c2 (hty) U U U U ?_)|((with_reducible refine D.extract ?_);refine L.ex U U U U ?_)|((with_reducible refine D.box ?_);refine L.bx U U U U ?_)|((with_reducible refine D.alloc ?_);refine L.al U U U ?_)|((with_reducible refine D.store ?_);refine L.st U U U U U U U U U ?_)|((with_reducible refine D.pick ?_);refine L.pk U U U U ?_)|((with_reducible refine D.ax ?_);refine L.bd U U U U U ?_)|((with_reducible refine D.aw ?_);first|refine K.sq (AW.regL ?_)|refine K.sq (AW.regD mixed (by kernel_rfl) ?_)|refine K.sq (K.sq ?_)|refine AW.regL ?_|refine AW.condF U ?_|refine AW.skip ?_)|with_reducible refine K.tN ?_)
 all_goals
  refine AW.range p.terms.length (fun m=>True)
   (fun m=>([(3,.ptr 2 0),(4,.ptr 3 0),(5,.ptr 4 0),(6,.ptr 5 0),(7,.ptr 6 0),(9,.ptr 7 0),(44,.s .tm p.terms),(45,.i p.terms.length),(46,.i m)],⟨9,[(0,.var [.i fr]),(1,.var [.i by_]),(2,.var p.view),(3,.var [.i v,.i y]),(4,.var [.fn (.func 178) [] [.ptr 0 0,.ptr 1 0],.fn (.func 179) [] [.ptr 0 0,.ptr 1 0],.nilf]),(5,.var [.i 0,.i 0,.i 0,.slice .nil (.t .ty []),.slice .nil (.t .tm []),.slice .nil (.t .fm []),.slice .nil (.t .pf [])]),(6,.var [.bool nd.index,.bool nd.typ,.i nd.terms,.i nd.forms,.i nd.args,.i (fvK p.kind),.i (vaK p.kind),.i (hyK p.kind)]),(7,.var [.i p.kind,.i p.index,.i p.ty.kind,.s .ty p.ty.args,.slice (.own 8) (.t .tm ((p.terms.take m).map fun t=>t.re (liftG (fr+v) by_) 0)),.slice .nil (.t .fm []),.slice .nil (.t .pf [])]),(8,.row)]⟩))
   (by omega) (fun m=>rfl) (fun m=>rfl) U trivial (Weak.mk [some 0,some 1,some 2,some 3,some 4,some 5,some 6,some 7,none] _ _ _ U U U U (by(repeat'(first|exact trivial|refine And.intro ?_ ?_|refine⟨_,U,_,U,?_⟩|exact VLe.refl _));done) (by(repeat'(first|exact trivial|exact Or.inl U|refine And.intro ?_ ?_|refine⟨_,U,_,U,_,U,?_⟩|exact VLe.refl _));done)) ?_ ?_
  ·intro m hm _
   have hs2:=lsum_mem Tm.full (List.getElem_mem hm)
   have hc:=ltCb1 fr by_ (by omega) (by omega) p.terms[m] v (by omega) (by omega) (x1 _ (List.getElem_mem hm))
   repeat'(first|((with_reducible refine D.nil ?_);first|refine AX.nilL ?_|refine AX.nilD (by kernel_rfl) ?_)|((with_reducible refine D.load ?_);first|refine L.ldb U U U U U U ?_|refine L.lda U U U U U ?_)|((with_reducible refine D.fieldAddr ?_);refine L.fab U U U U U ?_)|((with_reducible refine D.bin ?_);refine L.fnn U (by kernel_rfl) U U U U ?_)|((with_reducible refine D.call ?_);first|refine L.apt U U U U U U (by first|exact trivial|exact⟨rfl,trivial⟩) U U (by first|omega|(simp;omega)) ?_|(apply L.cv2 (hc) [0,1] 0 rfl;rfl;rfl;rfl;rfl;rfl;rfl;rfl;(focus((repeat'(first|exact trivial|refine And.intro ?_ ?_|refine⟨_,U,_,U,_,U,?_⟩|exact VLe.refl _));done));rfl;rfl;rfl;rfl))|((with_reducible refine D.alloc ?_);refine L.al U U U ?_)|((with_reducible refine D.store ?_);refine L.st U U U U U U U U U ?_)|((with_reducible refine D.indexAddr ?_);refine L.ixt _ U U U U U U U (by first|assumption|fail) ?_)|((with_reducible refine D.ax ?_);refine L.bs1 U U U U U (EC.fold_of U) U U ?_)|((with_reducible refine D.aw ?_);first|refine K.sq (AW.regL ?_)|refine AW.regD mixed (by kernel_rfl) ?_|refine AW.condT U ?_)|with_reducible refine K.tN ?_|with_reducible refine K.bN ?_)
   exact⟨rfl,trivial,(Weak.mk [some 0,some 1,some 2,some 3,some 4,some 5,some 6,some 7,some 10] _ _ _ U U U U (by(repeat'(first|exact trivial|refine And.intro ?_ ?_|refine⟨_,U,_,U,?_⟩|exact VLe.refl _));done) (by(repeat'(first|exact trivial|exact Or.inr ⟨_,U,rfl⟩|refine And.intro ?_ ?_|refine⟨_,U,_,U,_,U,?_⟩|exact VLe.refl _|exact VLe.of_eq (by simp[Sto.upd,map_take _ _ _ hm])));done))⟩
  ·intro _
   simp only[List.take_length]
   repeat'(first|((with_reducible refine D.nil ?_);refine AX.nilL ?_)|((with_reducible refine D.load ?_);refine L.ldb U U U U U U ?_)|((with_reducible refine D.move ?_);refine L.mv U U U ?_)|((with_reducible refine D.fieldAddr ?_);refine L.fab U U U U U ?_)|((with_reducible refine D.call ?_);refine L.lnt U U U U ?_)|((with_reducible refine D.aw ?_);first|refine K.sq (K.sq ?_)|refine AW.regL ?_)|with_reducible refine K.tN ?_)
   refine AW.range p.forms.length (fun m=>True)
    (fun m=>([(3,.ptr 2 0),(4,.ptr 3 0),(5,.ptr 4 0),(6,.ptr 5 0),(7,.ptr 6 0),(9,.ptr 7 0),(73,.s .fm p.forms),(74,.i p.forms.length),(75,.i m)],⟨10,[(0,.var [.i fr]),(1,.var [.i by_]),(2,.var p.view),(3,.var [.i v,.i y]),(4,.var [.fn (.func 178) [] [.ptr 0 0,.ptr 1 0],.fn (.func 179) [] [.ptr 0 0,.ptr 1 0],.nilf]),(5,.var [.i 0,.i 0,.i 0,.slice .nil (.t .ty []),.slice .nil (.t .tm []),.slice .nil (.t .fm []),.slice .nil (.t .pf [])]),(6,.var [.bool nd.index,.bool nd.typ,.i nd.terms,.i nd.forms,.i nd.args,.i (fvK p.kind),.i (vaK p.kind),.i (hyK p.kind)]),(7,.var [.i p.kind,.i p.index,.i p.ty.kind,.s .ty p.ty.args,.slice (.own 8) (.t .tm (p.terms.map fun t=>t.re (liftG (fr+v) by_) 0)),.slice (.own 9) (.t .fm ((p.forms.take m).map fun f=>f.lft (fr+(v+fvK p.kind)) by_)),.slice .nil (.t .pf [])]),(8,.row),(9,.row)]⟩))
    (by omega) (fun m=>rfl) (fun m=>rfl) U trivial (Weak.mk [some 0,some 1,some 2,some 3,some 4,some 5,some 6,some 7,some 8,none] _ _ _ U U U U (by(repeat'(first|exact trivial|refine And.intro ?_ ?_|refine⟨_,U,_,U,?_⟩|exact VLe.refl _));done) (by(repeat'(first|exact trivial|exact Or.inl U|exact Or.inr ⟨_,U,rfl⟩|refine And.intro ?_ ?_|refine⟨_,U,_,U,_,U,?_⟩|exact VLe.refl _));done)) ?_ ?_
   ·intro m hm _
    have hs2:=lsum_mem Fm.full (List.getElem_mem hm)
    have hc:=ltCb2 fr by_ (by omega) (by omega) p.forms[m] (v+fvK p.kind) (by omega) (by omega) (x2 _ (List.getElem_mem hm))
    repeat'(first|((with_reducible refine D.nil ?_);first|refine AX.nilL ?_|refine AX.nilD (by kernel_rfl) ?_)|((with_reducible refine D.load ?_);first|refine L.ldb U U U U U U ?_|refine L.lda U U U U U ?_)|((with_reducible refine D.fieldAddr ?_);refine L.fab U U U U U ?_)|((with_reducible refine D.bin ?_);first|refine L.ad U U U U (by omega) ?_|refine L.fnn U (by kernel_rfl) U U U U ?_)|((with_reducible refine D.call ?_);first|refine L.apt U U U U U U (by first|exact trivial|exact⟨rfl,trivial⟩) U U (by first|omega|(simp;omega)) ?_|(apply L.cv2 (hc) [0,1] 0 rfl;rfl;rfl;rfl;rfl;rfl;rfl;rfl;(focus((repeat'(first|exact trivial|refine And.intro ?_ ?_|refine⟨_,U,_,U,_,U,?_⟩|exact VLe.refl _));done));rfl;rfl;rfl;rfl))|((with_reducible refine D.alloc ?_);refine L.al U U U ?_)|((with_reducible refine D.store ?_);refine L.st U U U U U U U U U ?_)|((with_reducible refine D.indexAddr ?_);refine L.ixt _ U U U U U U U (by first|assumption|fail) ?_)|((with_reducible refine D.ax ?_);refine L.bs1 U U U U U (EC.fold_of U) U U ?_)|((with_reducible refine D.aw ?_);first|refine K.sq (AW.regL ?_)|refine AW.regD mixed (by kernel_rfl) ?_|refine AW.condT U ?_)|with_reducible refine K.tN ?_|with_reducible refine K.bN ?_)
    exact⟨rfl,trivial,(Weak.mk [some 0,some 1,some 2,some 3,some 4,some 5,some 6,some 7,some 8,some 11] _ _ _ U U U U (by(repeat'(first|exact trivial|refine And.intro ?_ ?_|refine⟨_,U,_,U,?_⟩|exact VLe.refl _));done) (by(repeat'(first|exact trivial|exact Or.inr ⟨_,U,rfl⟩|refine And.intro ?_ ?_|refine⟨_,U,_,U,_,U,?_⟩|exact VLe.refl _|exact VLe.of_eq (by simp[Sto.upd,map_take _ _ _ hm])));done))⟩
   ·intro _
    simp only[List.take_length]
    repeat'(first|((with_reducible refine D.nil ?_);refine AX.nilL ?_)|((with_reducible refine D.load ?_);refine L.ldb U U U U U U ?_)|((with_reducible refine D.move ?_);refine L.mv U U U ?_)|((with_reducible refine D.fieldAddr ?_);refine L.fab U U U U U ?_)|((with_reducible refine D.call ?_);refine L.lnt U U U U ?_)|((with_reducible refine D.aw ?_);first|refine K.sq (K.sq ?_)|refine AW.regL ?_)|with_reducible refine K.tN ?_)
    refine AW.range p.args.length (fun m=>True)
     (fun m=>([(3,.ptr 2 0),(4,.ptr 3 0),(5,.ptr 4 0),(6,.ptr 5 0),(7,.ptr 6 0),(9,.ptr 7 0),(105,.s .pf p.args),(106,.i p.args.length),(107,.i m)],⟨11,[(0,.var [.i fr]),(1,.var [.i by_]),(2,.var p.view),(3,.var [.i v,.i y]),(4,.var [.fn (.func 178) [] [.ptr 0 0,.ptr 1 0],.fn (.func 179) [] [.ptr 0 0,.ptr 1 0],.nilf]),(5,.var [.i 0,.i 0,.i 0,.slice .nil (.t .ty []),.slice .nil (.t .tm []),.slice .nil (.t .fm []),.slice .nil (.t .pf [])]),(6,.var [.bool nd.index,.bool nd.typ,.i nd.terms,.i nd.forms,.i nd.args,.i (fvK p.kind),.i (vaK p.kind),.i (hyK p.kind)]),(7,.var [.i p.kind,.i p.index,.i p.ty.kind,.s .ty p.ty.args,.slice (.own 8) (.t .tm (p.terms.map fun t=>t.re (liftG (fr+v) by_) 0)),.slice (.own 9) (.t .fm (p.forms.map fun f=>f.lft (fr+(v+fvK p.kind)) by_)),.slice (.own 10) (.t .pf ((Pf.ups fr by_ v (vaK p.kind) p.args).take m))]),(8,.row),(9,.row),(10,.row)]⟩))
     (by omega) (fun m=>rfl) (fun m=>rfl) U trivial (Weak.mk [some 0,some 1,some 2,some 3,some 4,some 5,some 6,some 7,some 8,some 9,none] _ _ _ U U U U (by(repeat'(first|exact trivial|refine And.intro ?_ ?_|refine⟨_,U,_,U,?_⟩|exact VLe.refl _));done) (by(repeat'(first|exact trivial|exact Or.inl U|exact Or.inr ⟨_,U,rfl⟩|refine And.intro ?_ ?_|refine⟨_,U,_,U,_,U,?_⟩|exact VLe.refl _));done)) ?_ ?_
    ·intro m hm _
     have hs2:=lsum_mem Pf.full (List.getElem_mem hm)
     have hb:=hpl m (by omega)
     have hc:=ih p.args[m] (if m+1=p.args.length then v+vaK p.kind else v) (if(m:Int)=(nd.args:Int)-1 then y+hyK p.kind else y) (by omega) (by omega) (by split<;>omega) (by split<;>omega) (hpf _ (List.getElem_mem hm)) (x3 _ (List.getElem_mem hm))
     have ev:(if(m:Int)=(nd.args:Int)-1 then v+vaK p.kind else v)=(if m+1=p.args.length then v+vaK p.kind else v):=by
      by_cases hx:m+1=p.args.length
      ·rw [if_pos hx,if_pos (by omega)]
      ·rw [if_neg hx,if_neg (by omega)]
     rw[ev] at hb
     repeat'(first|((with_reducible refine D.nil ?_);first|refine AX.nilL ?_|refine AX.nilD (by kernel_rfl) ?_)|((with_reducible refine D.load ?_);first|refine L.ldb U U U U U U ?_|refine L.lda U U U U U ?_)|((with_reducible refine D.move ?_);refine L.mv U U U ?_)|((with_reducible refine D.fieldAddr ?_);refine L.fab U U U U U ?_)|((with_reducible refine D.assign ?_);refine L.asg U U U ?_)|((with_reducible refine D.call ?_);first|refine L.apt U U U U U U (by first|exact trivial|exact⟨rfl,trivial⟩) U U (by first|omega|(simp;omega)) ?_|refine L.c2 (hb) U U U U ?_|(apply L.cv2 (hc) [0,1] 0 rfl;rfl;rfl;rfl;rfl;rfl;rfl;rfl;(focus((repeat'(first|exact trivial|refine And.intro ?_ ?_|refine⟨_,U,_,U,_,U,?_⟩|exact VLe.refl _));done));rfl;rfl;rfl;rfl))|((with_reducible refine D.alloc ?_);refine L.al U U U ?_)|((with_reducible refine D.store ?_);refine L.st U U U U U U U U U ?_)|((with_reducible refine D.indexAddr ?_);refine L.ixt _ U U U U U U U (by first|assumption|fail) ?_)|((with_reducible refine D.ax ?_);refine L.bs1 U U U U U (EC.fold_of U) U U ?_)|((with_reducible refine D.aw ?_);first|refine K.sq (AW.regL ?_)|refine AW.regD mixed (by kernel_rfl) ?_)|with_reducible refine K.tN ?_|with_reducible refine K.bN ?_)
     exact⟨rfl,trivial,(Weak.mk [some 0,some 1,some 2,some 3,some 4,some 5,some 6,some 7,some 8,some 9,some 12] _ _ _ U U U U (by(repeat'(first|exact trivial|refine And.intro ?_ ?_|refine⟨_,U,_,U,?_⟩|exact VLe.refl _));done) (by(repeat'(first|exact trivial|exact Or.inr ⟨_,U,rfl⟩|refine And.intro ?_ ?_|refine⟨_,U,_,U,_,U,?_⟩|exact VLe.refl _|exact VLe.of_eq (by simp[Sto.upd,ups_take hm])));done))⟩
    ·intro _
     simp only[ups_all]
     repeat'(first|((with_reducible refine D.nil ?_);refine AX.nilL ?_)|((with_reducible refine D.load ?_);refine L.ldb U U U U U U ?_)|((with_reducible refine D.store ?_);refine L.st U U U U U U U U U ?_)|((with_reducible refine D.aw ?_);first|refine K.sq (AW.regL ?_)|refine AW.ret ?_)|with_reducible refine K.tN ?_)
     rw[hre]
     (exact K.n2 [some 0,some 1] U U U U U (by(repeat'(first|exact trivial|refine And.intro ?_ ?_|refine⟨_,U,_,U,_,U,?_⟩|exact VLe.refl _));done) U (by simp[tupV,V.wk,V.wks,constV,Ty.view,Tm.view,hre]))
theorem liftPf_c(p:Pf)(fr by_:Int)(hfr:0≤fr∧fr<10000000000)(hby:0≤by_∧by_<10000000000)(hp:p.full<5000000000)(hs:p.shape=true)(hix:p.ix 549755813888):PC E 121 [.agg p.view,.i fr,.i by_] (.agg (p.up fr by_ 0).view):=by
 have hc:=liftPfRe fr by_ hfr hby _ p 0 0 (Nat.le_refl _) (by omega) (by omega) (by omega) hs hix
 refine AC.mk Tryz.func121 rfl rfl rfl rfl rfl (Nat.le_of_ble_eq_true rfl) ?_
 repeat'(first|((with_reducible refine D.nil ?_);refine AX.nilL ?_)|((with_reducible refine D.load ?_);refine L.ldb U U U U U U ?_)|((with_reducible refine D.call ?_);(apply L.cv2 (hc) [1,2] 0 rfl;rfl;rfl;rfl;rfl;rfl;rfl;rfl;(focus((repeat'(first|exact trivial|refine And.intro ?_ ?_|refine⟨_,U,_,U,_,U,?_⟩|exact VLe.refl _));done));rfl;rfl;rfl;rfl))|((with_reducible refine D.box ?_);refine L.bx U U U U ?_)|((with_reducible refine D.alloc ?_);refine L.al U U U ?_)|((with_reducible refine D.store ?_);refine L.st U U U U U U U U U ?_)|((with_reducible refine D.ax ?_);first|refine L.bd U U U U U ?_|refine L.mf U U U U ?_)|((with_reducible refine D.aw ?_);first|refine K.sq (AW.regL ?_)|refine AW.ret ?_)|with_reducible refine K.tN ?_|with_reducible refine K.r1 (by with_unfolding_all rfl) (by with_unfolding_all rfl) ?_)
 simp[tupV,V.wk,V.wks,constV,Ty.view,Tm.view]
theorem lhCb(fr by_:Int)(hat: -274877906944≤fr∧fr<274877906944)(hs:0≤by_∧by_<274877906944)(i v y:Int)(p:Pf)(hi:0≤p.index∧p.index<549755813888)(hy:0≤y∧y<274877906944):
 AC E 177 [.agg p.view,.agg [.i v,.i y],.ptr 0 0,.ptr 1 0] ⟨2,[(0,.var [.i fr]),(1,.var [.i by_])]⟩ (.agg (hypP (if p.index-y≥fr then p.index+by_ else p.index)).view) ⟨2,[(0,.var [.i fr]),(1,.var [.i by_])]⟩:=by
 have h1:=hyp_c (p.index+by_)
 have h2:=hyp_c p.index
 by_cases h0:p.index-y≥fr
 ·rw [if_pos h0]
  refine AC.mk Tryz.func177 rfl rfl rfl rfl rfl (Nat.le_of_ble_eq_true rfl) ?_
  repeat'(first|((with_reducible refine D.nil ?_);refine AX.nilL ?_)|((with_reducible refine D.load ?_);refine L.ldb U U U U U U ?_)|((with_reducible refine D.fieldAddr ?_);refine L.fab U U U U U ?_)|((with_reducible refine D.bin ?_);first|refine L.ad U U U U (by omega) ?_|refine L.sb U U U U (by omega) ?_|refine L.bn U U U U U ?_)|((with_reducible refine D.call ?_);first|refine L.c2 (h1) U U U U ?_|refine L.c2 (h2) U U U U ?_)|((with_reducible refine D.box ?_);refine L.bx U U U U ?_)|((with_reducible refine D.alloc ?_);refine L.al U U U ?_)|((with_reducible refine D.store ?_);refine L.st U U U U U U U U U ?_)|((with_reducible refine D.aw ?_);first|refine K.sq (AW.regL ?_)|refine K.sq (K.sq ?_)|refine AW.regL ?_|refine AW.condS U (fun h=> ?_) (fun h=> ?_)|refine AW.skip ?_|refine AW.ret ?_)|with_reducible refine K.tN ?_|with_reducible refine K.tR ?_)
  ·(exact K.n2 [some 0,some 1] U U U U U (by(repeat'(first|exact trivial|refine And.intro ?_ ?_|refine⟨_,U,_,U,_,U,?_⟩|exact VLe.refl _));done) U (by simp[tupV,V.wk,V.wks,constV,Ty.view,Tm.view,Pf.view,hypP]))
  ·exfalso;simp at h;omega
 ·rw [if_neg h0]
  refine AC.mk Tryz.func177 rfl rfl rfl rfl rfl (Nat.le_of_ble_eq_true rfl) ?_
  repeat'(first|((with_reducible refine D.nil ?_);refine AX.nilL ?_)|((with_reducible refine D.load ?_);refine L.ldb U U U U U U ?_)|((with_reducible refine D.fieldAddr ?_);refine L.fab U U U U U ?_)|((with_reducible refine D.bin ?_);first|refine L.ad U U U U (by omega) ?_|refine L.sb U U U U (by omega) ?_|refine L.bn U U U U U ?_)|((with_reducible refine D.call ?_);first|refine L.c2 (h1) U U U U ?_|refine L.c2 (h2) U U U U ?_)|((with_reducible refine D.box ?_);refine L.bx U U U U ?_)|((with_reducible refine D.alloc ?_);refine L.al U U U ?_)|((with_reducible refine D.store ?_);refine L.st U U U U U U U U U ?_)|((with_reducible refine D.aw ?_);first|refine K.sq (AW.regL ?_)|refine K.sq (K.sq ?_)|refine AW.regL ?_|refine AW.condS U (fun h=> ?_) (fun h=> ?_)|refine AW.skip ?_|refine AW.ret ?_)|with_reducible refine K.tN ?_|with_reducible refine K.tR ?_)
  ·exfalso;simp at h;omega
  ·(exact K.n2 [some 0,some 1] U U U U U (by(repeat'(first|exact trivial|refine And.intro ?_ ?_|refine⟨_,U,_,U,_,U,?_⟩|exact VLe.refl _));done) U (by simp[tupV,V.wk,V.wks,constV,Ty.view,Tm.view,Pf.view,hypP]))
theorem lhPfRe(fr by_:Int)(hfr:0≤fr∧fr<10000000000)(hby:0≤by_∧by_<10000000000):∀(n:Nat) (p:Pf) (v y:Int),p.full≤n→n<10000000000→(0≤v∧v+2*n≤50000000000)→(0≤y∧y+2*n≤50000000000)→p.shape=true→p.hx 549755813888→
 AC E 149 [.agg p.view,.agg [.i v,.i y],.agg [.nilf,.nilf,.fn (.func 177) [] [.ptr 0 0,.ptr 1 0]]] ⟨2,[(0,.var [.i fr]),(1,.var [.i by_])]⟩ (.agg (p.lh fr by_ y).view) ⟨2,[(0,.var [.i fr]),(1,.var [.i by_])]⟩:=by
 intro n
 induction n with
 |zero=>intro p v y hz;have:=p.full_pos;omega
 |succ n ih=>
 intro p v y hz hn hv hh hs hix
 obtain⟨x1,x3⟩:=(Pf.hx_iff _ _).1 hix
 have hre:=p.lh_eq fr by_ y
 by_cases hk:p.kind=1
 ·rw [if_pos hk] at hre
  rw[hre]
  have hc:=lhCb fr by_ (by omega) (by omega) 0 v y p (x1 hk) (by omega)
  refine AC.mk Tryz.func149 rfl rfl rfl rfl rfl (Nat.le_of_ble_eq_true rfl) ?_
  repeat'(first|((with_reducible refine D.nil ?_);refine AX.nilL ?_)|((with_reducible refine D.load ?_);first|refine L.ldb U U U U U U ?_|refine AX.sk U U ?_)|((with_reducible refine D.move ?_);refine L.mv U U U ?_)|((with_reducible refine D.fieldAddr ?_);first|refine L.fab U U U U U ?_|refine AX.sk U U ?_|((fail_if_success refine AX.wt U ?_);refine AX.gs U U (fun _=>trivial) (fun h=> ?_) (fun h=> ?_)))|((with_reducible refine D.bin ?_);first|refine L.bn U U U U U ?_|refine AX.sk U U ?_|refine L.fnn U (by kernel_rfl) U U U U ?_)|((with_reducible refine D.call ?_);(apply L.cv2 (hc) [0,1] 0 rfl;rfl;rfl;rfl;rfl;rfl;rfl;rfl;(focus((repeat'(first|exact trivial|refine And.intro ?_ ?_|refine⟨_,U,_,U,_,U,?_⟩|exact VLe.refl _));done));rfl;rfl;rfl;rfl))|((with_reducible refine D.box ?_);refine L.bx U U U U ?_)|((with_reducible refine D.alloc ?_);refine L.al U U U ?_)|((with_reducible refine D.store ?_);refine L.st U U U U U U U U U ?_)|((with_reducible refine D.pick ?_);refine L.pk U U U U ?_)|((with_reducible refine D.aw ?_);(fail_if_success with_reducible refine D.stopR (id:=3) ?_);(fail_if_success with_reducible refine D.stopS (id:=3) ?_);first|refine K.sq (AW.regL ?_)|refine K.sq (K.sq ?_)|refine AW.regL ?_|refine AW.condT U ?_|refine AW.condF U ?_|refine AW.skip ?_|refine AW.ret ?_)|with_reducible refine K.tN ?_|with_reducible refine K.tR ?_)
  all_goals first
   |(exfalso;simp at h;omega)
   |(exfalso;simp_all;done)
   |(exact K.n2 [some 0,some 1] U U U U U (by(repeat'(first|exact trivial|refine And.intro ?_ ?_|refine⟨_,U,_,U,_,U,?_⟩|exact VLe.refl _));done) U (by simp[tupV,V.wk,V.wks,constV,Ty.view,Tm.view,Pf.view,hypP]))
   |trace_state
 rw[if_neg hk] at hre
 have hsz':=p.full_eq
 have hlen:=lsum_len Pf.full Pf.full_pos p.args
 have hlen1:=lsum_len Fm.full Fm.full_pos p.forms
 have hlen2:=lsum_len Tm.full Tm.full_pos p.terms
 have hty:=ownTy_c _ p.ty (Nat.le_refl _) (by omega)
 have hru:=ruleOf_c p.kind
 obtain⟨nd,n1,n2,n3,n4,_⟩:=pf_parts hs
 have hal:p.args.length≤2:=by
  rw[n4]
  unfold ndP at n1
  repeat(split at n1;· cases n1;decide)
  cases n1
 have hpl:=fun(m:Nat) (hm:m≤1000000)=>placeBelow_c p.kind v y nd n1 m hm (by omega) (by omega)
 have e2:ruC p.kind=[.bool nd.index,.bool nd.typ,.i nd.terms,.i nd.forms,.i nd.args,.i (fvK p.kind),.i (vaK p.kind),.i (hyK p.kind)]:=by unfold ruC;rw[n1]
 have b1:0≤vaK p.kind∧vaK p.kind≤2:=by unfold vaK;split<;>(try split)<;>omega
 have b2:0≤hyK p.kind∧hyK p.kind≤1:=by unfold hyK;split<;>omega
 have b3:0≤fvK p.kind∧fvK p.kind≤1:=by unfold fvK;split<;>omega
 rw[n1] at hru
 simp only[Option.isSome_some] at hru
 have hpf:=(pshape_parts hs).2.2.2
 rw[e2] at hru
 simp only[e2] at hpl
 refine AC.mk Tryz.func149 rfl rfl rfl rfl rfl (Nat.le_of_ble_eq_true rfl) ?_
 repeat'(first|((with_reducible refine D.nil ?_);first|refine AX.nilL ?_|refine AX.nilD (by kernel_rfl) ?_)|((with_reducible refine D.load ?_);first|refine L.ldb U U U U U U ?_|refine AX.sk U U ?_)|((with_reducible refine D.move ?_);refine L.mv U U U ?_)|((with_reducible refine D.fieldAddr ?_);first|refine L.fab U U U U U ?_|refine AX.sk U U ?_|((fail_if_success refine AX.wt U ?_);refine AX.gs U U (fun _=>trivial) (fun h=> ?_) (fun h=> ?_)))|((with_reducible refine D.assign ?_);refine L.asg U U U ?_)|((with_reducible refine D.bin ?_);first|refine L.bn U U U U U ?_|refine AX.sk U U ?_|refine L.fnn U (by kernel_rfl) U U U U ?_)|((with_reducible refine D.call ?_);first|refine L.c2 (hru) U U U U ?_|refine L.c2 (hty) U U U U ?_)|((with_reducible refine D.extract ?_);refine L.ex U U U U ?_)|((with_reducible refine D.box ?_);refine L.bx U U U U ?_)|((with_reducible refine D.alloc ?_);refine L.al U U U ?_)|((with_reducible refine D.store ?_);refine L.st U U U U U U U U U ?_)|((with_reducible refine D.pick ?_);refine L.pk U U U U ?_)|((with_reducible refine D.ax ?_);refine L.bd U U U U U ?_)|((with_reducible refine D.aw ?_);(fail_if_success with_reducible refine D.stopR (id:=5) ?_);(fail_if_success with_reducible refine D.stopS (id:=5) ?_);first|refine K.sq (AW.regL ?_)|refine K.sq (AW.regD mixed (by kernel_rfl) ?_)|refine K.sq (K.sq ?_)|refine AW.regL ?_|refine AW.condT U ?_|refine AW.condF U ?_|refine AW.skip ?_)|with_reducible refine K.tN ?_)
 all_goals first
  |(exfalso;simp at h;omega)
  |skip
 repeat'(first|((with_reducible refine D.nil ?_);refine AX.nilL ?_)|((with_reducible refine D.load ?_);refine L.ldb U U U U U U ?_)|((with_reducible refine D.move ?_);refine L.mv U U U ?_)|((with_reducible refine D.fieldAddr ?_);refine L.fab U U U U U ?_)|((with_reducible refine D.call ?_);refine L.lnt U U U U ?_)|((with_reducible refine D.aw ?_);first|refine K.sq (K.sq ?_)|refine AW.regL ?_)|with_reducible refine K.tN ?_)
 all_goals
  refine AW.range p.terms.length (fun m=>True)
   (fun m=>([(3,.ptr 2 0),(4,.ptr 3 0),(5,.ptr 4 0),(6,.ptr 5 0),(7,.ptr 6 0),(9,.ptr 7 0),(44,.s .tm p.terms),(45,.i p.terms.length),(46,.i m)],⟨9,[(0,.var [.i fr]),(1,.var [.i by_]),(2,.var p.view),(3,.var [.i v,.i y]),(4,.var [.nilf,.nilf,.fn (.func 177) [] [.ptr 0 0,.ptr 1 0]]),(5,.var [.i 0,.i 0,.i 0,.slice .nil (.t .ty []),.slice .nil (.t .tm []),.slice .nil (.t .fm []),.slice .nil (.t .pf [])]),(6,.var [.bool nd.index,.bool nd.typ,.i nd.terms,.i nd.forms,.i nd.args,.i (fvK p.kind),.i (vaK p.kind),.i (hyK p.kind)]),(7,.var [.i p.kind,.i p.index,.i p.ty.kind,.s .ty p.ty.args,.slice (.own 8) (.t .tm (p.terms.take m)),.slice .nil (.t .fm []),.slice .nil (.t .pf [])]),(8,.row)]⟩))
   (by omega) (fun m=>rfl) (fun m=>rfl) U trivial (Weak.mk [some 0,some 1,some 2,some 3,some 4,some 5,some 6,some 7,none] _ _ _ U U U U (by(repeat'(first|exact trivial|refine And.intro ?_ ?_|refine⟨_,U,_,U,?_⟩|exact VLe.refl _));done) (by(repeat'(first|exact trivial|exact Or.inl U|refine And.intro ?_ ?_|refine⟨_,U,_,U,_,U,?_⟩|exact VLe.refl _));done)) ?_ ?_
  ·intro m hm _
   have hs2:=lsum_mem Tm.full (List.getElem_mem hm)
   have hc:=ownTm_c _ p.terms[m] (Nat.le_refl _) (by omega)
   repeat'(first|((with_reducible refine D.nil ?_);first|refine AX.nilL ?_|refine AX.nilD (by kernel_rfl) ?_)|((with_reducible refine D.load ?_);first|refine L.ldb U U U U U U ?_|refine L.lda U U U U U ?_)|((with_reducible refine D.fieldAddr ?_);refine L.fab U U U U U ?_)|((with_reducible refine D.bin ?_);refine L.fnn U (by kernel_rfl) U U U U ?_)|((with_reducible refine D.call ?_);first|refine L.apt U U U U U U (by first|exact trivial|exact⟨rfl,trivial⟩) U U (by first|omega|(simp;omega)) ?_|refine L.c2 (hc) U U U U ?_)|((with_reducible refine D.alloc ?_);refine L.al U U U ?_)|((with_reducible refine D.store ?_);refine L.st U U U U U U U U U ?_)|((with_reducible refine D.indexAddr ?_);refine L.ixt _ U U U U U U U (by first|assumption|fail) ?_)|((with_reducible refine D.ax ?_);refine L.bs1 U U U U U (EC.fold_of U) U U ?_)|((with_reducible refine D.aw ?_);first|refine K.sq (AW.regL ?_)|refine AW.regD mixed (by kernel_rfl) ?_|refine AW.condF U ?_)|with_reducible refine K.tN ?_|with_reducible refine K.bN ?_)
   exact⟨rfl,trivial,(Weak.mk [some 0,some 1,some 2,some 3,some 4,some 5,some 6,some 7,some 10] _ _ _ U U U U (by(repeat'(first|exact trivial|refine And.intro ?_ ?_|refine⟨_,U,_,U,?_⟩|exact VLe.refl _));done) (by(repeat'(first|exact trivial|exact Or.inr ⟨_,U,rfl⟩|refine And.intro ?_ ?_|refine⟨_,U,_,U,_,U,?_⟩|exact VLe.refl _|exact VLe.of_eq (by simp[Sto.upd,List.take_append_getElem])));done))⟩
  ·intro _
   simp only[List.take_length]
   repeat'(first|((with_reducible refine D.nil ?_);refine AX.nilL ?_)|((with_reducible refine D.load ?_);refine L.ldb U U U U U U ?_)|((with_reducible refine D.move ?_);refine L.mv U U U ?_)|((with_reducible refine D.fieldAddr ?_);refine L.fab U U U U U ?_)|((with_reducible refine D.call ?_);refine L.lnt U U U U ?_)|((with_reducible refine D.aw ?_);first|refine K.sq (K.sq ?_)|refine AW.regL ?_)|with_reducible refine K.tN ?_)
   refine AW.range p.forms.length (fun m=>True)
    (fun m=>([(3,.ptr 2 0),(4,.ptr 3 0),(5,.ptr 4 0),(6,.ptr 5 0),(7,.ptr 6 0),(9,.ptr 7 0),(73,.s .fm p.forms),(74,.i p.forms.length),(75,.i m)],⟨10,[(0,.var [.i fr]),(1,.var [.i by_]),(2,.var p.view),(3,.var [.i v,.i y]),(4,.var [.nilf,.nilf,.fn (.func 177) [] [.ptr 0 0,.ptr 1 0]]),(5,.var [.i 0,.i 0,.i 0,.slice .nil (.t .ty []),.slice .nil (.t .tm []),.slice .nil (.t .fm []),.slice .nil (.t .pf [])]),(6,.var [.bool nd.index,.bool nd.typ,.i nd.terms,.i nd.forms,.i nd.args,.i (fvK p.kind),.i (vaK p.kind),.i (hyK p.kind)]),(7,.var [.i p.kind,.i p.index,.i p.ty.kind,.s .ty p.ty.args,.slice (.own 8) (.t .tm (p.terms)),.slice (.own 9) (.t .fm (p.forms.take m)),.slice .nil (.t .pf [])]),(8,.row),(9,.row)]⟩))
    (by omega) (fun m=>rfl) (fun m=>rfl) U trivial (Weak.mk [some 0,some 1,some 2,some 3,some 4,some 5,some 6,some 7,some 8,none] _ _ _ U U U U (by(repeat'(first|exact trivial|refine And.intro ?_ ?_|refine⟨_,U,_,U,?_⟩|exact VLe.refl _));done) (by(repeat'(first|exact trivial|exact Or.inl U|exact Or.inr ⟨_,U,rfl⟩|refine And.intro ?_ ?_|refine⟨_,U,_,U,_,U,?_⟩|exact VLe.refl _));done)) ?_ ?_
   ·intro m hm _
    have hs2:=lsum_mem Fm.full (List.getElem_mem hm)
    have hc:=ownFm_c p.forms[m] (by omega)
    repeat'(first|((with_reducible refine D.nil ?_);first|refine AX.nilL ?_|refine AX.nilD (by kernel_rfl) ?_)|((with_reducible refine D.load ?_);first|refine L.ldb U U U U U U ?_|refine L.lda U U U U U ?_)|((with_reducible refine D.fieldAddr ?_);refine L.fab U U U U U ?_)|((with_reducible refine D.bin ?_);refine L.fnn U (by kernel_rfl) U U U U ?_)|((with_reducible refine D.call ?_);first|refine L.apt U U U U U U (by first|exact trivial|exact⟨rfl,trivial⟩) U U (by first|omega|(simp;omega)) ?_|refine L.c2 (hc) U U U U ?_)|((with_reducible refine D.alloc ?_);refine L.al U U U ?_)|((with_reducible refine D.store ?_);refine L.st U U U U U U U U U ?_)|((with_reducible refine D.indexAddr ?_);refine L.ixt _ U U U U U U U (by first|assumption|fail) ?_)|((with_reducible refine D.ax ?_);refine L.bs1 U U U U U (EC.fold_of U) U U ?_)|((with_reducible refine D.aw ?_);first|refine K.sq (AW.regL ?_)|refine AW.regD mixed (by kernel_rfl) ?_|refine AW.condF U ?_)|with_reducible refine K.tN ?_|with_reducible refine K.bN ?_)
    exact⟨rfl,trivial,(Weak.mk [some 0,some 1,some 2,some 3,some 4,some 5,some 6,some 7,some 8,some 11] _ _ _ U U U U (by(repeat'(first|exact trivial|refine And.intro ?_ ?_|refine⟨_,U,_,U,?_⟩|exact VLe.refl _));done) (by(repeat'(first|exact trivial|exact Or.inr ⟨_,U,rfl⟩|refine And.intro ?_ ?_|refine⟨_,U,_,U,_,U,?_⟩|exact VLe.refl _|exact VLe.of_eq (by simp[Sto.upd,List.take_append_getElem])));done))⟩
   ·intro _
    simp only[List.take_length]
    repeat'(first|((with_reducible refine D.nil ?_);refine AX.nilL ?_)|((with_reducible refine D.load ?_);refine L.ldb U U U U U U ?_)|((with_reducible refine D.move ?_);refine L.mv U U U ?_)|((with_reducible refine D.fieldAddr ?_);refine L.fab U U U U U ?_)|((with_reducible refine D.call ?_);refine L.lnt U U U U ?_)|((with_reducible refine D.aw ?_);first|refine K.sq (K.sq ?_)|refine AW.regL ?_)|with_reducible refine K.tN ?_)
    refine AW.range p.args.length (fun m=>True)
     (fun m=>([(3,.ptr 2 0),(4,.ptr 3 0),(5,.ptr 4 0),(6,.ptr 5 0),(7,.ptr 6 0),(9,.ptr 7 0),(105,.s .pf p.args),(106,.i p.args.length),(107,.i m)],⟨11,[(0,.var [.i fr]),(1,.var [.i by_]),(2,.var p.view),(3,.var [.i v,.i y]),(4,.var [.nilf,.nilf,.fn (.func 177) [] [.ptr 0 0,.ptr 1 0]]),(5,.var [.i 0,.i 0,.i 0,.slice .nil (.t .ty []),.slice .nil (.t .tm []),.slice .nil (.t .fm []),.slice .nil (.t .pf [])]),(6,.var [.bool nd.index,.bool nd.typ,.i nd.terms,.i nd.forms,.i nd.args,.i (fvK p.kind),.i (vaK p.kind),.i (hyK p.kind)]),(7,.var [.i p.kind,.i p.index,.i p.ty.kind,.s .ty p.ty.args,.slice (.own 8) (.t .tm (p.terms)),.slice (.own 9) (.t .fm (p.forms)),.slice (.own 10) (.t .pf ((Pf.lhs fr by_ y (hyK p.kind) p.args).take m))]),(8,.row),(9,.row),(10,.row)]⟩))
     (by omega) (fun m=>rfl) (fun m=>rfl) U trivial (Weak.mk [some 0,some 1,some 2,some 3,some 4,some 5,some 6,some 7,some 8,some 9,none] _ _ _ U U U U (by(repeat'(first|exact trivial|refine And.intro ?_ ?_|refine⟨_,U,_,U,?_⟩|exact VLe.refl _));done) (by(repeat'(first|exact trivial|exact Or.inl U|exact Or.inr ⟨_,U,rfl⟩|refine And.intro ?_ ?_|refine⟨_,U,_,U,_,U,?_⟩|exact VLe.refl _));done)) ?_ ?_
    ·intro m hm _
     have hs2:=lsum_mem Pf.full (List.getElem_mem hm)
     have hb:=hpl m (by omega)
     have hc:=ih p.args[m] (if(m:Int)=(nd.args:Int)-1 then v+vaK p.kind else v) (if m+1=p.args.length then y+hyK p.kind else y) (by omega) (by omega) (by split<;>omega) (by split<;>omega) (hpf _ (List.getElem_mem hm)) (x3 hk _ (List.getElem_mem hm))
     have ev:(if(m:Int)=(nd.args:Int)-1 then y+hyK p.kind else y)=(if m+1=p.args.length then y+hyK p.kind else y):=by
      by_cases hx:m+1=p.args.length
      ·rw [if_pos hx,if_pos (by omega)]
      ·rw [if_neg hx,if_neg (by omega)]
     rw[ev] at hb
     repeat'(first|((with_reducible refine D.nil ?_);first|refine AX.nilL ?_|refine AX.nilD (by kernel_rfl) ?_)|((with_reducible refine D.load ?_);first|refine L.ldb U U U U U U ?_|refine L.lda U U U U U ?_)|((with_reducible refine D.move ?_);refine L.mv U U U ?_)|((with_reducible refine D.fieldAddr ?_);refine L.fab U U U U U ?_)|((with_reducible refine D.assign ?_);refine L.asg U U U ?_)|((with_reducible refine D.call ?_);first|refine L.apt U U U U U U (by first|exact trivial|exact⟨rfl,trivial⟩) U U (by first|omega|(simp;omega)) ?_|refine L.c2 (hb) U U U U ?_|(apply L.cv2 (hc) [0,1] 0 rfl;rfl;rfl;rfl;rfl;rfl;rfl;rfl;(focus((repeat'(first|exact trivial|refine And.intro ?_ ?_|refine⟨_,U,_,U,_,U,?_⟩|exact VLe.refl _));done));rfl;rfl;rfl;rfl))|((with_reducible refine D.alloc ?_);refine L.al U U U ?_)|((with_reducible refine D.store ?_);refine L.st U U U U U U U U U ?_)|((with_reducible refine D.indexAddr ?_);refine L.ixt _ U U U U U U U (by first|assumption|fail) ?_)|((with_reducible refine D.ax ?_);refine L.bs1 U U U U U (EC.fold_of U) U U ?_)|((with_reducible refine D.aw ?_);first|refine K.sq (AW.regL ?_)|refine AW.regD mixed (by kernel_rfl) ?_)|with_reducible refine K.tN ?_|with_reducible refine K.bN ?_)
     exact⟨rfl,trivial,(Weak.mk [some 0,some 1,some 2,some 3,some 4,some 5,some 6,some 7,some 8,some 9,some 12] _ _ _ U U U U (by(repeat'(first|exact trivial|refine And.intro ?_ ?_|refine⟨_,U,_,U,?_⟩|exact VLe.refl _));done) (by(repeat'(first|exact trivial|exact Or.inr ⟨_,U,rfl⟩|refine And.intro ?_ ?_|refine⟨_,U,_,U,_,U,?_⟩|exact VLe.refl _|exact VLe.of_eq (by simp[Sto.upd,lhs_take hm])));done))⟩
    ·intro _
     simp only[lhs_all]
     repeat'(first|((with_reducible refine D.nil ?_);refine AX.nilL ?_)|((with_reducible refine D.load ?_);refine L.ldb U U U U U U ?_)|((with_reducible refine D.store ?_);refine L.st U U U U U U U U U ?_)|((with_reducible refine D.aw ?_);first|refine K.sq (AW.regL ?_)|refine AW.ret ?_)|with_reducible refine K.tN ?_)
     rw[hre]
     (exact K.n2 [some 0,some 1] U U U U U (by(repeat'(first|exact trivial|refine And.intro ?_ ?_|refine⟨_,U,_,U,_,U,?_⟩|exact VLe.refl _));done) U (by simp[tupV,V.wk,V.wks,constV,Ty.view,Tm.view,hre]))
theorem lhPf_c(p:Pf)(fr by_:Int)(hfr:0≤fr∧fr<10000000000)(hby:0≤by_∧by_<10000000000)(hp:p.full<5000000000)(hs:p.shape=true)(hix:p.hx 549755813888):PC E 120 [.agg p.view,.i fr,.i by_] (.agg (p.lh fr by_ 0).view):=by
 have hc:=lhPfRe fr by_ hfr hby _ p 0 0 (Nat.le_refl _) (by omega) (by omega) (by omega) hs hix
 refine AC.mk Tryz.func120 rfl rfl rfl rfl rfl (Nat.le_of_ble_eq_true rfl) ?_
 repeat'(first|((with_reducible refine D.nil ?_);refine AX.nilL ?_)|((with_reducible refine D.load ?_);refine L.ldb U U U U U U ?_)|((with_reducible refine D.call ?_);(apply L.cv2 (hc) [1,2] 0 rfl;rfl;rfl;rfl;rfl;rfl;rfl;rfl;(focus((repeat'(first|exact trivial|refine And.intro ?_ ?_|refine⟨_,U,_,U,_,U,?_⟩|exact VLe.refl _));done));rfl;rfl;rfl;rfl))|((with_reducible refine D.box ?_);refine L.bx U U U U ?_)|((with_reducible refine D.alloc ?_);refine L.al U U U ?_)|((with_reducible refine D.store ?_);refine L.st U U U U U U U U U ?_)|((with_reducible refine D.ax ?_);first|refine L.bd U U U U U ?_|refine L.mf U U U U ?_)|((with_reducible refine D.aw ?_);first|refine K.sq (AW.regL ?_)|refine AW.ret ?_)|with_reducible refine K.tN ?_|with_reducible refine K.r1 (by with_unfolding_all rfl) (by with_unfolding_all rfl) ?_)
 simp[tupV,V.wk,V.wks,constV,Ty.view,Tm.view]
theorem upProof_c(p:Pf)(vars hyps:Int)(hv:0≤vars∧vars<10000000000)(hh:0≤hyps∧hyps<10000000000)(hp:p.full<5000000000)(hs:p.shape=true)(hix:p.ix 549755813888)(hq:(p.up 0 vars 0).full<5000000000)(hqs:(p.up 0 vars 0).shape=true)(hqx:(p.up 0 vars 0).hx 549755813888):
 PC E 58 [.agg p.view,.i vars,.i hyps] (.agg ((p.up 0 vars 0).lh 0 hyps 0).view):=by
 have h1:=liftPf_c p 0 vars (by omega) hv hp hs hix
 have h2:=lhPf_c (p.up 0 vars 0) 0 hyps (by omega) hh hq hqs hqx
 refine AC.mk Tryz.func58 rfl rfl rfl rfl rfl (Nat.le_of_ble_eq_true rfl) ?_
 repeat'(first|((with_reducible refine D.nil ?_);refine AX.nilL ?_)|((with_reducible refine D.load ?_);refine L.ldb U U U U U U ?_)|((with_reducible refine D.move ?_);refine L.mv U U U ?_)|((with_reducible refine D.call ?_);first|refine L.c2 (h1) U U U U ?_|refine L.c2 (h2) U U U U ?_)|((with_reducible refine D.box ?_);refine L.bx U U U U ?_)|((with_reducible refine D.alloc ?_);refine L.al U U U ?_)|((with_reducible refine D.store ?_);refine L.st U U U U U U U U U ?_)|((with_reducible refine D.aw ?_);first|refine K.sq (AW.regL ?_)|refine AW.ret ?_)|with_reducible refine K.tN ?_|with_reducible refine K.r1 (by with_unfolding_all rfl) (by with_unfolding_all rfl) ?_)
 rfl
theorem ind_c(k:Int)(f:Fm)(t:Tm)(p q:Pf):PC E 65 [.i k,.agg f.view,.agg t.view,.agg p.view,.agg q.view] (.agg (Pf.mk k 0 (.mk 0 []) [t] [f] [p,q]).view):=by
 refine AC.mk Tryz.func65 rfl rfl rfl rfl rfl (Nat.le_of_ble_eq_true rfl) ?_
 repeat'(first|((with_reducible refine D.nil ?_);refine AX.nilL ?_)|((with_reducible refine D.load ?_);refine L.ldb U U U U U U ?_)|((with_reducible refine D.move ?_);refine L.mv U U U ?_)|((with_reducible refine D.box ?_);refine L.bx U U U U ?_)|((with_reducible refine D.alloc ?_);refine L.al U U U ?_)|((with_reducible refine D.store ?_);refine L.st U U U U U U U U U ?_)|((with_reducible refine D.ax ?_);first|refine L.bd U U U U U ?_|refine L.bs1 U U U U U (EC.fold_of U) U U ?_|refine L.bs2 U U U U U (EC.fold_of U) U U U (EC.fold_of U) U U ?_)|((with_reducible refine D.aw ?_);first|refine K.sq (AW.regL ?_)|refine AW.ret ?_)|with_reducible refine K.tN ?_|with_reducible refine K.r1 (by with_unfolding_all rfl) (by with_unfolding_all rfl) ?_)
 rfl
theorem upHyp_c(i vars hyps:Int)(hi:0≤i∧i<1000000)(hv:0≤vars∧vars<10000000000)(hh:0≤hyps∧hyps<10000000000):PC E 58 [.agg (hypP i).view,.i vars,.i hyps] (.agg (hypP (i+hyps)).view):=by
 have hs:=((Pf.err_iff _).1 (hypP_err (i:=i) hi.1)).1
 have h:=upProof_c (hypP i) vars hyps hv hh (by rw[hyp_full];omega) hs (hyp_ix _ _) (by rw[hyp_up,hyp_full];omega) (by rw[hyp_up];exact hs) (by rw[hyp_up];exact hyp_hx (by omega))
 rw[hyp_up,hyp_lh,if_pos (by omega)] at h
 exact h
theorem lft_full{f:Fm}(hs:f.shape=true){fr by_:Int}(hb:0≤by_):(f.lft fr by_).full=f.full:=(lft_keeps hs hb).2.2
theorem gf_ix{g:List Ty}{f:Fm}{n:Nat}(h:Gf g f n)(hn:n≤4096)(hg:g.length≤100):∀p∈f.tms 0,∀q∈p.1.vars 0,0≤q.1∧q.1<549755813888:=fun p hp q hq=>by
 have h1:=fokT_idx h.ok (h.err hn) hg p hp q hq
 have h2:=Tm.vars_nonneg p.1 (tms_shape f h.sh 0 p hp) 0 q hq
 omega
theorem tequation_c(a b:Tm):PC E 68 [.agg a.view,.agg b.view] (.agg (eqF a b).view):=by
 refine M.F Tryz.func68 ?_
 repeat'(first|refine M.gw ?_|fail)
 rfl
theorem tfalse_c:PC E 106 [] (.agg falseF.view):=by
 have h1:=tof_c 4 []
 have h2:=tof_c 5 [.mk 4 0 (.mk 0 []) []]
 have h3:=tequation_c (.mk 4 0 (.mk 0 []) []) (.mk 5 0 (.mk 0 []) [.mk 4 0 (.mk 0 []) []])
 refine M.F Tryz.func106 ?_
 repeat'(first|refine M.gw ?_|refine M.c2 (h1) ?_|refine M.c2 (h2) ?_|refine M.c2 (h3) ?_|fail)
 rfl
theorem ffalse_c:PC E 127 [] (.agg falseF.view):=by
 refine M.F Tryz.func127 ?_
 repeat'(first|refine M.gw ?_|refine M.c2 (tfalse_c) ?_|fail)
 rfl
theorem form_c(k:Int)(l:List Fm):PC E 50 [.i k,.s .fm l] (.agg (Fm.mk k (.mk 0 []) [] l).view):=by
 refine M.F Tryz.func50 ?_
 repeat'(first|refine M.gw ?_|fail)
 rfl
theorem quantified_c(k:Int)(t:Ty)(f:Fm):PC E 81 [.i k,.agg t.view,.agg f.view] (.agg (Fm.mk k t [] [f]).view):=by
 refine M.F Tryz.func81 ?_
 repeat'(first|refine M.gw ?_|fail)
 rfl
theorem sized_c(f:Fm)(hf:f.full<137438953472):PC E 128 [.agg f.view] (.tup [.agg (if f.err=0 then f else noFm).view,.i f.err]):=by
 have h1:=fcheck_c f (by omega)
 refine M.F Tryz.func128 ?_
 repeat'(first|refine M.gw ?_|refine M.c2 (h1) ?_|refine AW.condS U (fun h=> ?_) (fun h=> ?_)|fail)
 ·have e:¬f.err=0:=by simpa using h
  simp[tupV,V.wk,V.wks,constV,Ty.view,Fm.view,e,noFm]
 ·have e:f.err=0:=by simpa using h
  simp[tupV,V.wk,V.wks,constV,Ty.view,Fm.view,e,noFm]
theorem orZero_c:PC E 126 [] (.agg zeroF.view):=by
 have h1:=tvar_c 0
 have h2:=tof_c 4 []
 have h3:=tequation_c (.mk 1 0 (.mk 0 []) []) (.mk 4 0 (.mk 0 []) [])
 refine M.F Tryz.func126 ?_
 repeat'(first|refine M.gw ?_|refine M.c2 (h1) ?_|refine M.c2 (h2) ?_|refine M.c2 (h3) ?_|fail)
 rfl
theorem or_c(a b:Fm)(ha:liftFErr a 0 1=0)(hb:liftFErr b 0 1=0)(fa:a.full<34359738368)(fb:b.full<34359738368)(fl:(a.lft 0 1).full≤a.full)(fl':(b.lft 0 1).full≤b.full):PC E 73 [.agg a.view,.agg b.view] (.tup [.agg (if(orF (a.lft 0 1) (b.lft 0 1)).err=0 then orF (a.lft 0 1) (b.lft 0 1) else noFm).view,.i (orF (a.lft 0 1) (b.lft 0 1)).err]):=by
 have h1:=fLift_c a 0 1 (by omega)
 have h2:=fLift_c b 0 1 (by omega)
 rw[ha,if_pos rfl] at h1
 rw[hb,if_pos rfl] at h2
 generalize a.lft 0 1=x at*
 generalize b.lft 0 1=y at*
 have h3:=form_c 3 [zeroF,x]
 have h4:=form_c 3 [zeroF,falseF]
 have h5:=form_c 3 [.mk 3 (.mk 0 []) [] [zeroF,falseF],y]
 have h6:=form_c 2 [.mk 3 (.mk 0 []) [] [zeroF,x],.mk 3 (.mk 0 []) [] [.mk 3 (.mk 0 []) [] [zeroF,falseF],y]]
 have h7:=quantified_c 5 natT (.mk 2 (.mk 0 []) [] [.mk 3 (.mk 0 []) [] [zeroF,x],.mk 3 (.mk 0 []) [] [.mk 3 (.mk 0 []) [] [zeroF,falseF],y]])
 have h8:=sized_c (orF x y) (by simp[orF,zeroF,natT,falseF,eqF,Fm.full,Fm.fulls,Tm.fulls,Tm.full,Ty.size,Ty.sizes];omega)
 refine M.F Tryz.func73 ?_
 repeat'(first|refine M.gw ?_|refine M.c2 (h1) ?_|refine M.c2 (h2) ?_|refine M.cv (orZero_c) [] 0 ?_|refine M.c2 (ffalse_c) ?_|refine M.c2 (h3) ?_|refine M.c2 (h4) ?_|refine M.c2 (h5) ?_|refine M.c2 (h6) ?_|refine M.c2 (tnat_c) ?_|refine M.c2 (h7) ?_|refine M.c2 (h8) ?_|fail)
 rfl
theorem isZero_c(t:Tm):PC E 51 [.agg t.view] (.agg (eqF t zT).view):=by
 have h1:=dzero_c
 have h2:=deq_c t zT
 refine M.F Tryz.func51 ?_
 repeat'(first|refine M.gw ?_|refine M.c2 (h1) ?_|refine M.c2 (h2) ?_|fail)
 rfl
theorem dnot_c(f:Fm):PC E 53 [.agg f.view] (.agg (notF f).view):=by
 have h1:=tfalse2_c
 have h2:=form_c 3 [f,falseF]
 obtain⟨k,s,ts,zs⟩:=f
 refine M.F Tryz.func53 ?_
 repeat'(first|refine M.gw ?_|refine M.c2 (h1) ?_|refine M.c2 (h2) ?_|fail)
 rfl
theorem orA_c(a b:Fm)(g:List Ty)(ha:Gf g a 487)(hb:Gf g b 487)(hg:g.length≤100):PC E 73 [.agg a.view,.agg b.view] (.tup [.agg (orA a b).view,.i 0]):=by
 have e1:=liftFErr_no ha.ok (ha.err (by omega)) (by omega)
 have e2:=liftFErr_no hb.ok (hb.err (by omega)) (by omega)
 have f1:=gf_full ha (by omega)
 have f2:=gf_full hb (by omega)
 have h:=or_c a b e1 e2 (by omega) (by omega) (by rw[lft_full ha.sh (by omega)];omega) (by rw[lft_full hb.sh (by omega)];omega)
 have ho:(orF (a.lft 0 1) (b.lft 0 1)).err=0:=(orA_gf ha hb).err (by omega)
 rw[ho,if_pos rfl] at h
 exact h
theorem dorL_c(a b:Fm)(g:List Ty)(ha:Gf g a 487)(hb:Gf g b 487)(hg:g.length≤100)(i:Int)(hi:0≤i∧i<1000000)(hr:0≤(noth b.dp 262144 b 0).2)(he:(leftP a b i (noth b.dp 262144 b 0).1).err=0):
 PC E 48 [.agg a.view,.agg b.view,.bool true,.agg (hypP i).view] (.tup [.agg (leftP a b i (noth b.dp 262144 b 0).1).view,.i 0]):=by
 have f1:=gf_full ha (by omega)
 have f2:=gf_full hb (by omega)
 have ea:=ha.err (by omega)
 have eb:=hb.err (by omega)
 have hck:=chk_c [.fm a,.fm b,.pf (hypP i)] (by simp) (by simp only[List.mem_cons,List.not_mem_nil,or_false];rintro x (rfl|rfl|rfl)<;>simp only[Ch.full,hyp_full]<;>omega)
 unfold chV at hck
 have e:firstI Ch.err [.fm a,.fm b,.pf (hypP i)]=0:=firstI_all (by
  intro x hx;simp only[List.mem_cons,List.not_mem_nil,or_false] at hx
  rcases hx with rfl|rfl|rfl
  ·exact ea
  ·exact eb
  ·exact hypP_err hi.1)
 rw[e] at hck
 have h1:=orA_c a b g ha hb hg
 have h2:=dzero_c
 have h3:=upHyp_c i 0 1 hi (by omega) (by omega)
 have h4:=hyp_c 0
 have h5:=drefl_c zT
 have h6:=dimpE_c (hypP 0) (reflP zT)
 have h7:=exFalso_c b (impEP (hypP 0) (reflP zT)) g eb hb.ok hg
 rw[decide_eq_true (by omega)] at h7
 have nf:=noth_full b.dp b 262144 0 hb.sh (by omega)
 have fo:=gf_full (orA_gf ha hb) (by omega)
 have h12:(leftP a b i (noth b.dp 262144 b 0).1).full<200000000000:=by
  have q1:(eqF zT zT).full≤100:=by decide
  have q2:(notF (eqF zT zT)).full≤100:=by decide
  have q3:falseF.full≤100:=by decide
  have q4:zT.full≤100:=by decide
  have q5:(reflP zT).full≤100:=by decide
  simp only[leftP,someP,andP,impP,impEP,exfP,pf_full1,no_size,hyp_full,List.map_cons,List.map_nil,List.sum_cons,List.sum_nil]
  omega
 have h8:=isZero_c zT
 have h9:=dnot_c (eqF zT zT)
 generalize hx:(noth b.dp 262144 b 0).1=x at*
 have h10:=dimpI_c (eqF zT zT) (hypP (i+1))
 have h11:=dimpI_c (notF (eqF zT zT)) (exfP x (impEP (hypP 0) (reflP zT)))
 have h13:=dnode_c 3 [impP (eqF zT zT) (hypP (i+1)),impP (notF (eqF zT zT)) (exfP x (impEP (hypP 0) (reflP zT)))]
 have h14:=dexI_c (orA a b) zT (andP (impP (eqF zT zT) (hypP (i+1))) (impP (notF (eqF zT zT)) (exfP x (impEP (hypP 0) (reflP zT)))))
 have h15:=ddone_c (leftP a b i x) h12
 unfold doneR at h15
 rw[if_pos he] at h15
 unfold leftP someP at h15 ⊢
 generalize exfP x (impEP (hypP 0) (reflP zT))=w at*
 generalize orA a b=o at*
 refine M.F Tryz.func48 ?_
 repeat'(first|refine M.gw ?_|refine M.c2 (hck) ?_|refine M.c2 (h1) ?_|refine M.c2 (h2) ?_|refine M.c2 (h3) ?_|refine M.c2 (h4) ?_|refine M.c2 (h5) ?_|refine M.c2 (h6) ?_|refine M.c2 (h7) ?_|refine M.c2 (h8) ?_|refine M.c2 (h9) ?_|refine M.c2 (h10) ?_|refine M.c2 (h11) ?_|refine M.c2 (h13) ?_|refine M.c2 (h14) ?_|refine M.c2 (h15) ?_|fail)
 all_goals first
  |rfl
  |trace_state
end Go.Ab
