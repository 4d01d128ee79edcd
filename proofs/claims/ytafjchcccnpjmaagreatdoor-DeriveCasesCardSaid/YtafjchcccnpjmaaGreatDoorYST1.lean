/- A part of the proofs of this seat's statements: S23, S74, S105, S106. It has no conditions of its own. -/
import Derived.Test.YtafjchcccnpjmaaGreatDoorYA1
import Derived.Test.YtafjchcccnpjmaaGreatDoorYD1
import Derived.Test.YtafjchcccnpjmaaGreatDoorYDT1
import Derived.Test.YtafjchcccnpjmaaGreatDoorA2
import Derived.Test.YtafjchcccnpjmaaGreatDoorS2
import Derived.Test.YtafjchcccnpjmaaGreatDoorD1
import Derived.Test.YtafjchcccnpjmaaGreatDoorS3
import Derived.Test.YtafjchcccnpjmaaGreatDoorDT1
import Derived.Test.YtafjchcccnpjmaaGreatDoorST3
namespace Go.Ab
open Go Go.Proofs
set_option maxRecDepth 100000
set_option linter.all false
theorem tnat_c:PC E 71 [] (.agg natT.view):=by
 refine M.F Tryz.func71 ?_
 repeat'(first|refine M.gw ?_|fail)
 rfl
theorem tlist_c:PC E 74 [] (.agg listT.view):=by
 refine M.F Tryz.func74 ?_
 repeat'(first|refine M.gw ?_|fail)
 rfl
end Go.Ab
namespace Go.Ab
open Go Go.Proofs
set_option maxRecDepth 100000
set_option maxHeartbeats 4000000
set_option linter.all false
theorem liftFmCb(fr by_:Int)(hat:0≤fr∧fr<274877906944)(hs:0≤by_∧by_<274877906944)(t:Tm)(bl:Int)(ht:t.full<274877906944)(hb:0≤bl∧bl<274877906944)(hix:∀p∈t.vars 0,0≤p.1∧p.1<549755813888):
 AC E 106 [.agg t.view,.i bl,.ptr 0 0,.ptr 1 0] ⟨2,[(0,.var [.i fr]),(1,.var [.i by_])]⟩ (.agg (t.re (liftG (fr+bl) by_) 0).view) ⟨2,[(0,.var [.i fr]),(1,.var [.i by_])]⟩:=by
 have hc:=lift_c t (fr+bl) by_ (by omega) ht hix
 refine M.F Tryz.func106 ?_
 repeat'(first|refine M.gw ?_|refine M.c2 (hc) ?_|fail)
 (exact M.n2 [some 0,some 1] (h8:=(by simp[tupV,V.wk,V.wks,constV,Ty.view,Tm.view,hc])))
theorem liftFmRe(fr by_:Int)(hat:0≤fr∧fr<274877906944)(hs:0≤by_∧by_<274877906944):∀(n:Nat) (f:Fm) (bl:Int),f.full≤n→n<274877906944→0≤bl→bl+n<274877906944→(∀p∈f.tms bl,∀q∈p.1.vars 0,0≤q.1∧q.1<549755813888)→
 AC E 105 [.agg f.view,.i bl,.fn (.func 106) [] [.ptr 0 0,.ptr 1 0]] ⟨2,[(0,.var [.i fr]),(1,.var [.i by_])]⟩ (.agg (f.re (fun b t=>t.re (liftG (fr+b) by_) 0) bl).view) ⟨2,[(0,.var [.i fr]),(1,.var [.i by_])]⟩:=by
 intro n
 induction n with
 |zero=>intro f bl h;intros;have:=f.full_pos;omega
 |succ n ih=>
 intro f bl hsz hb hbl hbn hix
 have hsz':=f.full_eq
 have hlen:=lsum_len Fm.full Fm.full_pos f.args
 have hlen2:=lsum_len Tm.full Tm.full_pos f.terms
 have hty:=ownTy_c _ f.ty (Nat.le_refl _) (by omega)
 have hq:=quantifier_c f.kind
 have hre:=Fm.re_eq (fun b t=>t.re (liftG (fr+b) by_) 0) bl f
 have htm:=f.tms_eq bl
 refine M.F Tryz.func105 ?_
 repeat'(first|refine M.gw ?_|refine M.c2 (hty) ?_|fail)
 refine AW.range f.terms.length (fun m=>True)
  (fun m=>([(1,.i bl),(2,.fn (.func 106) [] [.ptr 0 0,.ptr 1 0]),(3,.ptr 2 0),(6,.ptr 3 0),(7,.ptr 4 0),(19,.s .tm f.terms),(20,.i f.terms.length),(21,.i m)],⟨6,[(0,.var [.i fr]),(1,.var [.i by_]),(2,.var f.view),(3,.var [.i 0,.i 0,.slice .nil (.t .ty []),.slice .nil (.t .tm []),.slice .nil (.t .fm [])]),(4,.var [.i f.kind,.i f.ty.kind,.s .ty f.ty.args,.slice (.own 5) (.t .tm ((f.terms.take m).map ((fun b t=>t.re (liftG (fr+b) by_) 0) bl))),.slice .nil (.t .fm [])]),(5,.row)]⟩))
  (by omega) (fun m=>rfl) (fun m=>rfl) rfl trivial (M.W [some 0,some 1,some 2,some 3,some 4,none]) ?_ ?_
 ·intro m hm _
  have hs2:=lsum_mem Tm.full (List.getElem_mem hm)
  have hc:=liftFmCb fr by_ hat hs f.terms[m] bl (by omega) (by omega) (fun p hp=>hix _ (by rw[htm];exact List.mem_append_left _ (List.mem_map.2 ⟨_,List.getElem_mem hm,rfl⟩)) p hp)
  repeat'(first|refine M.gw ?_|refine M.cv (hc) [0,1] 0 ?_|fail)
  exact⟨rfl,trivial,(M.W [some 0,some 1,some 2,some 3,some 4,some 7] (he:=(by(repeat'(first|exact trivial|exact Or.inr ⟨_,U,rfl⟩|refine And.intro ?_ ?_|refine⟨_,U,_,U,_,U,?_⟩|exact VLe.refl _|exact VLe.of_eq (by simp[Sto.upd,map_take _ _ _ hm])));done)))⟩
 ·intro _
  simp only[List.take_length]
  cases hqk:quantK f.kind with
  |true=>
   rw[hqk] at hq
   have hu:upF f.kind bl=bl+1:=by simp[upF,hqk]
   rw[hu] at hre htm
   repeat'(first|refine M.gw ?_|refine M.c2 (hq) ?_|fail)
   refine AW.range f.args.length (fun m=>True)
    (fun m=>([(1,.i (bl+1)),(2,.fn (.func 106) [] [.ptr 0 0,.ptr 1 0]),(3,.ptr 2 0),(6,.ptr 3 0),(7,.ptr 4 0),(41,.s .fm f.args),(42,.i f.args.length),(43,.i m)],⟨7,[(0,.var [.i fr]),(1,.var [.i by_]),(2,.var f.view),(3,.var [.i 0,.i 0,.slice .nil (.t .ty []),.slice .nil (.t .tm []),.slice .nil (.t .fm [])]),(4,.var [.i f.kind,.i f.ty.kind,.s .ty f.ty.args,.slice (.own 5) (.t .tm (f.terms.map ((fun b t=>t.re (liftG (fr+b) by_) 0) bl))),.slice (.own 6) (.t .fm ((f.args.take m).map (Fm.re (fun b t=>t.re (liftG (fr+b) by_) 0) (bl+1))))]),(5,.row),(6,.row)]⟩))
    (by omega) (fun m=>rfl) (fun m=>rfl) rfl trivial (M.W [some 0,some 1,some 2,some 3,some 4,some 5,none]) ?_ ?_
   ·intro m hm _
    have hs2:=lsum_mem Fm.full (List.getElem_mem hm)
    have hc:=ih f.args[m] (bl+1) (by omega) (by omega) (by omega) (by omega) (fun p hp=>hix p (by rw[htm];exact List.mem_append_right _ (List.mem_flatMap.2 ⟨_,List.getElem_mem hm,hp⟩)))
    repeat'(first|refine M.gw ?_|refine M.cv (hc) [0,1] 0 ?_|fail)
    exact⟨rfl,trivial,(M.W [some 0,some 1,some 2,some 3,some 4,some 5,some 8] (he:=(by(repeat'(first|exact trivial|exact Or.inr ⟨_,U,rfl⟩|refine And.intro ?_ ?_|refine⟨_,U,_,U,_,U,?_⟩|exact VLe.refl _|exact VLe.of_eq (by simp[Sto.upd,map_take _ _ _ hm])));done)))⟩
   ·intro _
    simp only[List.take_length]
    repeat'(first|refine M.gw ?_|fail)
    (exact M.n2 [some 0,some 1] (h8:=(by simp[tupV,V.wk,V.wks,constV,Ty.view,Tm.view,hre])))
  |false=>
   rw[hqk] at hq
   have hu:upF f.kind bl=bl:=by simp[upF,hqk]
   rw[hu] at hre htm
   repeat'(first|refine M.gw ?_|refine M.c2 (hq) ?_|fail)
   refine AW.range f.args.length (fun m=>True)
    (fun m=>([(1,.i bl),(2,.fn (.func 106) [] [.ptr 0 0,.ptr 1 0]),(3,.ptr 2 0),(6,.ptr 3 0),(7,.ptr 4 0),(41,.s .fm f.args),(42,.i f.args.length),(43,.i m)],⟨7,[(0,.var [.i fr]),(1,.var [.i by_]),(2,.var f.view),(3,.var [.i 0,.i 0,.slice .nil (.t .ty []),.slice .nil (.t .tm []),.slice .nil (.t .fm [])]),(4,.var [.i f.kind,.i f.ty.kind,.s .ty f.ty.args,.slice (.own 5) (.t .tm (f.terms.map ((fun b t=>t.re (liftG (fr+b) by_) 0) bl))),.slice (.own 6) (.t .fm ((f.args.take m).map (Fm.re (fun b t=>t.re (liftG (fr+b) by_) 0) bl)))]),(5,.row),(6,.row)]⟩))
    (by omega) (fun m=>rfl) (fun m=>rfl) rfl trivial (M.W [some 0,some 1,some 2,some 3,some 4,some 5,none]) ?_ ?_
   ·intro m hm _
    have hs2:=lsum_mem Fm.full (List.getElem_mem hm)
    have hc:=ih f.args[m] bl (by omega) (by omega) (by omega) (by omega) (fun p hp=>hix p (by rw[htm];exact List.mem_append_right _ (List.mem_flatMap.2 ⟨_,List.getElem_mem hm,hp⟩)))
    repeat'(first|refine M.gw ?_|refine M.cv (hc) [0,1] 0 ?_|fail)
    exact⟨rfl,trivial,(M.W [some 0,some 1,some 2,some 3,some 4,some 5,some 8] (he:=(by(repeat'(first|exact trivial|exact Or.inr ⟨_,U,rfl⟩|refine And.intro ?_ ?_|refine⟨_,U,_,U,_,U,?_⟩|exact VLe.refl _|exact VLe.of_eq (by simp[Sto.upd,map_take _ _ _ hm])));done)))⟩
   ·intro _
    simp only[List.take_length]
    repeat'(first|refine M.gw ?_|fail)
    (exact M.n2 [some 0,some 1] (h8:=(by simp[tupV,V.wk,V.wks,constV,Ty.view,Tm.view,hre])))
theorem liftFm_c(f:Fm)(fr by_:Int)(hat:0≤fr∧fr<274877906944)(hs:0≤by_∧by_<274877906944)(hf:f.full<137438953472)(hix:∀p∈f.tms 0,∀q∈p.1.vars 0,0≤q.1∧q.1<549755813888):PC E 73 [.agg f.view,.i fr,.i by_] (.agg (f.lft fr by_).view):=by
 have hc:=liftFmRe fr by_ hat hs _ f 0 (Nat.le_refl _) (by omega) (by omega) (by omega) hix
 refine M.F Tryz.func73 ?_
 repeat'(first|refine M.gw ?_|refine M.cv (hc) [1,2] 0 ?_|fail)
 rfl
theorem rupF0_c(f:Fm)(fr by_:Int)(hf:f.full<100000000000)(h1:0≤fr∧fr<100000000000)(hby:0≤by_∧by_≤549755813888)(hs:f.shape=true)(hix:∀p∈f.tms 0,∀q∈p.1.vars 0,0≤q.1∧q.1<549755813888):
 PC E 27 [.agg f.view,.i fr,.i by_] (.agg (f.lft fr by_).view):=by
 have h:=rupF_c by_ (by omega) _ f fr (Nat.le_refl _) (by omega) (by omega) (by omega) hs hix
 have e:f.re (fun b t=>t.re (liftG b by_) 0) fr=f.lft fr by_:=by
  have e1:=Fm.re_shift (fun b t=>t.re (liftG b by_) 0) fr f 0
  rw[Int.zero_add] at e1
  rw[e1,lft_at]
  exact Fm.re_pt (fun b t _=>by rw[Int.add_comm b fr]) f
 rw[e] at h
 exact h
theorem ltCb1(fr by_:Int)(hat:0≤fr∧fr<274877906944)(hs:0≤by_∧by_<274877906944)(t:Tm)(bl:Int)(ht:t.full<274877906944)(hb:0≤bl∧bl<274877906944)(hix:∀p∈t.vars 0,0≤p.1∧p.1<549755813888):
 AC E 129 [.agg t.view,.i bl,.ptr 0 0,.ptr 1 0] ⟨2,[(0,.var [.i fr]),(1,.var [.i by_])]⟩ (.agg (t.re (liftG (fr+bl) by_) 0).view) ⟨2,[(0,.var [.i fr]),(1,.var [.i by_])]⟩:=by
 have hc:=lift_c t (fr+bl) by_ (by omega) ht hix
 refine AC.mk Tryz.func129 rfl rfl rfl rfl rfl (Nat.le_of_ble_eq_true rfl) ?_
 repeat'(first|((with_reducible refine D.nil ?_);refine AX.nilL ?_)|((with_reducible refine D.load ?_);refine L.ldb U U U U U U ?_)|((with_reducible refine D.move ?_);refine L.mv U U U ?_)|((with_reducible refine D.bin ?_);refine L.ad U U U U (by omega) ?_)|((with_reducible refine D.call ?_);refine L.c2 (hc) U U U U ?_)|((with_reducible refine D.box ?_);refine L.bx U U U U ?_)|((with_reducible refine D.alloc ?_);refine L.al U U U ?_)|((with_reducible refine D.store ?_);refine L.st U U U U U U U U U ?_)|((with_reducible refine D.aw ?_);first|refine K.sq (AW.regL ?_)|refine AW.ret ?_)|with_reducible refine K.tN ?_)
 (exact K.n2 [some 0,some 1] U U U U U (by(repeat'(first|exact trivial|refine And.intro ?_ ?_|refine⟨_,U,_,U,_,U,?_⟩|exact VLe.refl _));done) U (by simp[tupV,V.wk,V.wks,constV,Ty.view,Tm.view,hc]))
theorem ltCb2(fr by_:Int)(hat:0≤fr∧fr<100000000000)(hs:0≤by_∧by_<274877906944)(f:Fm)(bl:Int)(ht:f.full<137438953472)(hb:0≤bl∧bl<100000000000)(hix:∀p∈f.tms 0,∀q∈p.1.vars 0,0≤q.1∧q.1<549755813888):
 AC E 130 [.agg f.view,.i bl,.ptr 0 0,.ptr 1 0] ⟨2,[(0,.var [.i fr]),(1,.var [.i by_])]⟩ (.agg (f.lft (fr+bl) by_).view) ⟨2,[(0,.var [.i fr]),(1,.var [.i by_])]⟩:=by
 have hc:=liftFm_c f (fr+bl) by_ (by omega) hs ht hix
 generalize f.lft (fr+bl) by_=F at*
 refine AC.mk Tryz.func130 rfl rfl rfl rfl rfl (Nat.le_of_ble_eq_true rfl) ?_
 repeat'(first|((with_reducible refine D.nil ?_);refine AX.nilL ?_)|((with_reducible refine D.load ?_);refine L.ldb U U U U U U ?_)|((with_reducible refine D.move ?_);refine L.mv U U U ?_)|((with_reducible refine D.bin ?_);refine L.ad U U U U (by omega) ?_)|((with_reducible refine D.call ?_);refine L.c2 (hc) U U U U ?_)|((with_reducible refine D.box ?_);refine L.bx U U U U ?_)|((with_reducible refine D.alloc ?_);refine L.al U U U ?_)|((with_reducible refine D.store ?_);refine L.st U U U U U U U U U ?_)|((with_reducible refine D.aw ?_);first|refine K.sq (AW.regL ?_)|refine AW.ret ?_)|with_reducible refine K.tN ?_)
 (exact K.n2 [some 0,some 1] U U U U U (by(repeat'(first|exact trivial|refine And.intro ?_ ?_|refine⟨_,U,_,U,_,U,?_⟩|exact VLe.refl _));done) U (by simp[tupV,V.wk,V.wks,constV,Ty.view,Tm.view,Fm.view]))
theorem liftPfRe(fr by_:Int)(hfr:0≤fr∧fr<10000000000)(hby:0≤by_∧by_<10000000000):∀(n:Nat) (p:Pf) (v y:Int),p.full≤n→n<10000000000→(0≤v∧v+2*n≤50000000000)→(0≤y∧y+2*n≤50000000000)→p.shape=true→p.ix 549755813888→
 AC E 117 [.agg p.view,.agg [.i v,.i y],.agg [.fn (.func 129) [] [.ptr 0 0,.ptr 1 0],.fn (.func 130) [] [.ptr 0 0,.ptr 1 0],.nilf]] ⟨2,[(0,.var [.i fr]),(1,.var [.i by_])]⟩ (.agg (p.up fr by_ v).view) ⟨2,[(0,.var [.i fr]),(1,.var [.i by_])]⟩:=by
 intro n
 induction n with
 |zero=>intro p v y hz;have:=p.full_pos;omega
 |succ n ih=>
 intro p v y hz hn hv hh hs hix
 obtain⟨x1,x2,x3⟩:=(Pf.ix_iff _ _).1 hix
 have hre:=p.up_eq fr by_ v
 have hsz':=p.full_eq
 have hlen:=lsum_len Pf.full Pf.full_pos p.args
 have hlen1:=lsum_len Fm.full Fm.full_pos p.forms
 have hlen2:=lsum_len Tm.full Tm.full_pos p.terms
 have hty:=ownTy_c _ p.ty (Nat.le_refl _) (by omega)
 have hru:=ruleOf_c p.kind
 obtain⟨nd,n1,n2,n3,n4,_⟩:=pf_parts hs
 have hal:p.args.length≤2:=by
  rw[n4]
  unfold ndP at n1
  repeat(split at n1;· cases n1;decide)
  cases n1
 have hpl:=fun(m:Nat) (hm:m≤1000000)=>placeBelow_c p.kind v y nd n1 m hm (by omega) (by omega)
 have e2:ruC p.kind=[.bool nd.index,.bool nd.typ,.i nd.terms,.i nd.forms,.i nd.args,.i (fvK p.kind),.i (vaK p.kind),.i (hyK p.kind)]:=by unfold ruC;rw[n1]
 have b1:0≤vaK p.kind∧vaK p.kind≤2:=by unfold vaK;split<;>(try split)<;>omega
 have b2:0≤hyK p.kind∧hyK p.kind≤1:=by unfold hyK;split<;>omega
 have b3:0≤fvK p.kind∧fvK p.kind≤1:=by unfold fvK;split<;>omega
 rw[n1] at hru
 simp only[Option.isSome_some] at hru
 have hpf:=(pshape_parts hs).2.2.2
 rw[e2] at hru
 simp only[e2] at hpl
 refine AC.mk Tryz.func117 rfl rfl rfl rfl rfl (Nat.le_of_ble_eq_true rfl) ?_
 repeat'(first|((with_reducible refine D.nil ?_);first|refine AX.nilL ?_|refine AX.nilD (by kernel_rfl) ?_)|((with_reducible refine D.load ?_);first|refine L.ldb U U U U U U ?_|refine AX.sk U U ?_)|((with_reducible refine D.move ?_);refine L.mv U U U ?_)|((with_reducible refine D.fieldAddr ?_);first|refine L.fab U U U U U ?_|refine AX.sk U U ?_|((fail_if_success refine AX.wt U ?_);refine AX.gs U U (fun _=>trivial) (fun h=> ?_) (fun h=> ?_)))|((with_reducible refine D.assign ?_);refine L.asg U U U ?_)|((with_reducible refine D.bin ?_);first|refine L.bn U U U U U ?_|refine AX.sk U U ?_|refine L.fnn U (by kernel_rfl) U U U U ?_)|((with_reducible refine D.call ?_);first|refine L.lnt U U U U ?_|refine L.c2 (hru) U U U U ?_|refine L.c2 (hty) U U U U ?_)|((with_reducible refine D.extract ?_);refine L.ex U U U U ?_)|((with_reducible refine D.box ?_);refine L.bx U U U U ?_)|((with_reducible refine D.alloc ?_);refine L.al U U U ?_)|((with_reducible refine D.store ?_);refine L.st U U U U U U U U U ?_)|((with_reducible refine D.pick ?_);refine L.pk U U U U ?_)|((with_reducible refine D.ax ?_);refine L.bd U U U U U ?_)|((with_reducible refine D.aw ?_);first|refine K.sq (AW.regL ?_)|refine K.sq (AW.regD mixed (by kernel_rfl) ?_)|refine K.sq (K.sq ?_)|refine AW.regL ?_|refine AW.condF U ?_|refine AW.skip ?_)|with_reducible refine K.tN ?_)
 all_goals
  refine AW.range p.terms.length (fun m=>True)
   (fun m=>([(3,.ptr 2 0),(4,.ptr 3 0),(5,.ptr 4 0),(6,.ptr 5 0),(7,.ptr 6 0),(9,.ptr 7 0),(44,.s .tm p.terms),(45,.i p.terms.length),(46,.i m)],⟨9,[(0,.var [.i fr]),(1,.var [.i by_]),(2,.var p.view),(3,.var [.i v,.i y]),(4,.var [.fn (.func 129) [] [.ptr 0 0,.ptr 1 0],.fn (.func 130) [] [.ptr 0 0,.ptr 1 0],.nilf]),(5,.var [.i 0,.i 0,.i 0,.slice .nil (.t .ty []),.slice .nil (.t .tm []),.slice .nil (.t .fm []),.slice .nil (.t .pf [])]),(6,.var [.bool nd.index,.bool nd.typ,.i nd.terms,.i nd.forms,.i nd.args,.i (fvK p.kind),.i (vaK p.kind),.i (hyK p.kind)]),(7,.var [.i p.kind,.i p.index,.i p.ty.kind,.s .ty p.ty.args,.slice (.own 8) (.t .tm ((p.terms.take m).map fun t=>t.re (liftG (fr+v) by_) 0)),.slice .nil (.t .fm []),.slice .nil (.t .pf [])]),(8,.row)]⟩))
   (by omega) (fun m=>rfl) (fun m=>rfl) U trivial (Weak.mk [some 0,some 1,some 2,some 3,some 4,some 5,some 6,some 7,none] _ _ _ U U U U (by(repeat'(first|exact trivial|refine And.intro ?_ ?_|refine⟨_,U,_,U,?_⟩|exact VLe.refl _));done) (by(repeat'(first|exact trivial|exact Or.inl U|refine And.intro ?_ ?_|refine⟨_,U,_,U,_,U,?_⟩|exact VLe.refl _));done)) ?_ ?_
  ·intro m hm _
   have hs2:=lsum_mem Tm.full (List.getElem_mem hm)
   have hc:=ltCb1 fr by_ (by omega) (by omega) p.terms[m] v (by omega) (by omega) (x1 _ (List.getElem_mem hm))
   repeat'(first|((with_reducible refine D.nil ?_);first|refine AX.nilL ?_|refine AX.nilD (by kernel_rfl) ?_)|((with_reducible refine D.load ?_);first|refine L.ldb U U U U U U ?_|refine L.lda U U U U U ?_)|((with_reducible refine D.fieldAddr ?_);refine L.fab U U U U U ?_)|((with_reducible refine D.bin ?_);refine L.fnn U (by kernel_rfl) U U U U ?_)|((with_reducible refine D.call ?_);first|refine L.apt U U U U U U (by first|exact trivial|exact⟨rfl,trivial⟩) U U (by first|omega|(simp;omega)) ?_|(apply L.cv2 (hc) [0,1] 0 rfl;rfl;rfl;rfl;rfl;rfl;rfl;rfl;(focus((repeat'(first|exact trivial|refine And.intro ?_ ?_|refine⟨_,U,_,U,_,U,?_⟩|exact VLe.refl _));done));rfl;rfl;rfl;rfl))|((with_reducible refine D.alloc ?_);refine L.al U U U ?_)|((with_reducible refine D.store ?_);refine L.st U U U U U U U U U ?_)|((with_reducible refine D.indexAddr ?_);refine L.ixt _ U U U U U U U (by first|assumption|fail) ?_)|((with_reducible refine D.ax ?_);refine L.bs1 U U U U U (EC.fold_of U) U U ?_)|((with_reducible refine D.aw ?_);first|refine K.sq (AW.regL ?_)|refine AW.regD mixed (by kernel_rfl) ?_|refine AW.condT U ?_)|with_reducible refine K.tN ?_|with_reducible refine K.bN ?_)
   exact⟨rfl,trivial,(Weak.mk [some 0,some 1,some 2,some 3,some 4,some 5,some 6,some 7,some 10] _ _ _ U U U U (by(repeat'(first|exact trivial|refine And.intro ?_ ?_|refine⟨_,U,_,U,?_⟩|exact VLe.refl _));done) (by(repeat'(first|exact trivial|exact Or.inr ⟨_,U,rfl⟩|refine And.intro ?_ ?_|refine⟨_,U,_,U,_,U,?_⟩|exact VLe.refl _|exact VLe.of_eq (by simp[Sto.upd,map_take _ _ _ hm])));done))⟩
  ·intro _
   simp only[List.take_length]
   repeat'(first|((with_reducible refine D.nil ?_);refine AX.nilL ?_)|((with_reducible refine D.load ?_);refine L.ldb U U U U U U ?_)|((with_reducible refine D.move ?_);refine L.mv U U U ?_)|((with_reducible refine D.fieldAddr ?_);refine L.fab U U U U U ?_)|((with_reducible refine D.call ?_);refine L.lnt U U U U ?_)|((with_reducible refine D.aw ?_);first|refine K.sq (K.sq ?_)|refine AW.regL ?_)|with_reducible refine K.tN ?_)
   refine AW.range p.forms.length (fun m=>True)
    (fun m=>([(3,.ptr 2 0),(4,.ptr 3 0),(5,.ptr 4 0),(6,.ptr 5 0),(7,.ptr 6 0),(9,.ptr 7 0),(73,.s .fm p.forms),(74,.i p.forms.length),(75,.i m)],⟨10,[(0,.var [.i fr]),(1,.var [.i by_]),(2,.var p.view),(3,.var [.i v,.i y]),(4,.var [.fn (.func 129) [] [.ptr 0 0,.ptr 1 0],.fn (.func 130) [] [.ptr 0 0,.ptr 1 0],.nilf]),(5,.var [.i 0,.i 0,.i 0,.slice .nil (.t .ty []),.slice .nil (.t .tm []),.slice .nil (.t .fm []),.slice .nil (.t .pf [])]),(6,.var [.bool nd.index,.bool nd.typ,.i nd.terms,.i nd.forms,.i nd.args,.i (fvK p.kind),.i (vaK p.kind),.i (hyK p.kind)]),(7,.var [.i p.kind,.i p.index,.i p.ty.kind,.s .ty p.ty.args,.slice (.own 8) (.t .tm (p.terms.map fun t=>t.re (liftG (fr+v) by_) 0)),.slice (.own 9) (.t .fm ((p.forms.take m).map fun f=>f.lft (fr+(v+fvK p.kind)) by_)),.slice .nil (.t .pf [])]),(8,.row),(9,.row)]⟩))
    (by omega) (fun m=>rfl) (fun m=>rfl) U trivial (Weak.mk [some 0,some 1,some 2,some 3,some 4,some 5,some 6,some 7,some 8,none] _ _ _ U U U U (by(repeat'(first|exact trivial|refine And.intro ?_ ?_|refine⟨_,U,_,U,?_⟩|exact VLe.refl _));done) (by(repeat'(first|exact trivial|exact Or.inl U|exact Or.inr ⟨_,U,rfl⟩|refine And.intro ?_ ?_|refine⟨_,U,_,U,_,U,?_⟩|exact VLe.refl _));done)) ?_ ?_
   ·intro m hm _
    have hs2:=lsum_mem Fm.full (List.getElem_mem hm)
    have hc:=ltCb2 fr by_ (by omega) (by omega) p.forms[m] (v+fvK p.kind) (by omega) (by omega) (x2 _ (List.getElem_mem hm))
    repeat'(first|((with_reducible refine D.nil ?_);first|refine AX.nilL ?_|refine AX.nilD (by kernel_rfl) ?_)|((with_reducible refine D.load ?_);first|refine L.ldb U U U U U U ?_|refine L.lda U U U U U ?_)|((with_reducible refine D.fieldAddr ?_);refine L.fab U U U U U ?_)|((with_reducible refine D.bin ?_);first|refine L.ad U U U U (by omega) ?_|refine L.fnn U (by kernel_rfl) U U U U ?_)|((with_reducible refine D.call ?_);first|refine L.apt U U U U U U (by first|exact trivial|exact⟨rfl,trivial⟩) U U (by first|omega|(simp;omega)) ?_|(apply L.cv2 (hc) [0,1] 0 rfl;rfl;rfl;rfl;rfl;rfl;rfl;rfl;(focus((repeat'(first|exact trivial|refine And.intro ?_ ?_|refine⟨_,U,_,U,_,U,?_⟩|exact VLe.refl _));done));rfl;rfl;rfl;rfl))|((with_reducible refine D.alloc ?_);refine L.al U U U ?_)|((with_reducible refine D.store ?_);refine L.st U U U U U U U U U ?_)|((with_reducible refine D.indexAddr ?_);refine L.ixt _ U U U U U U U (by first|assumption|fail) ?_)|((with_reducible refine D.ax ?_);refine L.bs1 U U U U U (EC.fold_of U) U U ?_)|((with_reducible refine D.aw ?_);first|refine K.sq (AW.regL ?_)|refine AW.regD mixed (by kernel_rfl) ?_|refine AW.condT U ?_)|with_reducible refine K.tN ?_|with_reducible refine K.bN ?_)
    exact⟨rfl,trivial,(Weak.mk [some 0,some 1,some 2,some 3,some 4,some 5,some 6,some 7,some 8,some 11] _ _ _ U U U U (by(repeat'(first|exact trivial|refine And.intro ?_ ?_|refine⟨_,U,_,U,?_⟩|exact VLe.refl _));done) (by(repeat'(first|exact trivial|exact Or.inr ⟨_,U,rfl⟩|refine And.intro ?_ ?_|refine⟨_,U,_,U,_,U,?_⟩|exact VLe.refl _|exact VLe.of_eq (by simp[Sto.upd,map_take _ _ _ hm])));done))⟩
   ·intro _
    simp only[List.take_length]
    repeat'(first|((with_reducible refine D.nil ?_);refine AX.nilL ?_)|((with_reducible refine D.load ?_);refine L.ldb U U U U U U ?_)|((with_reducible refine D.move ?_);refine L.mv U U U ?_)|((with_reducible refine D.fieldAddr ?_);refine L.fab U U U U U ?_)|((with_reducible refine D.call ?_);refine L.lnt U U U U ?_)|((with_reducible refine D.aw ?_);first|refine K.sq (K.sq ?_)|refine AW.regL ?_)|with_reducible refine K.tN ?_)
    refine AW.range p.args.length (fun m=>True)
     (fun m=>([(3,.ptr 2 0),(4,.ptr 3 0),(5,.ptr 4 0),(6,.ptr 5 0),(7,.ptr 6 0),(9,.ptr 7 0),(105,.s .pf p.args),(106,.i p.args.length),(107,.i m)],⟨11,[(0,.var [.i fr]),(1,.var [.i by_]),(2,.var p.view),(3,.var [.i v,.i y]),(4,.var [.fn (.func 129) [] [.ptr 0 0,.ptr 1 0],.fn (.func 130) [] [.ptr 0 0,.ptr 1 0],.nilf]),(5,.var [.i 0,.i 0,.i 0,.slice .nil (.t .ty []),.slice .nil (.t .tm []),.slice .nil (.t .fm []),.slice .nil (.t .pf [])]),(6,.var [.bool nd.index,.bool nd.typ,.i nd.terms,.i nd.forms,.i nd.args,.i (fvK p.kind),.i (vaK p.kind),.i (hyK p.kind)]),(7,.var [.i p.kind,.i p.index,.i p.ty.kind,.s .ty p.ty.args,.slice (.own 8) (.t .tm (p.terms.map fun t=>t.re (liftG (fr+v) by_) 0)),.slice (.own 9) (.t .fm (p.forms.map fun f=>f.lft (fr+(v+fvK p.kind)) by_)),.slice (.own 10) (.t .pf ((Pf.ups fr by_ v (vaK p.kind) p.args).take m))]),(8,.row),(9,.row),(10,.row)]⟩))
     (by omega) (fun m=>rfl) (fun m=>rfl) U trivial (Weak.mk [some 0,some 1,some 2,some 3,some 4,some 5,some 6,some 7,some 8,some 9,none] _ _ _ U U U U (by(repeat'(first|exact trivial|refine And.intro ?_ ?_|refine⟨_,U,_,U,?_⟩|exact VLe.refl _));done) (by(repeat'(first|exact trivial|exact Or.inl U|exact Or.inr ⟨_,U,rfl⟩|refine And.intro ?_ ?_|refine⟨_,U,_,U,_,U,?_⟩|exact VLe.refl _));done)) ?_ ?_
    ·intro m hm _
     have hs2:=lsum_mem Pf.full (List.getElem_mem hm)
     have hb:=hpl m (by omega)
     have hc:=ih p.args[m] (if m+1=p.args.length then v+vaK p.kind else v) (if(m:Int)=(nd.args:Int)-1 then y+hyK p.kind else y) (by omega) (by omega) (by split<;>omega) (by split<;>omega) (hpf _ (List.getElem_mem hm)) (x3 _ (List.getElem_mem hm))
     have ev:(if(m:Int)=(nd.args:Int)-1 then v+vaK p.kind else v)=(if m+1=p.args.length then v+vaK p.kind else v):=by
      by_cases hx:m+1=p.args.length
      ·rw [if_pos hx,if_pos (by omega)]
      ·rw [if_neg hx,if_neg (by omega)]
     rw[ev] at hb
     repeat'(first|((with_reducible refine D.nil ?_);first|refine AX.nilL ?_|refine AX.nilD (by kernel_rfl) ?_)|((with_reducible refine D.load ?_);first|refine L.ldb U U U U U U ?_|refine L.lda U U U U U ?_)|((with_reducible refine D.move ?_);refine L.mv U U U ?_)|((with_reducible refine D.fieldAddr ?_);refine L.fab U U U U U ?_)|((with_reducible refine D.assign ?_);refine L.asg U U U ?_)|((with_reducible refine D.call ?_);first|refine L.apt U U U U U U (by first|exact trivial|exact⟨rfl,trivial⟩) U U (by first|omega|(simp;omega)) ?_|refine L.c2 (hb) U U U U ?_|(apply L.cv2 (hc) [0,1] 0 rfl;rfl;rfl;rfl;rfl;rfl;rfl;rfl;(focus((repeat'(first|exact trivial|refine And.intro ?_ ?_|refine⟨_,U,_,U,_,U,?_⟩|exact VLe.refl _));done));rfl;rfl;rfl;rfl))|((with_reducible refine D.alloc ?_);refine L.al U U U ?_)|((with_reducible refine D.store ?_);refine L.st U U U U U U U U U ?_)|((with_reducible refine D.indexAddr ?_);refine L.ixt _ U U U U U U U (by first|assumption|fail) ?_)|((with_reducible refine D.ax ?_);refine L.bs1 U U U U U (EC.fold_of U) U U ?_)|((with_reducible refine D.aw ?_);first|refine K.sq (AW.regL ?_)|refine AW.regD mixed (by kernel_rfl) ?_)|with_reducible refine K.tN ?_|with_reducible refine K.bN ?_)
     exact⟨rfl,trivial,(Weak.mk [some 0,some 1,some 2,some 3,some 4,some 5,some 6,some 7,some 8,some 9,some 12] _ _ _ U U U U (by(repeat'(first|exact trivial|refine And.intro ?_ ?_|refine⟨_,U,_,U,?_⟩|exact VLe.refl _));done) (by(repeat'(first|exact trivial|exact Or.inr ⟨_,U,rfl⟩|refine And.intro ?_ ?_|refine⟨_,U,_,U,_,U,?_⟩|exact VLe.refl _|exact VLe.of_eq (by simp[Sto.upd,ups_take hm])));done))⟩
    ·intro _
     simp only[ups_all]
     repeat'(first|((with_reducible refine D.nil ?_);refine AX.nilL ?_)|((with_reducible refine D.load ?_);refine L.ldb U U U U U U ?_)|((with_reducible refine D.store ?_);refine L.st U U U U U U U U U ?_)|((with_reducible refine D.aw ?_);first|refine K.sq (AW.regL ?_)|refine AW.ret ?_)|with_reducible refine K.tN ?_)
     rw[hre]
     (exact K.n2 [some 0,some 1] U U U U U (by(repeat'(first|exact trivial|refine And.intro ?_ ?_|refine⟨_,U,_,U,_,U,?_⟩|exact VLe.refl _));done) U (by simp[tupV,V.wk,V.wks,constV,Ty.view,Tm.view,hre]))
theorem liftPf_c(p:Pf)(fr by_:Int)(hfr:0≤fr∧fr<10000000000)(hby:0≤by_∧by_<10000000000)(hp:p.full<5000000000)(hs:p.shape=true)(hix:p.ix 549755813888):PC E 104 [.agg p.view,.i fr,.i by_] (.agg (p.up fr by_ 0).view):=by
 have hc:=liftPfRe fr by_ hfr hby _ p 0 0 (Nat.le_refl _) (by omega) (by omega) (by omega) hs hix
 refine AC.mk Tryz.func104 rfl rfl rfl rfl rfl (Nat.le_of_ble_eq_true rfl) ?_
 repeat'(first|((with_reducible refine D.nil ?_);refine AX.nilL ?_)|((with_reducible refine D.load ?_);refine L.ldb U U U U U U ?_)|((with_reducible refine D.call ?_);(apply L.cv2 (hc) [1,2] 0 rfl;rfl;rfl;rfl;rfl;rfl;rfl;rfl;(focus((repeat'(first|exact trivial|refine And.intro ?_ ?_|refine⟨_,U,_,U,_,U,?_⟩|exact VLe.refl _));done));rfl;rfl;rfl;rfl))|((with_reducible refine D.box ?_);refine L.bx U U U U ?_)|((with_reducible refine D.alloc ?_);refine L.al U U U ?_)|((with_reducible refine D.store ?_);refine L.st U U U U U U U U U ?_)|((with_reducible refine D.ax ?_);first|refine L.bd U U U U U ?_|refine L.mf U U U U ?_)|((with_reducible refine D.aw ?_);first|refine K.sq (AW.regL ?_)|refine AW.ret ?_)|with_reducible refine K.tN ?_|with_reducible refine K.r1 (by with_unfolding_all rfl) (by with_unfolding_all rfl) ?_)
 simp[tupV,V.wk,V.wks,constV,Ty.view,Tm.view]
theorem hyp_c(i:Int):PC E 128 [.i i] (.agg (hypP i).view):=by
 refine AC.mk Tryz.func128 rfl rfl rfl rfl rfl (Nat.le_of_ble_eq_true rfl) ?_
 repeat'(first|((with_reducible refine D.nil ?_);refine AX.nilL ?_)|((with_reducible refine D.move ?_);refine L.mv U U U ?_)|((with_reducible refine D.alloc ?_);refine L.al U U U ?_)|((with_reducible refine D.store ?_);refine L.st U U U U U U U U U ?_)|((with_reducible refine D.ax ?_);refine L.bd U U U U U ?_)|((with_reducible refine D.aw ?_);first|refine K.sq (AW.regL ?_)|refine AW.ret ?_)|with_reducible refine K.tN ?_|with_reducible refine K.r1 (by with_unfolding_all rfl) (by with_unfolding_all rfl) ?_)
 rfl
theorem lhCb(fr by_:Int)(hat: -274877906944≤fr∧fr<274877906944)(hs:0≤by_∧by_<274877906944)(i v y:Int)(p:Pf)(hi:0≤p.index∧p.index<549755813888)(hy:0≤y∧y<274877906944):
 AC E 127 [.agg p.view,.agg [.i v,.i y],.ptr 0 0,.ptr 1 0] ⟨2,[(0,.var [.i fr]),(1,.var [.i by_])]⟩ (.agg (hypP (if p.index-y≥fr then p.index+by_ else p.index)).view) ⟨2,[(0,.var [.i fr]),(1,.var [.i by_])]⟩:=by
 have h1:=hyp_c (p.index+by_)
 have h2:=hyp_c p.index
 by_cases h0:p.index-y≥fr
 ·rw [if_pos h0]
  refine AC.mk Tryz.func127 rfl rfl rfl rfl rfl (Nat.le_of_ble_eq_true rfl) ?_
  repeat'(first|((with_reducible refine D.nil ?_);refine AX.nilL ?_)|((with_reducible refine D.load ?_);refine L.ldb U U U U U U ?_)|((with_reducible refine D.fieldAddr ?_);refine L.fab U U U U U ?_)|((with_reducible refine D.bin ?_);first|refine L.ad U U U U (by omega) ?_|refine L.sb U U U U (by omega) ?_|refine L.bn U U U U U ?_)|((with_reducible refine D.call ?_);first|refine L.c2 (h1) U U U U ?_|refine L.c2 (h2) U U U U ?_)|((with_reducible refine D.box ?_);refine L.bx U U U U ?_)|((with_reducible refine D.alloc ?_);refine L.al U U U ?_)|((with_reducible refine D.store ?_);refine L.st U U U U U U U U U ?_)|((with_reducible refine D.aw ?_);first|refine K.sq (AW.regL ?_)|refine K.sq (K.sq ?_)|refine AW.regL ?_|refine AW.condS U (fun h=> ?_) (fun h=> ?_)|refine AW.skip ?_|refine AW.ret ?_)|with_reducible refine K.tN ?_|with_reducible refine K.tR ?_)
  ·(exact K.n2 [some 0,some 1] U U U U U (by(repeat'(first|exact trivial|refine And.intro ?_ ?_|refine⟨_,U,_,U,_,U,?_⟩|exact VLe.refl _));done) U (by simp[tupV,V.wk,V.wks,constV,Ty.view,Tm.view,Pf.view,hypP]))
  ·exfalso;simp at h;omega
 ·rw [if_neg h0]
  refine AC.mk Tryz.func127 rfl rfl rfl rfl rfl (Nat.le_of_ble_eq_true rfl) ?_
  repeat'(first|((with_reducible refine D.nil ?_);refine AX.nilL ?_)|((with_reducible refine D.load ?_);refine L.ldb U U U U U U ?_)|((with_reducible refine D.fieldAddr ?_);refine L.fab U U U U U ?_)|((with_reducible refine D.bin ?_);first|refine L.ad U U U U (by omega) ?_|refine L.sb U U U U (by omega) ?_|refine L.bn U U U U U ?_)|((with_reducible refine D.call ?_);first|refine L.c2 (h1) U U U U ?_|refine L.c2 (h2) U U U U ?_)|((with_reducible refine D.box ?_);refine L.bx U U U U ?_)|((with_reducible refine D.alloc ?_);refine L.al U U U ?_)|((with_reducible refine D.store ?_);refine L.st U U U U U U U U U ?_)|((with_reducible refine D.aw ?_);first|refine K.sq (AW.regL ?_)|refine K.sq (K.sq ?_)|refine AW.regL ?_|refine AW.condS U (fun h=> ?_) (fun h=> ?_)|refine AW.skip ?_|refine AW.ret ?_)|with_reducible refine K.tN ?_|with_reducible refine K.tR ?_)
  ·exfalso;simp at h;omega
  ·(exact K.n2 [some 0,some 1] U U U U U (by(repeat'(first|exact trivial|refine And.intro ?_ ?_|refine⟨_,U,_,U,_,U,?_⟩|exact VLe.refl _));done) U (by simp[tupV,V.wk,V.wks,constV,Ty.view,Tm.view,Pf.view,hypP]))
theorem lhPfRe(fr by_:Int)(hfr:0≤fr∧fr<10000000000)(hby:0≤by_∧by_<10000000000):∀(n:Nat) (p:Pf) (v y:Int),p.full≤n→n<10000000000→(0≤v∧v+2*n≤50000000000)→(0≤y∧y+2*n≤50000000000)→p.shape=true→p.hx 549755813888→
 AC E 117 [.agg p.view,.agg [.i v,.i y],.agg [.nilf,.nilf,.fn (.func 127) [] [.ptr 0 0,.ptr 1 0]]] ⟨2,[(0,.var [.i fr]),(1,.var [.i by_])]⟩ (.agg (p.lh fr by_ y).view) ⟨2,[(0,.var [.i fr]),(1,.var [.i by_])]⟩:=by
 intro n
 induction n with
 |zero=>intro p v y hz;have:=p.full_pos;omega
 |succ n ih=>
 intro p v y hz hn hv hh hs hix
 obtain⟨x1,x3⟩:=(Pf.hx_iff _ _).1 hix
 have hre:=p.lh_eq fr by_ y
 by_cases hk:p.kind=1
 ·rw [if_pos hk] at hre
  rw[hre]
  have hc:=lhCb fr by_ (by omega) (by omega) 0 v y p (x1 hk) (by omega)
  refine AC.mk Tryz.func117 rfl rfl rfl rfl rfl (Nat.le_of_ble_eq_true rfl) ?_
  repeat'(first|((with_reducible refine D.nil ?_);refine AX.nilL ?_)|((with_reducible refine D.load ?_);first|refine L.ldb U U U U U U ?_|refine AX.sk U U ?_)|((with_reducible refine D.move ?_);refine L.mv U U U ?_)|((with_reducible refine D.fieldAddr ?_);first|refine L.fab U U U U U ?_|refine AX.sk U U ?_|((fail_if_success refine AX.wt U ?_);refine AX.gs U U (fun _=>trivial) (fun h=> ?_) (fun h=> ?_)))|((with_reducible refine D.bin ?_);first|refine L.bn U U U U U ?_|refine AX.sk U U ?_|refine L.fnn U (by kernel_rfl) U U U U ?_)|((with_reducible refine D.call ?_);(apply L.cv2 (hc) [0,1] 0 rfl;rfl;rfl;rfl;rfl;rfl;rfl;rfl;(focus((repeat'(first|exact trivial|refine And.intro ?_ ?_|refine⟨_,U,_,U,_,U,?_⟩|exact VLe.refl _));done));rfl;rfl;rfl;rfl))|((with_reducible refine D.box ?_);refine L.bx U U U U ?_)|((with_reducible refine D.alloc ?_);refine L.al U U U ?_)|((with_reducible refine D.store ?_);refine L.st U U U U U U U U U ?_)|((with_reducible refine D.pick ?_);refine L.pk U U U U ?_)|((with_reducible refine D.aw ?_);(fail_if_success with_reducible refine D.stopR (id:=3) ?_);(fail_if_success with_reducible refine D.stopS (id:=3) ?_);first|refine K.sq (AW.regL ?_)|refine K.sq (K.sq ?_)|refine AW.regL ?_|refine AW.condT U ?_|refine AW.condF U ?_|refine AW.skip ?_|refine AW.ret ?_)|with_reducible refine K.tN ?_|with_reducible refine K.tR ?_)
  all_goals first
   |(exfalso;simp at h;omega)
   |(exfalso;simp_all;done)
   |(exact K.n2 [some 0,some 1] U U U U U (by(repeat'(first|exact trivial|refine And.intro ?_ ?_|refine⟨_,U,_,U,_,U,?_⟩|exact VLe.refl _));done) U (by simp[tupV,V.wk,V.wks,constV,Ty.view,Tm.view,Pf.view,hypP]))
   |trace_state
 rw[if_neg hk] at hre
 have hsz':=p.full_eq
 have hlen:=lsum_len Pf.full Pf.full_pos p.args
 have hlen1:=lsum_len Fm.full Fm.full_pos p.forms
 have hlen2:=lsum_len Tm.full Tm.full_pos p.terms
 have hty:=ownTy_c _ p.ty (Nat.le_refl _) (by omega)
 have hru:=ruleOf_c p.kind
 obtain⟨nd,n1,n2,n3,n4,_⟩:=pf_parts hs
 have hal:p.args.length≤2:=by
  rw[n4]
  unfold ndP at n1
  repeat(split at n1;· cases n1;decide)
  cases n1
 have hpl:=fun(m:Nat) (hm:m≤1000000)=>placeBelow_c p.kind v y nd n1 m hm (by omega) (by omega)
 have e2:ruC p.kind=[.bool nd.index,.bool nd.typ,.i nd.terms,.i nd.forms,.i nd.args,.i (fvK p.kind),.i (vaK p.kind),.i (hyK p.kind)]:=by unfold ruC;rw[n1]
 have b1:0≤vaK p.kind∧vaK p.kind≤2:=by unfold vaK;split<;>(try split)<;>omega
 have b2:0≤hyK p.kind∧hyK p.kind≤1:=by unfold hyK;split<;>omega
 have b3:0≤fvK p.kind∧fvK p.kind≤1:=by unfold fvK;split<;>omega
 rw[n1] at hru
 simp only[Option.isSome_some] at hru
 have hpf:=(pshape_parts hs).2.2.2
 rw[e2] at hru
 simp only[e2] at hpl
 refine AC.mk Tryz.func117 rfl rfl rfl rfl rfl (Nat.le_of_ble_eq_true rfl) ?_
 repeat'(first|((with_reducible refine D.nil ?_);first|refine AX.nilL ?_|refine AX.nilD (by kernel_rfl) ?_)|((with_reducible refine D.load ?_);first|refine L.ldb U U U U U U ?_|refine AX.sk U U ?_)|((with_reducible refine D.move ?_);refine L.mv U U U ?_)|((with_reducible refine D.fieldAddr ?_);first|refine L.fab U U U U U ?_|refine AX.sk U U ?_|((fail_if_success refine AX.wt U ?_);refine AX.gs U U (fun _=>trivial) (fun h=> ?_) (fun h=> ?_)))|((with_reducible refine D.assign ?_);refine L.asg U U U ?_)|((with_reducible refine D.bin ?_);first|refine L.bn U U U U U ?_|refine AX.sk U U ?_|refine L.fnn U (by kernel_rfl) U U U U ?_)|((with_reducible refine D.call ?_);first|refine L.c2 (hru) U U U U ?_|refine L.c2 (hty) U U U U ?_)|((with_reducible refine D.extract ?_);refine L.ex U U U U ?_)|((with_reducible refine D.box ?_);refine L.bx U U U U ?_)|((with_reducible refine D.alloc ?_);refine L.al U U U ?_)|((with_reducible refine D.store ?_);refine L.st U U U U U U U U U ?_)|((with_reducible refine D.pick ?_);refine L.pk U U U U ?_)|((with_reducible refine D.ax ?_);refine L.bd U U U U U ?_)|((with_reducible refine D.aw ?_);(fail_if_success with_reducible refine D.stopR (id:=5) ?_);(fail_if_success with_reducible refine D.stopS (id:=5) ?_);first|refine K.sq (AW.regL ?_)|refine K.sq (AW.regD mixed (by kernel_rfl) ?_)|refine K.sq (K.sq ?_)|refine AW.regL ?_|refine AW.condT U ?_|refine AW.condF U ?_|refine AW.skip ?_)|with_reducible refine K.tN ?_)
 all_goals first
  |(exfalso;simp at h;omega)
  |skip
 repeat'(first|((with_reducible refine D.nil ?_);refine AX.nilL ?_)|((with_reducible refine D.load ?_);refine L.ldb U U U U U U ?_)|((with_reducible refine D.move ?_);refine L.mv U U U ?_)|((with_reducible refine D.fieldAddr ?_);refine L.fab U U U U U ?_)|((with_reducible refine D.call ?_);refine L.lnt U U U U ?_)|((with_reducible refine D.aw ?_);first|refine K.sq (K.sq ?_)|refine AW.regL ?_)|with_reducible refine K.tN ?_)
 all_goals
  refine AW.range p.terms.length (fun m=>True)
   (fun m=>([(3,.ptr 2 0),(4,.ptr 3 0),(5,.ptr 4 0),(6,.ptr 5 0),(7,.ptr 6 0),(9,.ptr 7 0),(44,.s .tm p.terms),(45,.i p.terms.length),(46,.i m)],⟨9,[(0,.var [.i fr]),(1,.var [.i by_]),(2,.var p.view),(3,.var [.i v,.i y]),(4,.var [.nilf,.nilf,.fn (.func 127) [] [.ptr 0 0,.ptr 1 0]]),(5,.var [.i 0,.i 0,.i 0,.slice .nil (.t .ty []),.slice .nil (.t .tm []),.slice .nil (.t .fm []),.slice .nil (.t .pf [])]),(6,.var [.bool nd.index,.bool nd.typ,.i nd.terms,.i nd.forms,.i nd.args,.i (fvK p.kind),.i (vaK p.kind),.i (hyK p.kind)]),(7,.var [.i p.kind,.i p.index,.i p.ty.kind,.s .ty p.ty.args,.slice (.own 8) (.t .tm (p.terms.take m)),.slice .nil (.t .fm []),.slice .nil (.t .pf [])]),(8,.row)]⟩))
   (by omega) (fun m=>rfl) (fun m=>rfl) U trivial (Weak.mk [some 0,some 1,some 2,some 3,some 4,some 5,some 6,some 7,none] _ _ _ U U U U (by(repeat'(first|exact trivial|refine And.intro ?_ ?_|refine⟨_,U,_,U,?_⟩|exact VLe.refl _));done) (by(repeat'(first|exact trivial|exact Or.inl U|refine And.intro ?_ ?_|refine⟨_,U,_,U,_,U,?_⟩|exact VLe.refl _));done)) ?_ ?_
  ·intro m hm _
   have hs2:=lsum_mem Tm.full (List.getElem_mem hm)
   have hc:=ownTm_c _ p.terms[m] (Nat.le_refl _) (by omega)
   repeat'(first|((with_reducible refine D.nil ?_);first|refine AX.nilL ?_|refine AX.nilD (by kernel_rfl) ?_)|((with_reducible refine D.load ?_);first|refine L.ldb U U U U U U ?_|refine L.lda U U U U U ?_)|((with_reducible refine D.fieldAddr ?_);refine L.fab U U U U U ?_)|((with_reducible refine D.bin ?_);refine L.fnn U (by kernel_rfl) U U U U ?_)|((with_reducible refine D.call ?_);first|refine L.apt U U U U U U (by first|exact trivial|exact⟨rfl,trivial⟩) U U (by first|omega|(simp;omega)) ?_|refine L.c2 (hc) U U U U ?_)|((with_reducible refine D.alloc ?_);refine L.al U U U ?_)|((with_reducible refine D.store ?_);refine L.st U U U U U U U U U ?_)|((with_reducible refine D.indexAddr ?_);refine L.ixt _ U U U U U U U (by first|assumption|fail) ?_)|((with_reducible refine D.ax ?_);refine L.bs1 U U U U U (EC.fold_of U) U U ?_)|((with_reducible refine D.aw ?_);first|refine K.sq (AW.regL ?_)|refine AW.regD mixed (by kernel_rfl) ?_|refine AW.condF U ?_)|with_reducible refine K.tN ?_|with_reducible refine K.bN ?_)
   exact⟨rfl,trivial,(Weak.mk [some 0,some 1,some 2,some 3,some 4,some 5,some 6,some 7,some 10] _ _ _ U U U U (by(repeat'(first|exact trivial|refine And.intro ?_ ?_|refine⟨_,U,_,U,?_⟩|exact VLe.refl _));done) (by(repeat'(first|exact trivial|exact Or.inr ⟨_,U,rfl⟩|refine And.intro ?_ ?_|refine⟨_,U,_,U,_,U,?_⟩|exact VLe.refl _|exact VLe.of_eq (by simp[Sto.upd,List.take_append_getElem])));done))⟩
  ·intro _
   simp only[List.take_length]
   repeat'(first|((with_reducible refine D.nil ?_);refine AX.nilL ?_)|((with_reducible refine D.load ?_);refine L.ldb U U U U U U ?_)|((with_reducible refine D.move ?_);refine L.mv U U U ?_)|((with_reducible refine D.fieldAddr ?_);refine L.fab U U U U U ?_)|((with_reducible refine D.call ?_);refine L.lnt U U U U ?_)|((with_reducible refine D.aw ?_);first|refine K.sq (K.sq ?_)|refine AW.regL ?_)|with_reducible refine K.tN ?_)
   refine AW.range p.forms.length (fun m=>True)
    (fun m=>([(3,.ptr 2 0),(4,.ptr 3 0),(5,.ptr 4 0),(6,.ptr 5 0),(7,.ptr 6 0),(9,.ptr 7 0),(73,.s .fm p.forms),(74,.i p.forms.length),(75,.i m)],⟨10,[(0,.var [.i fr]),(1,.var [.i by_]),(2,.var p.view),(3,.var [.i v,.i y]),(4,.var [.nilf,.nilf,.fn (.func 127) [] [.ptr 0 0,.ptr 1 0]]),(5,.var [.i 0,.i 0,.i 0,.slice .nil (.t .ty []),.slice .nil (.t .tm []),.slice .nil (.t .fm []),.slice .nil (.t .pf [])]),(6,.var [.bool nd.index,.bool nd.typ,.i nd.terms,.i nd.forms,.i nd.args,.i (fvK p.kind),.i (vaK p.kind),.i (hyK p.kind)]),(7,.var [.i p.kind,.i p.index,.i p.ty.kind,.s .ty p.ty.args,.slice (.own 8) (.t .tm (p.terms)),.slice (.own 9) (.t .fm (p.forms.take m)),.slice .nil (.t .pf [])]),(8,.row),(9,.row)]⟩))
    (by omega) (fun m=>rfl) (fun m=>rfl) U trivial (Weak.mk [some 0,some 1,some 2,some 3,some 4,some 5,some 6,some 7,some 8,none] _ _ _ U U U U (by(repeat'(first|exact trivial|refine And.intro ?_ ?_|refine⟨_,U,_,U,?_⟩|exact VLe.refl _));done) (by(repeat'(first|exact trivial|exact Or.inl U|exact Or.inr ⟨_,U,rfl⟩|refine And.intro ?_ ?_|refine⟨_,U,_,U,_,U,?_⟩|exact VLe.refl _));done)) ?_ ?_
   ·intro m hm _
    have hs2:=lsum_mem Fm.full (List.getElem_mem hm)
    have hc:=ownFm_c p.forms[m] (by omega)
    repeat'(first|((with_reducible refine D.nil ?_);first|refine AX.nilL ?_|refine AX.nilD (by kernel_rfl) ?_)|((with_reducible refine D.load ?_);first|refine L.ldb U U U U U U ?_|refine L.lda U U U U U ?_)|((with_reducible refine D.fieldAddr ?_);refine L.fab U U U U U ?_)|((with_reducible refine D.bin ?_);refine L.fnn U (by kernel_rfl) U U U U ?_)|((with_reducible refine D.call ?_);first|refine L.apt U U U U U U (by first|exact trivial|exact⟨rfl,trivial⟩) U U (by first|omega|(simp;omega)) ?_|refine L.c2 (hc) U U U U ?_)|((with_reducible refine D.alloc ?_);refine L.al U U U ?_)|((with_reducible refine D.store ?_);refine L.st U U U U U U U U U ?_)|((with_reducible refine D.indexAddr ?_);refine L.ixt _ U U U U U U U (by first|assumption|fail) ?_)|((with_reducible refine D.ax ?_);refine L.bs1 U U U U U (EC.fold_of U) U U ?_)|((with_reducible refine D.aw ?_);first|refine K.sq (AW.regL ?_)|refine AW.regD mixed (by kernel_rfl) ?_|refine AW.condF U ?_)|with_reducible refine K.tN ?_|with_reducible refine K.bN ?_)
    exact⟨rfl,trivial,(Weak.mk [some 0,some 1,some 2,some 3,some 4,some 5,some 6,some 7,some 8,some 11] _ _ _ U U U U (by(repeat'(first|exact trivial|refine And.intro ?_ ?_|refine⟨_,U,_,U,?_⟩|exact VLe.refl _));done) (by(repeat'(first|exact trivial|exact Or.inr ⟨_,U,rfl⟩|refine And.intro ?_ ?_|refine⟨_,U,_,U,_,U,?_⟩|exact VLe.refl _|exact VLe.of_eq (by simp[Sto.upd,List.take_append_getElem])));done))⟩
   ·intro _
    simp only[List.take_length]
    repeat'(first|((with_reducible refine D.nil ?_);refine AX.nilL ?_)|((with_reducible refine D.load ?_);refine L.ldb U U U U U U ?_)|((with_reducible refine D.move ?_);refine L.mv U U U ?_)|((with_reducible refine D.fieldAddr ?_);refine L.fab U U U U U ?_)|((with_reducible refine D.call ?_);refine L.lnt U U U U ?_)|((with_reducible refine D.aw ?_);first|refine K.sq (K.sq ?_)|refine AW.regL ?_)|with_reducible refine K.tN ?_)
    refine AW.range p.args.length (fun m=>True)
     (fun m=>([(3,.ptr 2 0),(4,.ptr 3 0),(5,.ptr 4 0),(6,.ptr 5 0),(7,.ptr 6 0),(9,.ptr 7 0),(105,.s .pf p.args),(106,.i p.args.length),(107,.i m)],⟨11,[(0,.var [.i fr]),(1,.var [.i by_]),(2,.var p.view),(3,.var [.i v,.i y]),(4,.var [.nilf,.nilf,.fn (.func 127) [] [.ptr 0 0,.ptr 1 0]]),(5,.var [.i 0,.i 0,.i 0,.slice .nil (.t .ty []),.slice .nil (.t .tm []),.slice .nil (.t .fm []),.slice .nil (.t .pf [])]),(6,.var [.bool nd.index,.bool nd.typ,.i nd.terms,.i nd.forms,.i nd.args,.i (fvK p.kind),.i (vaK p.kind),.i (hyK p.kind)]),(7,.var [.i p.kind,.i p.index,.i p.ty.kind,.s .ty p.ty.args,.slice (.own 8) (.t .tm (p.terms)),.slice (.own 9) (.t .fm (p.forms)),.slice (.own 10) (.t .pf ((Pf.lhs fr by_ y (hyK p.kind) p.args).take m))]),(8,.row),(9,.row),(10,.row)]⟩))
     (by omega) (fun m=>rfl) (fun m=>rfl) U trivial (Weak.mk [some 0,some 1,some 2,some 3,some 4,some 5,some 6,some 7,some 8,some 9,none] _ _ _ U U U U (by(repeat'(first|exact trivial|refine And.intro ?_ ?_|refine⟨_,U,_,U,?_⟩|exact VLe.refl _));done) (by(repeat'(first|exact trivial|exact Or.inl U|exact Or.inr ⟨_,U,rfl⟩|refine And.intro ?_ ?_|refine⟨_,U,_,U,_,U,?_⟩|exact VLe.refl _));done)) ?_ ?_
    ·intro m hm _
     have hs2:=lsum_mem Pf.full (List.getElem_mem hm)
     have hb:=hpl m (by omega)
     have hc:=ih p.args[m] (if(m:Int)=(nd.args:Int)-1 then v+vaK p.kind else v) (if m+1=p.args.length then y+hyK p.kind else y) (by omega) (by omega) (by split<;>omega) (by split<;>omega) (hpf _ (List.getElem_mem hm)) (x3 hk _ (List.getElem_mem hm))
     have ev:(if(m:Int)=(nd.args:Int)-1 then y+hyK p.kind else y)=(if m+1=p.args.length then y+hyK p.kind else y):=by
      by_cases hx:m+1=p.args.length
      ·rw [if_pos hx,if_pos (by omega)]
      ·rw [if_neg hx,if_neg (by omega)]
     rw[ev] at hb
     repeat'(first|((with_reducible refine D.nil ?_);first|refine AX.nilL ?_|refine AX.nilD (by kernel_rfl) ?_)|((with_reducible refine D.load ?_);first|refine L.ldb U U U U U U ?_|refine L.lda U U U U U ?_)|((with_reducible refine D.move ?_);refine L.mv U U U ?_)|((with_reducible refine D.fieldAddr ?_);refine L.fab U U U U U ?_)|((with_reducible refine D.assign ?_);refine L.asg U U U ?_)|((with_reducible refine D.call ?_);first|refine L.apt U U U U U U (by first|exact trivial|exact⟨rfl,trivial⟩) U U (by first|omega|(simp;omega)) ?_|refine L.c2 (hb) U U U U ?_|(apply L.cv2 (hc) [0,1] 0 rfl;rfl;rfl;rfl;rfl;rfl;rfl;rfl;(focus((repeat'(first|exact trivial|refine And.intro ?_ ?_|refine⟨_,U,_,U,_,U,?_⟩|exact VLe.refl _));done));rfl;rfl;rfl;rfl))|((with_reducible refine D.alloc ?_);refine L.al U U U ?_)|((with_reducible refine D.store ?_);refine L.st U U U U U U U U U ?_)|((with_reducible refine D.indexAddr ?_);refine L.ixt _ U U U U U U U (by first|assumption|fail) ?_)|((with_reducible refine D.ax ?_);refine L.bs1 U U U U U (EC.fold_of U) U U ?_)|((with_reducible refine D.aw ?_);first|refine K.sq (AW.regL ?_)|refine AW.regD mixed (by kernel_rfl) ?_)|with_reducible refine K.tN ?_|with_reducible refine K.bN ?_)
     exact⟨rfl,trivial,(Weak.mk [some 0,some 1,some 2,some 3,some 4,some 5,some 6,some 7,some 8,some 9,some 12] _ _ _ U U U U (by(repeat'(first|exact trivial|refine And.intro ?_ ?_|refine⟨_,U,_,U,?_⟩|exact VLe.refl _));done) (by(repeat'(first|exact trivial|exact Or.inr ⟨_,U,rfl⟩|refine And.intro ?_ ?_|refine⟨_,U,_,U,_,U,?_⟩|exact VLe.refl _|exact VLe.of_eq (by simp[Sto.upd,lhs_take hm])));done))⟩
    ·intro _
     simp only[lhs_all]
     repeat'(first|((with_reducible refine D.nil ?_);refine AX.nilL ?_)|((with_reducible refine D.load ?_);refine L.ldb U U U U U U ?_)|((with_reducible refine D.store ?_);refine L.st U U U U U U U U U ?_)|((with_reducible refine D.aw ?_);first|refine K.sq (AW.regL ?_)|refine AW.ret ?_)|with_reducible refine K.tN ?_)
     rw[hre]
     (exact K.n2 [some 0,some 1] U U U U U (by(repeat'(first|exact trivial|refine And.intro ?_ ?_|refine⟨_,U,_,U,_,U,?_⟩|exact VLe.refl _));done) U (by simp[tupV,V.wk,V.wks,constV,Ty.view,Tm.view,hre]))
theorem lhPf_c(p:Pf)(fr by_:Int)(hfr:0≤fr∧fr<10000000000)(hby:0≤by_∧by_<10000000000)(hp:p.full<5000000000)(hs:p.shape=true)(hix:p.hx 549755813888):PC E 103 [.agg p.view,.i fr,.i by_] (.agg (p.lh fr by_ 0).view):=by
 have hc:=lhPfRe fr by_ hfr hby _ p 0 0 (Nat.le_refl _) (by omega) (by omega) (by omega) hs hix
 refine AC.mk Tryz.func103 rfl rfl rfl rfl rfl (Nat.le_of_ble_eq_true rfl) ?_
 repeat'(first|((with_reducible refine D.nil ?_);refine AX.nilL ?_)|((with_reducible refine D.load ?_);refine L.ldb U U U U U U ?_)|((with_reducible refine D.call ?_);(apply L.cv2 (hc) [1,2] 0 rfl;rfl;rfl;rfl;rfl;rfl;rfl;rfl;(focus((repeat'(first|exact trivial|refine And.intro ?_ ?_|refine⟨_,U,_,U,_,U,?_⟩|exact VLe.refl _));done));rfl;rfl;rfl;rfl))|((with_reducible refine D.box ?_);refine L.bx U U U U ?_)|((with_reducible refine D.alloc ?_);refine L.al U U U ?_)|((with_reducible refine D.store ?_);refine L.st U U U U U U U U U ?_)|((with_reducible refine D.ax ?_);first|refine L.bd U U U U U ?_|refine L.mf U U U U ?_)|((with_reducible refine D.aw ?_);first|refine K.sq (AW.regL ?_)|refine AW.ret ?_)|with_reducible refine K.tN ?_|with_reducible refine K.r1 (by with_unfolding_all rfl) (by with_unfolding_all rfl) ?_)
 simp[tupV,V.wk,V.wks,constV,Ty.view,Tm.view]
theorem upProof_c(p:Pf)(vars hyps:Int)(hv:0≤vars∧vars<10000000000)(hh:0≤hyps∧hyps<10000000000)(hp:p.full<5000000000)(hs:p.shape=true)(hix:p.ix 549755813888)(hq:(p.up 0 vars 0).full<5000000000)(hqs:(p.up 0 vars 0).shape=true)(hqx:(p.up 0 vars 0).hx 549755813888):
 PC E 69 [.agg p.view,.i vars,.i hyps] (.agg ((p.up 0 vars 0).lh 0 hyps 0).view):=by
 have h1:=liftPf_c p 0 vars (by omega) hv hp hs hix
 have h2:=lhPf_c (p.up 0 vars 0) 0 hyps (by omega) hh hq hqs hqx
 refine AC.mk Tryz.func69 rfl rfl rfl rfl rfl (Nat.le_of_ble_eq_true rfl) ?_
 repeat'(first|((with_reducible refine D.nil ?_);refine AX.nilL ?_)|((with_reducible refine D.load ?_);refine L.ldb U U U U U U ?_)|((with_reducible refine D.move ?_);refine L.mv U U U ?_)|((with_reducible refine D.call ?_);first|refine L.c2 (h1) U U U U ?_|refine L.c2 (h2) U U U U ?_)|((with_reducible refine D.box ?_);refine L.bx U U U U ?_)|((with_reducible refine D.alloc ?_);refine L.al U U U ?_)|((with_reducible refine D.store ?_);refine L.st U U U U U U U U U ?_)|((with_reducible refine D.aw ?_);first|refine K.sq (AW.regL ?_)|refine AW.ret ?_)|with_reducible refine K.tN ?_|with_reducible refine K.r1 (by with_unfolding_all rfl) (by with_unfolding_all rfl) ?_)
 rfl
theorem allE_c(l:List Tm)(p:Pf)(hl:l.length<1000000):PC E 68 [.agg p.view,.s .tm l] (.agg (l.foldl (fun p t=> .mk 9 0 (.mk 0 []) [t] [] [p]) p:Pf).view):=by
 refine AC.mk Tryz.func68 rfl rfl rfl rfl rfl (Nat.le_of_ble_eq_true rfl) ?_
 repeat'(first|((with_reducible refine D.nil ?_);refine AX.nilL ?_)|((with_reducible refine D.move ?_);refine L.mv U U U ?_)|((with_reducible refine D.call ?_);refine L.lnt U U U U ?_)|((with_reducible refine D.box ?_);refine L.bx U U U U ?_)|((with_reducible refine D.alloc ?_);refine L.al U U U ?_)|((with_reducible refine D.aw ?_);first|refine K.sq (AW.regL ?_)|refine K.sq (K.sq ?_)|refine AW.regL ?_)|with_reducible refine K.tN ?_)
 refine AW.range l.length (fun m=>True)
  (fun m=>([(2,.ptr 0 0),(4,.ptr 1 0),(7,.s .tm l),(8,.i l.length),(9,.i m)],⟨2,[(0,.var ((l.take m).foldl (fun p t=> .mk 9 0 (.mk 0 []) [t] [] [p]) p:Pf).view),(1,.var [.i 0,.i 0,.i 0,.slice .nil (.t .ty []),.slice .nil (.t .tm []),.slice .nil (.t .fm []),.slice .nil (.t .pf [])])]⟩))
  (by omega) (fun m=>rfl) (fun m=>rfl) U trivial (Weak.mk [some 0,some 1] _ _ _ U U U U (by(repeat'(first|exact trivial|refine And.intro ?_ ?_|refine⟨_,U,_,U,?_⟩|exact VLe.refl _));done) (by(repeat'(first|exact trivial|refine And.intro ?_ ?_|refine⟨_,U,_,U,_,U,?_⟩|exact VLe.refl _));done)) ?_ ?_
 ·intro m hm _
  have e:l.take (m+1)=l.take m++[l[m]]:=(List.take_append_getElem hm).symm
  have e2:(l.take (m+1)).foldl (fun p t=>Pf.mk 9 0 (.mk 0 []) [t] [] [p]) p=Pf.mk 9 0 (.mk 0 []) [l[m]] [] [(l.take m).foldl (fun p t=>Pf.mk 9 0 (.mk 0 []) [t] [] [p]) p]:=by
   rw[e,List.foldl_append];rfl
  generalize (l.take m).foldl (fun p t=>Pf.mk 9 0 (.mk 0 []) [t] [] [p]) p=P at*
  have e3:(Pf.mk 9 0 (.mk 0 []) [l[m]] [] [P]).view=[.i 9,.i 0,.i 0,.s .ty [],.s .tm [l[m]],.s .fm [],.s .pf [P]]:=rfl
  repeat'(first|((with_reducible refine D.nil ?_);refine AX.nilL ?_)|((with_reducible refine D.load ?_);first|refine L.ldb U U U U U U ?_|refine L.lda U U U U U ?_)|((with_reducible refine D.alloc ?_);refine L.al U U U ?_)|((with_reducible refine D.store ?_);refine L.st U U U U U U U U U ?_)|((with_reducible refine D.indexAddr ?_);refine L.ixt _ U U U U U U U (by first|assumption|fail) ?_)|((with_reducible refine D.ax ?_);first|refine L.bd U U U U U ?_|refine L.bs1 U U U U U (EC.fold_of U) U U ?_)|((with_reducible refine D.aw ?_);first|refine K.sq (AW.regL ?_)|refine AW.regL ?_)|with_reducible refine K.tN ?_|with_reducible refine K.bN ?_)
  refine⟨rfl,trivial,?_⟩
  simp only[e2,e3]
  exact(Weak.mk [some 0,some 1] _ _ _ U U U U (by(repeat'(first|exact trivial|refine And.intro ?_ ?_|refine⟨_,U,_,U,?_⟩|exact VLe.refl _));done) (by(repeat'(first|exact trivial|refine And.intro ?_ ?_|refine⟨_,U,_,U,_,U,?_⟩|exact VLe.refl _|exact VLe.any _ _));done))
 ·intro _
  simp only[List.take_length]
  generalize l.foldl (fun p t=>Pf.mk 9 0 (.mk 0 []) [t] [] [p]) p=P at*
  repeat'(first|((with_reducible refine D.nil ?_);refine AX.nilL ?_)|((with_reducible refine D.load ?_);refine L.ldb U U U U U U ?_)|((with_reducible refine D.store ?_);refine L.st U U U U U U U U U ?_)|((with_reducible refine D.aw ?_);first|refine K.sq (AW.regL ?_)|refine AW.ret ?_)|with_reducible refine K.tN ?_|with_reducible refine K.r1 (by with_unfolding_all rfl) (by with_unfolding_all rfl) ?_)
  rfl
theorem ind_c(k:Int)(f:Fm)(t:Tm)(p q:Pf):PC E 72 [.i k,.agg f.view,.agg t.view,.agg p.view,.agg q.view] (.agg (Pf.mk k 0 (.mk 0 []) [t] [f] [p,q]).view):=by
 refine AC.mk Tryz.func72 rfl rfl rfl rfl rfl (Nat.le_of_ble_eq_true rfl) ?_
 repeat'(first|((with_reducible refine D.nil ?_);refine AX.nilL ?_)|((with_reducible refine D.load ?_);refine L.ldb U U U U U U ?_)|((with_reducible refine D.move ?_);refine L.mv U U U ?_)|((with_reducible refine D.box ?_);refine L.bx U U U U ?_)|((with_reducible refine D.alloc ?_);refine L.al U U U ?_)|((with_reducible refine D.store ?_);refine L.st U U U U U U U U U ?_)|((with_reducible refine D.ax ?_);first|refine L.bd U U U U U ?_|refine L.bs1 U U U U U (EC.fold_of U) U U ?_|refine L.bs2 U U U U U (EC.fold_of U) U U U (EC.fold_of U) U U ?_)|((with_reducible refine D.aw ?_);first|refine K.sq (AW.regL ?_)|refine AW.ret ?_)|with_reducible refine K.tN ?_|with_reducible refine K.r1 (by with_unfolding_all rfl) (by with_unfolding_all rfl) ?_)
 rfl
theorem allI_c(s:Ty)(p:Pf):PC E 70 [.agg s.view,.agg p.view] (.agg (Pf.mk 8 0 s [] [] [p]).view):=by
 refine AC.mk Tryz.func70 rfl rfl rfl rfl rfl (Nat.le_of_ble_eq_true rfl) ?_
 repeat'(first|((with_reducible refine D.nil ?_);refine AX.nilL ?_)|((with_reducible refine D.load ?_);refine L.ldb U U U U U U ?_)|((with_reducible refine D.box ?_);refine L.bx U U U U ?_)|((with_reducible refine D.alloc ?_);refine L.al U U U ?_)|((with_reducible refine D.store ?_);refine L.st U U U U U U U U U ?_)|((with_reducible refine D.ax ?_);first|refine L.bd U U U U U ?_|refine L.bs1 U U U U U (EC.fold_of U) U U ?_)|((with_reducible refine D.aw ?_);first|refine K.sq (AW.regL ?_)|refine AW.ret ?_)|with_reducible refine K.tN ?_|with_reducible refine K.r1 (by with_unfolding_all rfl) (by with_unfolding_all rfl) ?_)
 rfl
theorem upHyp_c(i vars hyps:Int)(hi:0≤i∧i<1000000)(hv:0≤vars∧vars<10000000000)(hh:0≤hyps∧hyps<10000000000):PC E 69 [.agg (hypP i).view,.i vars,.i hyps] (.agg (hypP (i+hyps)).view):=by
 have hs:=((Pf.err_iff _).1 (hypP_err (i:=i) hi.1)).1
 have h:=upProof_c (hypP i) vars hyps hv hh (by rw[hyp_full];omega) hs (hyp_ix _ _) (by rw[hyp_up,hyp_full];omega) (by rw[hyp_up];exact hs) (by rw[hyp_up];exact hyp_hx (by omega))
 rw[hyp_up,hyp_lh,if_pos (by omega)] at h
 exact h
theorem lft_full{f:Fm}(hs:f.shape=true){fr by_:Int}(hb:0≤by_):(f.lft fr by_).full=f.full:=(lft_keeps hs hb).2.2
theorem dNumbers_c(f:Fm)(i j:Int)(hf:f.err=0)(hfx:∀p∈f.tms 0,∀q∈p.1.vars 0,0≤q.1∧q.1<549755813888)(hi:0≤i∧i<1000000)(hj:0≤j∧j<1000000)(he:(numbersP f (hypP i) (hypP (j+1))).err=0):
 PC E 30 [.agg f.view,.agg (hypP i).view,.agg (hypP j).view] (.tup [.agg (numbersP f (hypP i) (hypP (j+1))).view,.i 0]):=by
 have ff:=ferr_full hf
 have fs:=((Fm.err_iff f).1 hf).1
 have lf:=lft_full fs (fr:=1) (by_:=1) (by omega)
 have h1:=chk_c [.fm f,.pf (hypP i),.pf (hypP j)] (by simp) (by simp only[List.mem_cons,List.not_mem_nil,or_false];rintro x (rfl|rfl|rfl)<;>simp only[Ch.full,hyp_full]<;>omega)
 unfold chV at h1
 have e:firstI Ch.err [.fm f,.pf (hypP i),.pf (hypP j)]=0:=firstI_all (by
  intro x hx;simp only[List.mem_cons,List.not_mem_nil,or_false] at hx
  rcases hx with rfl|rfl|rfl
  ·exact hf
  ·exact hypP_err hi.1
  ·exact hypP_err hj.1)
 rw[e] at h1
 have h2:=upHyp_c j 2 1 hj (by omega) (by omega)
 have h3:=upHyp_c i 1 0 hi (by omega) (by omega)
 rw[Int.add_zero] at h3
 have h4:=tvar_c 0
 have h5:=allE_c [vT 0] (hypP (j+1)) (by simp)
 simp only[List.foldl_cons,List.foldl_nil] at h5
 have h6:=liftFm_c f 1 1 (by omega) (by omega) (by omega) hfx
 have h7:=ind_c 16 (f.lft 1 1) (vT 0) (hypP i) (.mk 9 0 (.mk 0 []) [vT 0] [] [hypP (j+1)])
 have h8:=allI_c natT (.mk 16 0 (.mk 0 []) [vT 0] [f.lft 1 1] [hypP i,.mk 9 0 (.mk 0 []) [vT 0] [] [hypP (j+1)]])
 have hn:=tnat_c
 have h9:=ddone_c (numbersP f (hypP i) (hypP (j+1))) (by simp only[numbersP,Pf.full,Pf.fulls,List.map_cons,List.map_nil,List.sum_cons,List.sum_nil,lf,vT_full,Ty.size,Ty.sizes,natT];omega)
 unfold doneR at h9
 rw[if_pos he] at h9
 unfold numbersP at h9 ⊢
 refine AC.mk Tryz.func30 rfl rfl rfl rfl rfl (Nat.le_of_ble_eq_true rfl) ?_
 repeat'(first|((with_reducible refine D.nil ?_);first|refine AX.nilL ?_|refine AX.nilD (by kernel_rfl) ?_)|((with_reducible refine D.load ?_);refine L.ldb U U U U U U ?_)|((with_reducible refine D.move ?_);refine L.mv U U U ?_)|((with_reducible refine D.assign ?_);refine L.asg U U U ?_)|((with_reducible refine D.bin ?_);refine L.bn U U U U U ?_)|((with_reducible refine D.call ?_);first|refine L.c2 (h1) U U U U ?_|refine L.c2 (h2) U U U U ?_|refine L.c2 (h3) U U U U ?_|refine L.c2 (h4) U U U U ?_|refine L.c2 (h5) U U U U ?_|refine L.c2 (h6) U U U U ?_|refine L.c2 (h7) U U U U ?_|refine L.c2 (h8) U U U U ?_|refine L.c2 (hn) U U U U ?_|refine L.c2 (h9) U U U U ?_)|((with_reducible refine D.extract ?_);refine L.ex U U U U ?_)|((with_reducible refine D.box ?_);refine L.bx U U U U ?_)|((with_reducible refine D.alloc ?_);refine L.al U U U ?_)|((with_reducible refine D.store ?_);refine L.st U U U U U U U U U ?_)|((with_reducible refine D.ax ?_);first|refine L.bs1 U U U U U (EC.fold_of U) U U ?_|refine L.bs 0 U U U U U U U U U U ?_|refine L.mki U U U U U ?_)|((with_reducible refine D.aw ?_);first|refine K.sq (AW.regL ?_)|refine K.sq (AW.regD mixed (by kernel_rfl) ?_)|refine K.sq (K.sq ?_)|refine AW.regL ?_|refine AW.condF U ?_|refine AW.skip ?_|refine AW.ret ?_)|with_reducible refine K.tN ?_|with_reducible refine K.r1 (by with_unfolding_all rfl) (by with_unfolding_all rfl) ?_)
 all_goals first
  |rfl
  |trace_state
theorem dLists_c(f:Fm)(i j:Int)(hf:f.err=0)(hfx:∀p∈f.tms 0,∀q∈p.1.vars 0,0≤q.1∧q.1<549755813888)(hi:0≤i∧i<1000000)(hj:0≤j∧j<1000000)(he:(listsP f (hypP i) (hypP (j+1))).err=0):
 PC E 31 [.agg f.view,.agg (hypP i).view,.agg (hypP j).view] (.tup [.agg (listsP f (hypP i) (hypP (j+1))).view,.i 0]):=by
 have ff:=ferr_full hf
 have fs:=((Fm.err_iff f).1 hf).1
 have lf:=lft_full fs (fr:=1) (by_:=1) (by omega)
 have h1:=chk_c [.fm f,.pf (hypP i),.pf (hypP j)] (by simp) (by simp only[List.mem_cons,List.not_mem_nil,or_false];rintro x (rfl|rfl|rfl)<;>simp only[Ch.full,hyp_full]<;>omega)
 unfold chV at h1
 have e:firstI Ch.err [.fm f,.pf (hypP i),.pf (hypP j)]=0:=firstI_all (by
  intro x hx;simp only[List.mem_cons,List.not_mem_nil,or_false] at hx
  rcases hx with rfl|rfl|rfl
  ·exact hf
  ·exact hypP_err hi.1
  ·exact hypP_err hj.1)
 rw[e] at h1
 have h2:=upHyp_c j 3 1 hj (by omega) (by omega)
 have h3:=upHyp_c i 1 0 hi (by omega) (by omega)
 rw[Int.add_zero] at h3
 have h4:=tvar_c 0
 have h4':=tvar_c 1
 have h5:=allE_c [vT 1,vT 0] (hypP (j+1)) (by simp)
 simp only[List.foldl_cons,List.foldl_nil] at h5
 have h6:=liftFm_c f 1 1 (by omega) (by omega) (by omega) hfx
 have h7:=ind_c 17 (f.lft 1 1) (vT 0) (hypP i) (.mk 9 0 (.mk 0 []) [vT 0] [] [.mk 9 0 (.mk 0 []) [vT 1] [] [hypP (j+1)]])
 have h8:=allI_c listT (.mk 17 0 (.mk 0 []) [vT 0] [f.lft 1 1] [hypP i,.mk 9 0 (.mk 0 []) [vT 0] [] [.mk 9 0 (.mk 0 []) [vT 1] [] [hypP (j+1)]]])
 have hn:=tlist_c
 have h9:=ddone_c (listsP f (hypP i) (hypP (j+1))) (by simp only[listsP,Pf.full,Pf.fulls,List.map_cons,List.map_nil,List.sum_cons,List.sum_nil,lf,vT_full,Ty.size,Ty.sizes,listT];omega)
 unfold doneR at h9
 rw[if_pos he] at h9
 unfold listsP at h9 ⊢
 refine AC.mk Tryz.func31 rfl rfl rfl rfl rfl (Nat.le_of_ble_eq_true rfl) ?_
 repeat'(first|((with_reducible refine D.nil ?_);first|refine AX.nilL ?_|refine AX.nilD (by kernel_rfl) ?_)|((with_reducible refine D.load ?_);refine L.ldb U U U U U U ?_)|((with_reducible refine D.move ?_);refine L.mv U U U ?_)|((with_reducible refine D.assign ?_);refine L.asg U U U ?_)|((with_reducible refine D.bin ?_);refine L.bn U U U U U ?_)|((with_reducible refine D.call ?_);first|refine L.c2 (h1) U U U U ?_|refine L.c2 (h2) U U U U ?_|refine L.c2 (h3) U U U U ?_|refine L.c2 (h4) U U U U ?_|refine L.c2 (h4') U U U U ?_|refine L.c2 (h5) U U U U ?_|refine L.c2 (h6) U U U U ?_|refine L.c2 (h7) U U U U ?_|refine L.c2 (h8) U U U U ?_|refine L.c2 (hn) U U U U ?_|refine L.c2 (h9) U U U U ?_)|((with_reducible refine D.extract ?_);refine L.ex U U U U ?_)|((with_reducible refine D.box ?_);refine L.bx U U U U ?_)|((with_reducible refine D.alloc ?_);refine L.al U U U ?_)|((with_reducible refine D.store ?_);refine L.st U U U U U U U U U ?_)|((with_reducible refine D.ax ?_);first|refine L.bs2 U U U U U (EC.fold_of U) U U U (EC.fold_of U) U U ?_|refine L.bs 0 U U U U U U U U U U ?_|refine L.mki U U U U U ?_)|((with_reducible refine D.aw ?_);first|refine K.sq (AW.regL ?_)|refine K.sq (AW.regD mixed (by kernel_rfl) ?_)|refine K.sq (K.sq ?_)|refine AW.regL ?_|refine AW.condF U ?_|refine AW.skip ?_|refine AW.ret ?_)|with_reducible refine K.tN ?_|with_reducible refine K.r1 (by with_unfolding_all rfl) (by with_unfolding_all rfl) ?_)
 all_goals first
  |rfl
  |trace_state
end Go.Ab
