/- A part of the proofs of this seat's statements: S114, S109, S75, S110, S115. It has no conditions of its own. -/
import Derived.Test.YteenjilpjblgeaaGreatDoorA2
import Derived.Test.YteenjilpjblgeaaGreatDoorST3
import Derived.Test.YteenjilpjblgeaaGreatDoorDT1
import Derived.Test.YteenjilpjblgeaaGreatDoorS2
import Derived.Test.YteenjilpjblgeaaGreatDoorS1
import Derived.Test.YteenjilpjblgeaaGreatDoorAT1
import Derived.Test.YteenjilpjblgeaaGreatDoorS3
namespace Go.Ab
open Go Go.Proofs
set_option maxRecDepth 100000
set_option maxHeartbeats 4000000
set_option linter.all false
theorem lwCb(fr by_ i bl:Int):AC E 188 [.i i,.i bl,.ptr 0 0,.ptr 1 0] ⟨2,[(0,.var [.i fr]),(1,.var [.i by_])]⟩ (.agg (liftW fr by_ i bl).view) ⟨2,[(0,.var [.i fr]),(1,.var [.i by_])]⟩:=by
 have hv:=tvar_c
 refine M.F Tryz.func188 ?_
 repeat'(first|refine M.gw ?_|refine M.c2 (hv _) ?_|refine AW.condS U (fun h=> ?_) (fun h=> ?_)|fail)
 ·have h':fr≤IntKind.i64.wrap (i-bl):=by simpa using h
  (exact M.n2 [some 0,some 1] (h8:=(by simp[tupV,V.wk,V.wks,constV,Ty.view,Tm.view,liftW,h'])))
 ·have h':¬fr≤IntKind.i64.wrap (i-bl):=by simpa using h
  (exact M.n2 [some 0,some 1] (h8:=(by simp[tupV,V.wk,V.wks,constV,Ty.view,Tm.view,liftW,h'])))
theorem lwRe1(fr by_:Int):∀(n:Nat) (t:Tm) (bl:Int),t.full≤n→n<549755813888→0≤bl→bl+n<549755813888→AC E 222 [.agg t.view,.i bl,.ptr 0 0,.ptr 1 0] ⟨4,[(0,.var [.fn (.func 188) [] [.ptr 2 0,.ptr 3 0]]),(1,.var [.fn (.func 222) [] [.ptr 0 0,.ptr 1 0]]),(2,.var [.i fr]),(3,.var [.i by_])]⟩ (.agg (t.re (liftW fr by_) bl).view) ⟨4,[(0,.var [.fn (.func 188) [] [.ptr 2 0,.ptr 3 0]]),(1,.var [.fn (.func 222) [] [.ptr 0 0,.ptr 1 0]]),(2,.var [.i fr]),(3,.var [.i by_])]⟩:=by
 intro n
 induction n with
 |zero=>intro t bl h;have:=t.full_pos;omega
 |succ n ih=>
 intro t bl hsz hb hbl hbn
 have hsz':=Tm.full_eq t
 have hlen:=lsum_len Tm.full Tm.full_pos t.args
 have hre:=Tm.re_eq (liftW fr by_) bl t
 have hcb:=lwCb fr by_ t.index bl
 have hown:=ownTy_c _ t.ty (Nat.le_refl _) (by omega)
 refine M.F Tryz.func222 ?_
 repeat'(first|refine M.gw ?_|refine M.cv (hcb) [2,3] 0 ?_|refine M.c2 (hown) ?_|refine AW.condS U (fun h=> ?_) (fun h=> ?_)|fail)
 ·have hk:t.kind=1:=by simpa using h
  (exact M.n2 [some 0,some 1,some 2,some 3] (h8:=(by simp[tupV,V.wk,V.wks,constV,Ty.view,Tm.view,hre,hk])))
 all_goals
  rename_i hk1
  have hup:up t.kind bl≤bl+1:=by simp only[up];split<;>omega
  have hup0:0≤up t.kind bl:=by simp only[up];split<;>omega
  have hk1':¬t.kind=1:=by simpa using hk1
  refine AW.range t.args.length (fun m=>True)
   (fun m=>([(1,.i (up t.kind bl)),(3,.ptr 1 0),(6,.ptr 5 0),(7,.ptr 6 0),(32,.s .tm t.args),(33,.i t.args.length),(34,.i m)],⟨8,[(0,.var [.fn (.func 188) [] [.ptr 2 0,.ptr 3 0]]),(1,.var [.fn (.func 222) [] [.ptr 0 0,.ptr 1 0]]),(2,.var [.i fr]),(3,.var [.i by_]),(4,.var t.view),(5,.var [.i 0,.i 0,.i 0,.slice .nil (.t .ty []),.slice .nil (.t .tm [])]),(6,.var [.i t.kind,.i t.index,.i t.ty.kind,.s .ty t.ty.args,.slice (.own 7) (.t .tm ((t.args.take m).map (Tm.re (liftW fr by_) (up t.kind bl))))]),(7,.row)]⟩))
   (by omega) (fun m=>rfl) (fun m=>rfl) rfl trivial ?_ ?_ ?_
  ·simp_all only[beq_iff_eq,beq_eq_false_iff_ne,ne_eq]
   exact(M.W [some 0,some 1,some 2,some 3,some 4,some 5,some 6,none] (hf:=(by(repeat'(first|exact trivial|refine And.intro ?_ ?_|refine⟨_,U,_,U,?_⟩|exact VLe.refl _|exact VLe.of_eq (by simp[Sto.upd,up, *])));done)))
  ·intro m hm hP
   have hs2:=lsum_mem Tm.full (List.getElem_mem hm)
   have hc:=ih t.args[m] (up t.kind bl) (by omega) (by omega) hup0 (by omega)
   repeat'(first|refine M.gw ?_|refine M.cv (hc) [0,1,2,3] 0 ?_|fail)
   refine⟨rfl,trivial,?_⟩
   exact(M.W [some 0,some 1,some 2,some 3,some 4,some 5,some 6,some 9] (he:=(by(repeat'(first|exact trivial|exact Or.inr ⟨_,U,rfl⟩|refine And.intro ?_ ?_|refine⟨_,U,_,U,_,U,?_⟩|exact VLe.refl _|exact VLe.of_eq (by simp[Sto.upd,map_take _ _ _ hm])));done)))
  ·intro hP
   repeat'(first|refine M.gw ?_|fail)
   (exact M.n2 [some 0,some 1,some 2,some 3] (h8:=(by simp[tupV,V.wk,V.wks,constV,Ty.view,Tm.view,hre,hk1'])))
theorem lwRe(fr by_:Int)(t:Tm)(ht:t.full<274877906944):AC E 187 [.agg t.view,.fn (.func 188) [] [.ptr 0 0,.ptr 1 0]] ⟨2,[(0,.var [.i fr]),(1,.var [.i by_])]⟩ (.agg (t.lw fr by_).view) ⟨2,[(0,.var [.i fr]),(1,.var [.i by_])]⟩:=by
 have hc:=lwRe1 fr by_ _ t 0 (Nat.le_refl _) (by omega) (by omega) (by omega)
 unfold Tm.lw
 refine M.F Tryz.func187 ?_
 repeat'(first|refine M.gw ?_|refine M.cv (hc) [3,5,0,1] 0 ?_|fail)
 (exact M.n2 [some 0,some 1] (h8:=(by simp[tupV,V.wk,V.wks,constV,Ty.view,Tm.view,hc])))
theorem lw_c(t:Tm)(fr by_:Int)(ht:t.full<274877906944):PC E 159 [.agg t.view,.i fr,.i by_] (.agg (t.lw fr by_).view):=by
 have hc:=lwRe fr by_ t ht
 refine M.F Tryz.func159 ?_
 repeat'(first|refine M.gw ?_|refine M.cb (hc) [1,2] 0 ?_|fail)
 simp[tupV,V.wk,V.wks,constV,Ty.view,Tm.view]
theorem lwFmCb(fr by_:Int)(hat:0≤fr∧fr<274877906944)(t:Tm)(bl:Int)(ht:t.full<274877906944)(hb:0≤bl∧bl<274877906944):
 AC E 165 [.agg t.view,.i bl,.ptr 0 0,.ptr 1 0] ⟨2,[(0,.var [.i fr]),(1,.var [.i by_])]⟩ (.agg (t.lw (fr+bl) by_).view) ⟨2,[(0,.var [.i fr]),(1,.var [.i by_])]⟩:=by
 have hc:=lw_c t (fr+bl) by_ ht
 refine M.F Tryz.func165 ?_
 repeat'(first|refine M.gw ?_|refine M.c2 (hc) ?_|fail)
 (exact M.n2 [some 0,some 1] (h8:=(by simp[tupV,V.wk,V.wks,constV,Ty.view,Tm.view,hc])))
theorem lwFmRe(fr by_:Int)(hat:0≤fr∧fr<274877906944):∀(n:Nat) (f:Fm) (bl:Int),f.full≤n→n<274877906944→0≤bl→bl+n<274877906944→
 AC E 164 [.agg f.view,.i bl,.fn (.func 165) [] [.ptr 0 0,.ptr 1 0]] ⟨2,[(0,.var [.i fr]),(1,.var [.i by_])]⟩ (.agg (f.re (fun b t=>t.lw (fr+b) by_) bl).view) ⟨2,[(0,.var [.i fr]),(1,.var [.i by_])]⟩:=by
 intro n
 induction n with
 |zero=>intro f bl h;intros;have:=f.full_pos;omega
 |succ n ih=>
 intro f bl hsz hb hbl hbn
 have hsz':=f.full_eq
 have hlen:=lsum_len Fm.full Fm.full_pos f.args
 have hlen2:=lsum_len Tm.full Tm.full_pos f.terms
 have hty:=ownTy_c _ f.ty (Nat.le_refl _) (by omega)
 have hq:=quantifier_c f.kind
 have hre:=Fm.re_eq (fun b t=>t.lw (fr+b) by_) bl f
 refine M.F Tryz.func164 ?_
 repeat'(first|refine M.gw ?_|refine M.c2 (hty) ?_|fail)
 refine AW.range f.terms.length (fun m=>True)
  (fun m=>([(1,.i bl),(2,.fn (.func 165) [] [.ptr 0 0,.ptr 1 0]),(3,.ptr 2 0),(6,.ptr 3 0),(7,.ptr 4 0),(19,.s .tm f.terms),(20,.i f.terms.length),(21,.i m)],⟨6,[(0,.var [.i fr]),(1,.var [.i by_]),(2,.var f.view),(3,.var [.i 0,.i 0,.slice .nil (.t .ty []),.slice .nil (.t .tm []),.slice .nil (.t .fm [])]),(4,.var [.i f.kind,.i f.ty.kind,.s .ty f.ty.args,.slice (.own 5) (.t .tm ((f.terms.take m).map ((fun b t=>t.lw (fr+b) by_) bl))),.slice .nil (.t .fm [])]),(5,.row)]⟩))
  (by omega) (fun m=>rfl) (fun m=>rfl) rfl trivial (M.W [some 0,some 1,some 2,some 3,some 4,none]) ?_ ?_
 ·intro m hm _
  have hs2:=lsum_mem Tm.full (List.getElem_mem hm)
  have hc:=lwFmCb fr by_ hat f.terms[m] bl (by omega) (by omega)
  repeat'(first|refine M.gw ?_|refine M.cv (hc) [0,1] 0 ?_|fail)
  exact⟨rfl,trivial,(M.W [some 0,some 1,some 2,some 3,some 4,some 7] (he:=(by(repeat'(first|exact trivial|exact Or.inr ⟨_,U,rfl⟩|refine And.intro ?_ ?_|refine⟨_,U,_,U,_,U,?_⟩|exact VLe.refl _|exact VLe.of_eq (by simp[Sto.upd,map_take _ _ _ hm])));done)))⟩
 ·intro _
  simp only[List.take_length]
  cases hqk:quantK f.kind with
  |true=>
   rw[hqk] at hq
   have hu:upF f.kind bl=bl+1:=by simp[upF,hqk]
   rw[hu] at hre
   repeat'(first|refine M.gw ?_|refine M.c2 (hq) ?_|fail)
   refine AW.range f.args.length (fun m=>True)
    (fun m=>([(1,.i (bl+1)),(2,.fn (.func 165) [] [.ptr 0 0,.ptr 1 0]),(3,.ptr 2 0),(6,.ptr 3 0),(7,.ptr 4 0),(41,.s .fm f.args),(42,.i f.args.length),(43,.i m)],⟨7,[(0,.var [.i fr]),(1,.var [.i by_]),(2,.var f.view),(3,.var [.i 0,.i 0,.slice .nil (.t .ty []),.slice .nil (.t .tm []),.slice .nil (.t .fm [])]),(4,.var [.i f.kind,.i f.ty.kind,.s .ty f.ty.args,.slice (.own 5) (.t .tm (f.terms.map ((fun b t=>t.lw (fr+b) by_) bl))),.slice (.own 6) (.t .fm ((f.args.take m).map (Fm.re (fun b t=>t.lw (fr+b) by_) (bl+1))))]),(5,.row),(6,.row)]⟩))
    (by omega) (fun m=>rfl) (fun m=>rfl) rfl trivial (M.W [some 0,some 1,some 2,some 3,some 4,some 5,none]) ?_ ?_
   ·intro m hm _
    have hs2:=lsum_mem Fm.full (List.getElem_mem hm)
    have hc:=ih f.args[m] (bl+1) (by omega) (by omega) (by omega) (by omega)
    repeat'(first|refine M.gw ?_|refine M.cv (hc) [0,1] 0 ?_|fail)
    exact⟨rfl,trivial,(M.W [some 0,some 1,some 2,some 3,some 4,some 5,some 8] (he:=(by(repeat'(first|exact trivial|exact Or.inr ⟨_,U,rfl⟩|refine And.intro ?_ ?_|refine⟨_,U,_,U,_,U,?_⟩|exact VLe.refl _|exact VLe.of_eq (by simp[Sto.upd,map_take _ _ _ hm])));done)))⟩
   ·intro _
    simp only[List.take_length]
    repeat'(first|refine M.gw ?_|fail)
    (exact M.n2 [some 0,some 1] (h8:=(by simp[tupV,V.wk,V.wks,constV,Ty.view,Tm.view,hre])))
  |false=>
   rw[hqk] at hq
   have hu:upF f.kind bl=bl:=by simp[upF,hqk]
   rw[hu] at hre
   repeat'(first|refine M.gw ?_|refine M.c2 (hq) ?_|fail)
   refine AW.range f.args.length (fun m=>True)
    (fun m=>([(1,.i bl),(2,.fn (.func 165) [] [.ptr 0 0,.ptr 1 0]),(3,.ptr 2 0),(6,.ptr 3 0),(7,.ptr 4 0),(41,.s .fm f.args),(42,.i f.args.length),(43,.i m)],⟨7,[(0,.var [.i fr]),(1,.var [.i by_]),(2,.var f.view),(3,.var [.i 0,.i 0,.slice .nil (.t .ty []),.slice .nil (.t .tm []),.slice .nil (.t .fm [])]),(4,.var [.i f.kind,.i f.ty.kind,.s .ty f.ty.args,.slice (.own 5) (.t .tm (f.terms.map ((fun b t=>t.lw (fr+b) by_) bl))),.slice (.own 6) (.t .fm ((f.args.take m).map (Fm.re (fun b t=>t.lw (fr+b) by_) bl)))]),(5,.row),(6,.row)]⟩))
    (by omega) (fun m=>rfl) (fun m=>rfl) rfl trivial (M.W [some 0,some 1,some 2,some 3,some 4,some 5,none]) ?_ ?_
   ·intro m hm _
    have hs2:=lsum_mem Fm.full (List.getElem_mem hm)
    have hc:=ih f.args[m] bl (by omega) (by omega) (by omega) (by omega)
    repeat'(first|refine M.gw ?_|refine M.cv (hc) [0,1] 0 ?_|fail)
    exact⟨rfl,trivial,(M.W [some 0,some 1,some 2,some 3,some 4,some 5,some 8] (he:=(by(repeat'(first|exact trivial|exact Or.inr ⟨_,U,rfl⟩|refine And.intro ?_ ?_|refine⟨_,U,_,U,_,U,?_⟩|exact VLe.refl _|exact VLe.of_eq (by simp[Sto.upd,map_take _ _ _ hm])));done)))⟩
   ·intro _
    simp only[List.take_length]
    repeat'(first|refine M.gw ?_|fail)
    (exact M.n2 [some 0,some 1] (h8:=(by simp[tupV,V.wk,V.wks,constV,Ty.view,Tm.view,hre])))
theorem lwFm_c(f:Fm)(fr by_:Int)(hat:0≤fr∧fr<274877906944)(hf:f.full<137438953472):PC E 104 [.agg f.view,.i fr,.i by_] (.agg (f.lw fr by_).view):=by
 have hc:=lwFmRe fr by_ hat _ f 0 (Nat.le_refl _) (by omega) (by omega) (by omega)
 refine M.F Tryz.func104 ?_
 repeat'(first|refine M.gw ?_|refine M.cv (hc) [1,2] 0 ?_|fail)
 rfl
theorem lwCb1(fr by_:Int)(hat:0≤fr∧fr<274877906944)(t:Tm)(bl:Int)(ht:t.full<274877906944)(hb:0≤bl∧bl<274877906944):
 AC E 192 [.agg t.view,.i bl,.ptr 0 0,.ptr 1 0] ⟨2,[(0,.var [.i fr]),(1,.var [.i by_])]⟩ (.agg (t.lw (fr+bl) by_).view) ⟨2,[(0,.var [.i fr]),(1,.var [.i by_])]⟩:=by
 have hc:=lw_c t (fr+bl) by_ ht
 refine M.F Tryz.func192 ?_
 repeat'(first|refine M.gw ?_|refine M.c2 (hc) ?_|fail)
 (exact M.n2 [some 0,some 1] (h8:=(by simp[tupV,V.wk,V.wks,constV,Ty.view,Tm.view,hc])))
theorem lwCb2(fr by_:Int)(hat:0≤fr∧fr<100000000000)(f:Fm)(bl:Int)(ht:f.full<137438953472)(hb:0≤bl∧bl<100000000000):
 AC E 193 [.agg f.view,.i bl,.ptr 0 0,.ptr 1 0] ⟨2,[(0,.var [.i fr]),(1,.var [.i by_])]⟩ (.agg (f.lw (fr+bl) by_).view) ⟨2,[(0,.var [.i fr]),(1,.var [.i by_])]⟩:=by
 have hc:=lwFm_c f (fr+bl) by_ (by omega) ht
 generalize f.lw (fr+bl) by_=F at*
 refine M.F Tryz.func193 ?_
 repeat'(first|refine M.gw ?_|refine M.c2 (hc) ?_|fail)
 (exact M.n2 [some 0,some 1] (h8:=(by simp[tupV,V.wk,V.wks,constV,Ty.view,Tm.view,Fm.view])))
theorem lwPfRe(fr by_:Int)(hfr:0≤fr∧fr<10000000000):∀(n:Nat) (p:Pf) (v y:Int),p.full≤n→n<10000000000→(0≤v∧v+2*n≤50000000000)→(0≤y∧y+2*n≤50000000000)→p.nd→
 AC E 186 [.agg p.view,.agg [.i v,.i y],.agg [.fn (.func 192) [] [.ptr 0 0,.ptr 1 0],.fn (.func 193) [] [.ptr 0 0,.ptr 1 0],.nilf]] ⟨2,[(0,.var [.i fr]),(1,.var [.i by_])]⟩ (.agg (p.uw fr by_ v).view) ⟨2,[(0,.var [.i fr]),(1,.var [.i by_])]⟩:=by
 intro n
 induction n with
 |zero=>intro p v y hz;have:=p.full_pos;omega
 |succ n ih=>
 intro p v y hz hn hv hh hs
 have hre:=p.uw_eq fr by_ v
 have hsz':=p.full_eq
 have hlen:=lsum_len Pf.full Pf.full_pos p.args
 have hlen1:=lsum_len Fm.full Fm.full_pos p.forms
 have hlen2:=lsum_len Tm.full Tm.full_pos p.terms
 have hty:=ownTy_c _ p.ty (Nat.le_refl _) (by omega)
 have hru:=ruleOf_c p.kind
 obtain⟨⟨nd,n1,n4⟩,hpf⟩:=(Pf.nd_iff p).1 hs
 have hal:p.args.length≤2:=by
  rw[n4]
  unfold ndP at n1
  repeat(split at n1;· cases n1;decide)
  cases n1
 have hpl:=fun(m:Nat) (hm:m≤1000000)=>placeBelow_c p.kind v y nd n1 m hm (by omega) (by omega)
 have e2:ruC p.kind=[.bool nd.index,.bool nd.typ,.i nd.terms,.i nd.forms,.i nd.args,.i (fvK p.kind),.i (vaK p.kind),.i (hyK p.kind)]:=by unfold ruC;rw[n1]
 have b1:0≤vaK p.kind∧vaK p.kind≤2:=by unfold vaK;split<;>(try split)<;>omega
 have b2:0≤hyK p.kind∧hyK p.kind≤1:=by unfold hyK;split<;>omega
 have b3:0≤fvK p.kind∧fvK p.kind≤1:=by unfold fvK;split<;>omega
 rw[n1] at hru
 simp only[Option.isSome_some] at hru
 rw[e2] at hru
 simp only[e2] at hpl
 refine M.F Tryz.func186 ?_
 repeat'(first|refine M.gw ?_|refine M.c2 (hru) ?_|refine M.c2 (hty) ?_|((fail_if_success refine AX.wt U ?_);refine AX.gs U U (fun _=>trivial) (fun h=> ?_) (fun h=> ?_))|fail)
 all_goals
  refine AW.range p.terms.length (fun m=>True)
   (fun m=>([(3,.ptr 2 0),(4,.ptr 3 0),(5,.ptr 4 0),(6,.ptr 5 0),(7,.ptr 6 0),(9,.ptr 7 0),(44,.s .tm p.terms),(45,.i p.terms.length),(46,.i m)],⟨9,[(0,.var [.i fr]),(1,.var [.i by_]),(2,.var p.view),(3,.var [.i v,.i y]),(4,.var [.fn (.func 192) [] [.ptr 0 0,.ptr 1 0],.fn (.func 193) [] [.ptr 0 0,.ptr 1 0],.nilf]),(5,.var [.i 0,.i 0,.i 0,.slice .nil (.t .ty []),.slice .nil (.t .tm []),.slice .nil (.t .fm []),.slice .nil (.t .pf [])]),(6,.var [.bool nd.index,.bool nd.typ,.i nd.terms,.i nd.forms,.i nd.args,.i (fvK p.kind),.i (vaK p.kind),.i (hyK p.kind)]),(7,.var [.i p.kind,.i p.index,.i p.ty.kind,.s .ty p.ty.args,.slice (.own 8) (.t .tm ((p.terms.take m).map fun t=>t.lw (fr+v) by_)),.slice .nil (.t .fm []),.slice .nil (.t .pf [])]),(8,.row)]⟩))
   (by omega) (fun m=>rfl) (fun m=>rfl) rfl trivial (M.W [some 0,some 1,some 2,some 3,some 4,some 5,some 6,some 7,none]) ?_ ?_
  ·intro m hm _
   have hs2:=lsum_mem Tm.full (List.getElem_mem hm)
   have hc:=lwCb1 fr by_ (by omega) p.terms[m] v (by omega) (by omega)
   repeat'(first|refine M.gw ?_|refine M.cv (hc) [0,1] 0 ?_|fail)
   exact⟨rfl,trivial,(M.W [some 0,some 1,some 2,some 3,some 4,some 5,some 6,some 7,some 10] (he:=(by(repeat'(first|exact trivial|exact Or.inr ⟨_,U,rfl⟩|refine And.intro ?_ ?_|refine⟨_,U,_,U,_,U,?_⟩|exact VLe.refl _|exact VLe.of_eq (by simp[Sto.upd,map_take _ _ _ hm])));done)))⟩
  ·intro _
   simp only[List.take_length]
   repeat'(first|refine M.gw ?_|fail)
   refine AW.range p.forms.length (fun m=>True)
    (fun m=>([(3,.ptr 2 0),(4,.ptr 3 0),(5,.ptr 4 0),(6,.ptr 5 0),(7,.ptr 6 0),(9,.ptr 7 0),(73,.s .fm p.forms),(74,.i p.forms.length),(75,.i m)],⟨10,[(0,.var [.i fr]),(1,.var [.i by_]),(2,.var p.view),(3,.var [.i v,.i y]),(4,.var [.fn (.func 192) [] [.ptr 0 0,.ptr 1 0],.fn (.func 193) [] [.ptr 0 0,.ptr 1 0],.nilf]),(5,.var [.i 0,.i 0,.i 0,.slice .nil (.t .ty []),.slice .nil (.t .tm []),.slice .nil (.t .fm []),.slice .nil (.t .pf [])]),(6,.var [.bool nd.index,.bool nd.typ,.i nd.terms,.i nd.forms,.i nd.args,.i (fvK p.kind),.i (vaK p.kind),.i (hyK p.kind)]),(7,.var [.i p.kind,.i p.index,.i p.ty.kind,.s .ty p.ty.args,.slice (.own 8) (.t .tm (p.terms.map fun t=>t.lw (fr+v) by_)),.slice (.own 9) (.t .fm ((p.forms.take m).map fun f=>f.lw (fr+(v+fvK p.kind)) by_)),.slice .nil (.t .pf [])]),(8,.row),(9,.row)]⟩))
    (by omega) (fun m=>rfl) (fun m=>rfl) rfl trivial (M.W [some 0,some 1,some 2,some 3,some 4,some 5,some 6,some 7,some 8,none]) ?_ ?_
   ·intro m hm _
    have hs2:=lsum_mem Fm.full (List.getElem_mem hm)
    have hc:=lwCb2 fr by_ (by omega) p.forms[m] (v+fvK p.kind) (by omega) (by omega)
    repeat'(first|refine M.gw ?_|refine M.cv (hc) [0,1] 0 ?_|fail)
    exact⟨rfl,trivial,(M.W [some 0,some 1,some 2,some 3,some 4,some 5,some 6,some 7,some 8,some 11] (he:=(by(repeat'(first|exact trivial|exact Or.inr ⟨_,U,rfl⟩|refine And.intro ?_ ?_|refine⟨_,U,_,U,_,U,?_⟩|exact VLe.refl _|exact VLe.of_eq (by simp[Sto.upd,map_take _ _ _ hm])));done)))⟩
   ·intro _
    simp only[List.take_length]
    repeat'(first|refine M.gw ?_|fail)
    refine AW.range p.args.length (fun m=>True)
     (fun m=>([(3,.ptr 2 0),(4,.ptr 3 0),(5,.ptr 4 0),(6,.ptr 5 0),(7,.ptr 6 0),(9,.ptr 7 0),(105,.s .pf p.args),(106,.i p.args.length),(107,.i m)],⟨11,[(0,.var [.i fr]),(1,.var [.i by_]),(2,.var p.view),(3,.var [.i v,.i y]),(4,.var [.fn (.func 192) [] [.ptr 0 0,.ptr 1 0],.fn (.func 193) [] [.ptr 0 0,.ptr 1 0],.nilf]),(5,.var [.i 0,.i 0,.i 0,.slice .nil (.t .ty []),.slice .nil (.t .tm []),.slice .nil (.t .fm []),.slice .nil (.t .pf [])]),(6,.var [.bool nd.index,.bool nd.typ,.i nd.terms,.i nd.forms,.i nd.args,.i (fvK p.kind),.i (vaK p.kind),.i (hyK p.kind)]),(7,.var [.i p.kind,.i p.index,.i p.ty.kind,.s .ty p.ty.args,.slice (.own 8) (.t .tm (p.terms.map fun t=>t.lw (fr+v) by_)),.slice (.own 9) (.t .fm (p.forms.map fun f=>f.lw (fr+(v+fvK p.kind)) by_)),.slice (.own 10) (.t .pf ((Pf.uws fr by_ v (vaK p.kind) p.args).take m))]),(8,.row),(9,.row),(10,.row)]⟩))
     (by omega) (fun m=>rfl) (fun m=>rfl) rfl trivial (M.W [some 0,some 1,some 2,some 3,some 4,some 5,some 6,some 7,some 8,some 9,none]) ?_ ?_
    ·intro m hm _
     have hs2:=lsum_mem Pf.full (List.getElem_mem hm)
     have hb:=hpl m (by omega)
     have hc:=ih p.args[m] (if m+1=p.args.length then v+vaK p.kind else v) (if(m:Int)=(nd.args:Int)-1 then y+hyK p.kind else y) (by omega) (by omega) (by split<;>omega) (by split<;>omega) (hpf _ (List.getElem_mem hm))
     have ev:(if(m:Int)=(nd.args:Int)-1 then v+vaK p.kind else v)=(if m+1=p.args.length then v+vaK p.kind else v):=by
      by_cases hx:m+1=p.args.length
      ·rw [if_pos hx,if_pos (by omega)]
      ·rw [if_neg hx,if_neg (by omega)]
     rw[ev] at hb
     repeat'(first|refine M.gw ?_|refine M.c2 (hb) ?_|refine M.cv (hc) [0,1] 0 ?_|fail)
     exact⟨rfl,trivial,(M.W [some 0,some 1,some 2,some 3,some 4,some 5,some 6,some 7,some 8,some 9,some 12] (he:=(by(repeat'(first|exact trivial|exact Or.inr ⟨_,U,rfl⟩|refine And.intro ?_ ?_|refine⟨_,U,_,U,_,U,?_⟩|exact VLe.refl _|exact VLe.of_eq (by simp[Sto.upd,uws_take hm])));done)))⟩
    ·intro _
     simp only[uws_all]
     repeat'(first|refine M.gw ?_|fail)
     rw[hre]
     (exact M.n2 [some 0,some 1] (h8:=(by simp[tupV,V.wk,V.wks,constV,Ty.view,Tm.view,hre])))
theorem lwPf_c(p:Pf)(fr by_:Int)(hfr:0≤fr∧fr<10000000000)(hp:p.full<5000000000)(hs:p.nd):PC E 163 [.agg p.view,.i fr,.i by_] (.agg (p.uw fr by_ 0).view):=by
 have hc:=lwPfRe fr by_ hfr _ p 0 0 (Nat.le_refl _) (by omega) (by omega) (by omega) hs
 refine M.F Tryz.func163 ?_
 repeat'(first|refine M.gw ?_|refine M.cv (hc) [1,2] 0 ?_|fail)
 simp[tupV,V.wk,V.wks,constV,Ty.view,Tm.view]
theorem hwCb(fr by_:Int)(i v y:Int)(p:Pf):
 AC E 191 [.agg p.view,.agg [.i v,.i y],.ptr 0 0,.ptr 1 0] ⟨2,[(0,.var [.i fr]),(1,.var [.i by_])]⟩ (.agg (hypP (if IntKind.i64.wrap (p.index-y)≥fr then IntKind.i64.wrap (p.index+by_) else p.index)).view) ⟨2,[(0,.var [.i fr]),(1,.var [.i by_])]⟩:=by
 have h1:=hyp_c (IntKind.i64.wrap (p.index+by_))
 have h2:=hyp_c p.index
 by_cases h0:IntKind.i64.wrap (p.index-y)≥fr
 ·rw [if_pos h0]
  refine M.F Tryz.func191 ?_
  repeat'(first|refine M.gw ?_|refine M.c2 (h1) ?_|refine M.c2 (h2) ?_|refine AW.condS U (fun h=> ?_) (fun h=> ?_)|fail)
  ·(exact M.n2 [some 0,some 1] (h8:=(by simp[tupV,V.wk,V.wks,constV,Ty.view,Tm.view,Pf.view,hypP])))
  ·exfalso;simp at h;omega
 ·rw [if_neg h0]
  refine M.F Tryz.func191 ?_
  repeat'(first|refine M.gw ?_|refine M.c2 (h1) ?_|refine M.c2 (h2) ?_|refine AW.condS U (fun h=> ?_) (fun h=> ?_)|fail)
  ·exfalso;simp at h;omega
  ·(exact M.n2 [some 0,some 1] (h8:=(by simp[tupV,V.wk,V.wks,constV,Ty.view,Tm.view,Pf.view,hypP])))
theorem hwPfRe(fr by_:Int):∀(n:Nat) (p:Pf) (v y:Int),p.full≤n→n<10000000000→(0≤v∧v+2*n≤50000000000)→(0≤y∧y+2*n≤50000000000)→p.nd→
 AC E 186 [.agg p.view,.agg [.i v,.i y],.agg [.nilf,.nilf,.fn (.func 191) [] [.ptr 0 0,.ptr 1 0]]] ⟨2,[(0,.var [.i fr]),(1,.var [.i by_])]⟩ (.agg (p.hw fr by_ y).view) ⟨2,[(0,.var [.i fr]),(1,.var [.i by_])]⟩:=by
 intro n
 induction n with
 |zero=>intro p v y hz;have:=p.full_pos;omega
 |succ n ih=>
 intro p v y hz hn hv hh hs
 have hre:=p.hw_eq fr by_ y
 by_cases hk:p.kind=1
 ·rw [if_pos hk] at hre
  rw[hre]
  have hc:=hwCb fr by_ 0 v y p
  refine M.F Tryz.func186 ?_
  repeat'(first|refine M.go ?_|refine M.cv (hc) [0,1] 0 ?_|((fail_if_success refine AX.wt U ?_);refine AX.gs U U (fun _=>trivial) (fun h=> ?_) (fun h=> ?_))|((with_reducible refine D.aw ?_);(fail_if_success with_reducible refine D.stopR (id:=3) ?_);(fail_if_success with_reducible refine D.stopS (id:=3) ?_);first|refine M.ga ?_)|refine M.gk ?_|fail)
  all_goals first
   |(exfalso;simp at h;omega)
   |(exfalso;simp_all;done)
   |(exact M.n2 [some 0,some 1] (h8:=(by simp[tupV,V.wk,V.wks,constV,Ty.view,Tm.view,Pf.view,hypP])))
   |trace_state
 rw[if_neg hk] at hre
 have hsz':=p.full_eq
 have hlen:=lsum_len Pf.full Pf.full_pos p.args
 have hlen1:=lsum_len Fm.full Fm.full_pos p.forms
 have hlen2:=lsum_len Tm.full Tm.full_pos p.terms
 have hty:=ownTy_c _ p.ty (Nat.le_refl _) (by omega)
 have hru:=ruleOf_c p.kind
 obtain⟨⟨nd,n1,n4⟩,hpf⟩:=(Pf.nd_iff p).1 hs
 have hal:p.args.length≤2:=by
  rw[n4]
  unfold ndP at n1
  repeat(split at n1;· cases n1;decide)
  cases n1
 have hpl:=fun(m:Nat) (hm:m≤1000000)=>placeBelow_c p.kind v y nd n1 m hm (by omega) (by omega)
 have e2:ruC p.kind=[.bool nd.index,.bool nd.typ,.i nd.terms,.i nd.forms,.i nd.args,.i (fvK p.kind),.i (vaK p.kind),.i (hyK p.kind)]:=by unfold ruC;rw[n1]
 have b1:0≤vaK p.kind∧vaK p.kind≤2:=by unfold vaK;split<;>(try split)<;>omega
 have b2:0≤hyK p.kind∧hyK p.kind≤1:=by unfold hyK;split<;>omega
 have b3:0≤fvK p.kind∧fvK p.kind≤1:=by unfold fvK;split<;>omega
 rw[n1] at hru
 simp only[Option.isSome_some] at hru
 rw[e2] at hru
 simp only[e2] at hpl
 refine M.F Tryz.func186 ?_
 repeat'(first|refine M.go ?_|refine M.c2 (hru) ?_|refine M.c2 (hty) ?_|((fail_if_success refine AX.wt U ?_);refine AX.gs U U (fun _=>trivial) (fun h=> ?_) (fun h=> ?_))|((with_reducible refine D.aw ?_);(fail_if_success with_reducible refine D.stopR (id:=5) ?_);(fail_if_success with_reducible refine D.stopS (id:=5) ?_);first|refine M.ga ?_)|refine M.gk ?_|fail)
 all_goals first
  |(exfalso;simp at h;omega)
  |skip
 repeat'(first|refine M.gw ?_|fail)
 all_goals
  refine AW.range p.terms.length (fun m=>True)
   (fun m=>([(3,.ptr 2 0),(4,.ptr 3 0),(5,.ptr 4 0),(6,.ptr 5 0),(7,.ptr 6 0),(9,.ptr 7 0),(44,.s .tm p.terms),(45,.i p.terms.length),(46,.i m)],⟨9,[(0,.var [.i fr]),(1,.var [.i by_]),(2,.var p.view),(3,.var [.i v,.i y]),(4,.var [.nilf,.nilf,.fn (.func 191) [] [.ptr 0 0,.ptr 1 0]]),(5,.var [.i 0,.i 0,.i 0,.slice .nil (.t .ty []),.slice .nil (.t .tm []),.slice .nil (.t .fm []),.slice .nil (.t .pf [])]),(6,.var [.bool nd.index,.bool nd.typ,.i nd.terms,.i nd.forms,.i nd.args,.i (fvK p.kind),.i (vaK p.kind),.i (hyK p.kind)]),(7,.var [.i p.kind,.i p.index,.i p.ty.kind,.s .ty p.ty.args,.slice (.own 8) (.t .tm (p.terms.take m)),.slice .nil (.t .fm []),.slice .nil (.t .pf [])]),(8,.row)]⟩))
   (by omega) (fun m=>rfl) (fun m=>rfl) rfl trivial (M.W [some 0,some 1,some 2,some 3,some 4,some 5,some 6,some 7,none]) ?_ ?_
  ·intro m hm _
   have hs2:=lsum_mem Tm.full (List.getElem_mem hm)
   have hc:=ownTm_c _ p.terms[m] (Nat.le_refl _) (by omega)
   repeat'(first|refine M.gw ?_|refine M.c2 (hc) ?_|fail)
   exact⟨rfl,trivial,(M.W [some 0,some 1,some 2,some 3,some 4,some 5,some 6,some 7,some 10] (he:=(by(repeat'(first|exact trivial|exact Or.inr ⟨_,U,rfl⟩|refine And.intro ?_ ?_|refine⟨_,U,_,U,_,U,?_⟩|exact VLe.refl _|exact VLe.of_eq (by simp[Sto.upd,List.take_append_getElem])));done)))⟩
  ·intro _
   simp only[List.take_length]
   repeat'(first|refine M.gw ?_|fail)
   refine AW.range p.forms.length (fun m=>True)
    (fun m=>([(3,.ptr 2 0),(4,.ptr 3 0),(5,.ptr 4 0),(6,.ptr 5 0),(7,.ptr 6 0),(9,.ptr 7 0),(73,.s .fm p.forms),(74,.i p.forms.length),(75,.i m)],⟨10,[(0,.var [.i fr]),(1,.var [.i by_]),(2,.var p.view),(3,.var [.i v,.i y]),(4,.var [.nilf,.nilf,.fn (.func 191) [] [.ptr 0 0,.ptr 1 0]]),(5,.var [.i 0,.i 0,.i 0,.slice .nil (.t .ty []),.slice .nil (.t .tm []),.slice .nil (.t .fm []),.slice .nil (.t .pf [])]),(6,.var [.bool nd.index,.bool nd.typ,.i nd.terms,.i nd.forms,.i nd.args,.i (fvK p.kind),.i (vaK p.kind),.i (hyK p.kind)]),(7,.var [.i p.kind,.i p.index,.i p.ty.kind,.s .ty p.ty.args,.slice (.own 8) (.t .tm (p.terms)),.slice (.own 9) (.t .fm (p.forms.take m)),.slice .nil (.t .pf [])]),(8,.row),(9,.row)]⟩))
    (by omega) (fun m=>rfl) (fun m=>rfl) rfl trivial (M.W [some 0,some 1,some 2,some 3,some 4,some 5,some 6,some 7,some 8,none]) ?_ ?_
   ·intro m hm _
    have hs2:=lsum_mem Fm.full (List.getElem_mem hm)
    have hc:=ownFm_c p.forms[m] (by omega)
    repeat'(first|refine M.gw ?_|refine M.c2 (hc) ?_|fail)
    exact⟨rfl,trivial,(M.W [some 0,some 1,some 2,some 3,some 4,some 5,some 6,some 7,some 8,some 11] (he:=(by(repeat'(first|exact trivial|exact Or.inr ⟨_,U,rfl⟩|refine And.intro ?_ ?_|refine⟨_,U,_,U,_,U,?_⟩|exact VLe.refl _|exact VLe.of_eq (by simp[Sto.upd,List.take_append_getElem])));done)))⟩
   ·intro _
    simp only[List.take_length]
    repeat'(first|refine M.gw ?_|fail)
    refine AW.range p.args.length (fun m=>True)
     (fun m=>([(3,.ptr 2 0),(4,.ptr 3 0),(5,.ptr 4 0),(6,.ptr 5 0),(7,.ptr 6 0),(9,.ptr 7 0),(105,.s .pf p.args),(106,.i p.args.length),(107,.i m)],⟨11,[(0,.var [.i fr]),(1,.var [.i by_]),(2,.var p.view),(3,.var [.i v,.i y]),(4,.var [.nilf,.nilf,.fn (.func 191) [] [.ptr 0 0,.ptr 1 0]]),(5,.var [.i 0,.i 0,.i 0,.slice .nil (.t .ty []),.slice .nil (.t .tm []),.slice .nil (.t .fm []),.slice .nil (.t .pf [])]),(6,.var [.bool nd.index,.bool nd.typ,.i nd.terms,.i nd.forms,.i nd.args,.i (fvK p.kind),.i (vaK p.kind),.i (hyK p.kind)]),(7,.var [.i p.kind,.i p.index,.i p.ty.kind,.s .ty p.ty.args,.slice (.own 8) (.t .tm (p.terms)),.slice (.own 9) (.t .fm (p.forms)),.slice (.own 10) (.t .pf ((Pf.hws fr by_ y (hyK p.kind) p.args).take m))]),(8,.row),(9,.row),(10,.row)]⟩))
     (by omega) (fun m=>rfl) (fun m=>rfl) rfl trivial (M.W [some 0,some 1,some 2,some 3,some 4,some 5,some 6,some 7,some 8,some 9,none]) ?_ ?_
    ·intro m hm _
     have hs2:=lsum_mem Pf.full (List.getElem_mem hm)
     have hb:=hpl m (by omega)
     have hc:=ih p.args[m] (if(m:Int)=(nd.args:Int)-1 then v+vaK p.kind else v) (if m+1=p.args.length then y+hyK p.kind else y) (by omega) (by omega) (by split<;>omega) (by split<;>omega) (hpf _ (List.getElem_mem hm))
     have ev:(if(m:Int)=(nd.args:Int)-1 then y+hyK p.kind else y)=(if m+1=p.args.length then y+hyK p.kind else y):=by
      by_cases hx:m+1=p.args.length
      ·rw [if_pos hx,if_pos (by omega)]
      ·rw [if_neg hx,if_neg (by omega)]
     rw[ev] at hb
     repeat'(first|refine M.gw ?_|refine M.c2 (hb) ?_|refine M.cv (hc) [0,1] 0 ?_|fail)
     exact⟨rfl,trivial,(M.W [some 0,some 1,some 2,some 3,some 4,some 5,some 6,some 7,some 8,some 9,some 12] (he:=(by(repeat'(first|exact trivial|exact Or.inr ⟨_,U,rfl⟩|refine And.intro ?_ ?_|refine⟨_,U,_,U,_,U,?_⟩|exact VLe.refl _|exact VLe.of_eq (by simp[Sto.upd,hws_take hm])));done)))⟩
    ·intro _
     simp only[hws_all]
     repeat'(first|refine M.gw ?_|fail)
     rw[hre]
     (exact M.n2 [some 0,some 1] (h8:=(by simp[tupV,V.wk,V.wks,constV,Ty.view,Tm.view,hre])))
theorem hwPf_c(p:Pf)(fr by_:Int)(hp:p.full<5000000000)(hs:p.nd):PC E 162 [.agg p.view,.i fr,.i by_] (.agg (p.hw fr by_ 0).view):=by
 have hc:=hwPfRe fr by_ _ p 0 0 (Nat.le_refl _) (by omega) (by omega) (by omega) hs
 refine M.F Tryz.func162 ?_
 repeat'(first|refine M.gw ?_|refine M.cv (hc) [1,2] 0 ?_|fail)
 simp[tupV,V.wk,V.wks,constV,Ty.view,Tm.view]
theorem uphP_c(p:Pf)(vars hyps:Int)(hp:p.full<5000000000)(hs:p.nd):PC E 103 [.agg p.view,.i vars,.i hyps] (.agg (p.uph vars hyps).view):=by
 have h1:=lwPf_c p 0 vars (by omega) hp hs
 have hq:=uw_full 0 vars p 0
 have h2:=hwPf_c (p.uw 0 vars 0) 0 hyps (by omega) (nd_uw 0 vars p hs 0)
 unfold Pf.uph
 refine M.F Tryz.func103 ?_
 repeat'(first|refine M.gw ?_|refine M.c2 (h1) ?_|refine M.c2 (h2) ?_|fail)
 rfl
theorem exfP_full{a p:Pf}:(exfP a p).full=4+falseF.full+a.full+p.full:=by
 simp only[exfP,pf_full1,no_size,List.map_cons,List.map_nil,List.sum_cons,List.sum_nil];omega
theorem tequation_c(a b:Tm):PC E 49 [.agg a.view,.agg b.view] (.agg (eqF a b).view):=by
 refine M.F Tryz.func49 ?_
 repeat'(first|refine M.gw ?_|fail)
 rfl
theorem tfalse_c:PC E 113 [] (.agg falseF.view):=by
 have h1:=tof_c 4 []
 have h2:=tof_c 5 [.mk 4 0 (.mk 0 []) []]
 have h3:=tequation_c (.mk 4 0 (.mk 0 []) []) (.mk 5 0 (.mk 0 []) [.mk 4 0 (.mk 0 []) []])
 refine M.F Tryz.func113 ?_
 repeat'(first|refine M.gw ?_|refine M.c2 (h1) ?_|refine M.c2 (h2) ?_|refine M.c2 (h3) ?_|fail)
 rfl
theorem ffalse_c:PC E 117 [] (.agg falseF.view):=by
 refine M.F Tryz.func117 ?_
 repeat'(first|refine M.gw ?_|refine M.c2 (tfalse_c) ?_|fail)
 rfl
theorem form_c(k:Int)(l:List Fm):PC E 107 [.i k,.s .fm l] (.agg (Fm.mk k (.mk 0 []) [] l).view):=by
 refine M.F Tryz.func107 ?_
 repeat'(first|refine M.gw ?_|fail)
 rfl
theorem quantified_c(k:Int)(t:Ty)(f:Fm):PC E 72 [.i k,.agg t.view,.agg f.view] (.agg (Fm.mk k t [] [f]).view):=by
 refine M.F Tryz.func72 ?_
 repeat'(first|refine M.gw ?_|fail)
 rfl
theorem sized_c(f:Fm)(hf:f.full<137438953472):PC E 118 [.agg f.view] (.tup [.agg (if f.err=0 then f else noFm).view,.i f.err]):=by
 have h1:=fcheck_c f (by omega)
 refine M.F Tryz.func118 ?_
 repeat'(first|refine M.gw ?_|refine M.c2 (h1) ?_|refine AW.condS U (fun h=> ?_) (fun h=> ?_)|fail)
 ·have e:¬f.err=0:=by simpa using h
  simp[tupV,V.wk,V.wks,constV,Ty.view,Fm.view,e,noFm]
 ·have e:f.err=0:=by simpa using h
  simp[tupV,V.wk,V.wks,constV,Ty.view,Fm.view,e,noFm]
theorem orZero_c:PC E 115 [] (.agg zeroF.view):=by
 have h1:=tvar_c 0
 have h2:=tof_c 4 []
 have h3:=tequation_c (.mk 1 0 (.mk 0 []) []) (.mk 4 0 (.mk 0 []) [])
 refine M.F Tryz.func115 ?_
 repeat'(first|refine M.gw ?_|refine M.c2 (h1) ?_|refine M.c2 (h2) ?_|refine M.c2 (h3) ?_|fail)
 rfl
theorem or_c(a b:Fm)(ha:liftFErr a 0 1=0)(hb:liftFErr b 0 1=0)(fa:a.full<34359738368)(fb:b.full<34359738368)(fl:(a.lft 0 1).full≤a.full)(fl':(b.lft 0 1).full≤b.full):PC E 56 [.agg a.view,.agg b.view] (.tup [.agg (if(orF (a.lft 0 1) (b.lft 0 1)).err=0 then orF (a.lft 0 1) (b.lft 0 1) else noFm).view,.i (orF (a.lft 0 1) (b.lft 0 1)).err]):=by
 have h1:=fLift_c a 0 1 (by omega)
 have h2:=fLift_c b 0 1 (by omega)
 rw[ha,if_pos rfl] at h1
 rw[hb,if_pos rfl] at h2
 generalize a.lft 0 1=x at*
 generalize b.lft 0 1=y at*
 have h3:=form_c 3 [zeroF,x]
 have h4:=form_c 3 [zeroF,falseF]
 have h5:=form_c 3 [.mk 3 (.mk 0 []) [] [zeroF,falseF],y]
 have h6:=form_c 2 [.mk 3 (.mk 0 []) [] [zeroF,x],.mk 3 (.mk 0 []) [] [.mk 3 (.mk 0 []) [] [zeroF,falseF],y]]
 have h7:=quantified_c 5 natT (.mk 2 (.mk 0 []) [] [.mk 3 (.mk 0 []) [] [zeroF,x],.mk 3 (.mk 0 []) [] [.mk 3 (.mk 0 []) [] [zeroF,falseF],y]])
 have h8:=sized_c (orF x y) (by simp[orF,zeroF,natT,falseF,eqF,Fm.full,Fm.fulls,Tm.fulls,Tm.full,Ty.size,Ty.sizes];omega)
 refine M.F Tryz.func56 ?_
 repeat'(first|refine M.gw ?_|refine M.c2 (h1) ?_|refine M.c2 (h2) ?_|refine M.cv (orZero_c) [] 0 ?_|refine M.c2 (ffalse_c) ?_|refine M.c2 (h3) ?_|refine M.c2 (h4) ?_|refine M.c2 (h5) ?_|refine M.c2 (h6) ?_|refine M.c2 (tnat_c) ?_|refine M.c2 (h7) ?_|refine M.c2 (h8) ?_|fail)
 rfl
theorem isZero_c(t:Tm):PC E 108 [.agg t.view] (.agg (eqF t zT).view):=by
 have h1:=dzero_c
 have h2:=deq_c t zT
 refine M.F Tryz.func108 ?_
 repeat'(first|refine M.gw ?_|refine M.c2 (h1) ?_|refine M.c2 (h2) ?_|fail)
 rfl
theorem dnot_c(f:Fm):PC E 52 [.agg f.view] (.agg (notF f).view):=by
 have h1:=tfalse2_c
 have h2:=form_c 3 [f,falseF]
 obtain⟨k,s,ts,zs⟩:=f
 refine M.F Tryz.func52 ?_
 repeat'(first|refine M.gw ?_|refine M.c2 (h1) ?_|refine M.c2 (h2) ?_|fail)
 rfl
theorem upW_c(t:Tm)(by_:Int)(ht:t.full<274877906944):PC E 100 [.agg t.view,.i by_] (.agg (t.lw 0 by_).view):=by
 have h1:=lw_c t 0 by_ ht
 generalize t.lw 0 by_=x at*
 refine M.F Tryz.func100 ?_
 repeat'(first|refine M.gw ?_|refine M.c2 (h1) ?_|fail)
 rfl
theorem upFmW_c(f:Fm)(by_:Int)(hf:f.full<137438953472):PC E 109 [.agg f.view,.i by_] (.agg (f.lw 0 by_).view):=by
 have h1:=lwFm_c f 0 by_ (by omega) hf
 generalize f.lw 0 by_=x at*
 refine M.F Tryz.func109 ?_
 repeat'(first|refine M.gw ?_|refine M.c2 (h1) ?_|fail)
 rfl
theorem symW_c(s:Tm)(p:Pf)(hs:s.full<274877906944):PC E 70 [.agg s.view,.agg p.view] (.agg (symW s p).view):=by
 have h1:=tvar_c 0
 have h2:=upW_c s 1 hs
 unfold symW
 generalize s.lw 0 1=x at*
 have h3:=deq_c (vT 0) x
 have h4:=drefl_c s
 have h5:=dsubst_c (eqF (vT 0) x) p (reflP s)
 refine M.F Tryz.func70 ?_
 repeat'(first|refine M.gw ?_|refine M.c2 (h1) ?_|refine M.c2 (h2) ?_|refine M.c2 (h3) ?_|refine M.c2 (h4) ?_|refine M.c2 (h5) ?_|fail)
 rfl
theorem cong1W_c(g t:Tm)(hg:g.full<274877906944):
 AC E 120 [.agg t.view,.ptr 0 0] ⟨1,[(0,.var g.view)]⟩ (.agg (apT (g.lw 0 1) t).view) ⟨1,[(0,.var g.view)]⟩:=by
 have h1:=upW_c g 1 hg
 generalize g.lw 0 1=x at*
 have h2:PC E 121 [.agg x.view,.s .tm [t]] (.agg (apT x t).view):=tapp_c x [t] (by simp)
 refine M.F Tryz.func120 ?_
 repeat'(first|refine M.gw ?_|refine M.c2 (h1) ?_|refine M.c2 (h2) ?_|fail)
 (exact M.n2 [some 0] (h8:=(by simp[tupV,V.wk,V.wks,constV,Ty.view,Tm.view,V.frz])))
theorem congW_c(g s:Tm)(p:Pf)(hg:g.full<274877906944)(hs:s.full<274877906944):
 PC E 65 [.agg g.view,.agg s.view,.agg p.view] (.agg (congW g s p).view):=by
 have h1:=upW_c s 1 hs
 have c1:=cong1W_c g (s.lw 0 1) hg
 have c2:=cong1W_c g (vT 0) hg
 unfold congW
 generalize s.lw 0 1=x at*
 generalize g.lw 0 1=y at*
 have h3:=tvar_c 0
 have h4:=deq_c (apT y x) (apT y (vT 0))
 have h5:PC E 121 [.agg g.view,.s .tm [s]] (.agg (apT g s).view):=tapp_c g [s] (by simp)
 have h6:=drefl_c (apT g s)
 have h7:=dsubst_c (eqF (apT y x) (apT y (vT 0))) p (reflP (apT g s))
 refine M.F Tryz.func65 ?_
 repeat'(first|refine M.gw ?_|refine M.c2 (h1) ?_|(apply L.cvr (c1) [0] rfl;rfl;rfl;rfl;rfl;rfl;rfl;rfl;(focus((repeat'(first|exact trivial|refine And.intro ?_ ?_|refine⟨_,U,_,U,_,U,?_⟩|exact VLe.refl _));done));rfl;rfl;rfl;rfl;rfl)|refine M.c2 (h3) ?_|(apply L.cvr (c2) [0] rfl;rfl;rfl;rfl;rfl;rfl;rfl;rfl;(focus((repeat'(first|exact trivial|refine And.intro ?_ ?_|refine⟨_,U,_,U,_,U,?_⟩|exact VLe.refl _));done));rfl;rfl;rfl;rfl;rfl)|refine M.c2 (h4) ?_|refine M.c2 (h5) ?_|refine M.c2 (h6) ?_|refine M.c2 (h7) ?_|fail)
 all_goals first
  |rfl
  |trace_state
theorem injW_c(s:Tm)(p:Pf)(hs:s.full<274877906944):PC E 68 [.agg s.view,.agg p.view] (.agg (injW s p).view):=by
 have h1:=upW_c s 1 hs
 unfold injW
 generalize s.lw 0 1=x at*
 have h2:=vpred_c
 have h3:=tvar_c 0
 have h4:=tapp_c predT [vT 0] (by simp)
 have h5:=deq_c x (apT predT (vT 0))
 have h6:=drefl_c s
 have h7:=dsubst_c (eqF x (apT predT (vT 0))) p (reflP s)
 refine M.F Tryz.func68 ?_
 repeat'(first|refine M.gw ?_|refine M.c2 (h1) ?_|refine M.c2 (h2) ?_|refine M.c2 (h3) ?_|refine M.c2 (h4) ?_|refine M.c2 (h5) ?_|refine M.c2 (h6) ?_|refine M.c2 (h7) ?_|fail)
 rfl
theorem eitherW_c(s t n:Tm)(ht:t.full<274877906944):PC E 119 [.agg s.view,.agg t.view,.agg n.view] (.agg (eitherW s t n).view):=by
 have h1:=tnat_c
 have h2:=upW_c t 2 ht
 unfold eitherW
 generalize t.lw 0 2=x at*
 have h3:=tlam_c x [natT,natT] (by simp)
 have h4:=dtrec_c 6 natT s (lmT natT (lmT natT x)) n
 refine M.F Tryz.func119 ?_
 repeat'(first|refine M.gw ?_|refine M.c2 (h1) ?_|refine M.c2 (h2) ?_|refine M.c2 (h3) ?_|refine M.c2 (h4) ?_|fail)
 rfl
theorem symW_full(s:Tm)(p:Pf):(symW s p).full≤20+2*s.full+p.full:=by
 have:=lw_full s 0 1
 rw[symW,sub_full,eqf_fl,refl_fl,vT_full];omega
theorem transW_full(s:Tm)(p q:Pf):(transW s p q).full≤20+s.full+p.full+q.full:=by
 have:=lw_full s 0 1
 rw[transW,sub_full,eqf_fl,vT_full];omega
theorem congW_full(g s:Tm)(p:Pf):(congW g s p).full≤50+3*g.full+2*s.full+p.full:=by
 have:=lw_full s 0 1
 have:=lw_full g 0 1
 rw[congW,sub_full,eqf_fl,refl_fl,ap_full,ap_full,ap_full,vT_full];omega
theorem injW_full(s:Tm)(p:Pf):(injW s p).full≤200+2*s.full+p.full:=by
 have:=lw_full s 0 1
 have:predT.full≤100:=by decide
 rw[injW,sub_full,eqf_fl,refl_fl,ap_full,vT_full];omega
theorem absP_full(p:Pf):(absurdP p).full≤400+p.full:=by
 have:(eqF zT (eitherT zT (sT zT) (vT 0))).full≤100:=by decide
 have:(reflP zT).full≤100:=by decide
 rw[absurdP,sub_full];omega
theorem dSymW_c(s:Tm)(t:Tm)(p:Pf)(hs:s.full<50000000000)(ht:t.full<50000000000)(hp:p.full<50000000000):PC E 32 [.agg s.view,.agg t.view,.agg p.view] (.tup [.agg (derR [.tm s,.tm t,.pf p] (symW s p)).1.view,.i (derR [.tm s,.tm t,.pf p] (symW s p)).2]):=by
 have h1:=chk_c [.tm s,.tm t,.pf p] (by simp) (by simp only[List.mem_cons,List.not_mem_nil,or_false];rintro x (rfl|rfl|rfl)<;>simp only[Ch.full]<;>omega)
 unfold derR
 unfold chV at h1
 by_cases e:firstI Ch.err [.tm s,.tm t,.pf p]=0
 case neg=>
  rw[if_pos e]
  refine M.F Tryz.func32 ?_
  repeat'(first|refine M.go ?_|refine M.c2 (h1) ?_|((with_reducible refine D.aw ?_);(fail_if_success with_reducible refine D.stopR (id:=4) ?_);(fail_if_success with_reducible refine D.stopS (id:=4) ?_);first|refine M.ga ?_|refine AW.condS U (fun h=> ?_) (fun h=> ?_))|refine M.gk ?_|fail)
  all_goals first
   |rfl
   |(exfalso;simp at h;exact e h)
   |trace_state
 rw[if_neg (by simp[e])]
 rw[e] at h1
 have h2:=symW_c s p (by omega)
 have h9:=ddone_c (symW s p) (by have:=symW_full s p;omega)
 generalize symW s p=P at*
 refine M.F Tryz.func32 ?_
 repeat'(first|refine M.gw ?_|refine M.c2 (h1) ?_|refine M.c2 (h2) ?_|refine M.c2 (h9) ?_|fail)
 all_goals first
  |rfl
  |trace_state
theorem dTransW_c(s:Tm)(t:Tm)(u:Tm)(p:Pf)(q:Pf)(hs:s.full<50000000000)(ht:t.full<50000000000)(hu:u.full<50000000000)(hp:p.full<50000000000)(hq:q.full<50000000000):PC E 33 [.agg s.view,.agg t.view,.agg u.view,.agg p.view,.agg q.view] (.tup [.agg (derR [.tm s,.tm t,.tm u,.pf p,.pf q] (transW s p q)).1.view,.i (derR [.tm s,.tm t,.tm u,.pf p,.pf q] (transW s p q)).2]):=by
 have h1:=chk_c [.tm s,.tm t,.tm u,.pf p,.pf q] (by simp) (by simp only[List.mem_cons,List.not_mem_nil,or_false];rintro x (rfl|rfl|rfl|rfl|rfl)<;>simp only[Ch.full]<;>omega)
 unfold derR
 unfold chV at h1
 by_cases e:firstI Ch.err [.tm s,.tm t,.tm u,.pf p,.pf q]=0
 case neg=>
  rw[if_pos e]
  refine M.F Tryz.func33 ?_
  repeat'(first|refine M.go ?_|refine M.c2 (h1) ?_|((with_reducible refine D.aw ?_);(fail_if_success with_reducible refine D.stopR (id:=4) ?_);(fail_if_success with_reducible refine D.stopS (id:=4) ?_);first|refine M.ga ?_|refine AW.condS U (fun h=> ?_) (fun h=> ?_))|refine M.gk ?_|fail)
  all_goals first
   |rfl
   |(exfalso;simp at h;exact e h)
   |trace_state
 rw[if_neg (by simp[e])]
 rw[e] at h1
 have h2:=upW_c s 1 (by omega)
 have h3:=tvar_c 0
 have h4:=deq_c (s.lw 0 1) (vT 0)
 have h5:=dsubst_c (eqF (s.lw 0 1) (vT 0)) q p
 have h9:=ddone_c (transW s p q) (by have:=transW_full s p q;omega)
 unfold transW at h9 ⊢
 generalize s.lw 0 1=y at*
 refine M.F Tryz.func33 ?_
 repeat'(first|refine M.gw ?_|refine M.c2 (h1) ?_|refine M.c2 (h2) ?_|refine M.c2 (h3) ?_|refine M.c2 (h4) ?_|refine M.c2 (h5) ?_|refine M.c2 (h9) ?_|fail)
 all_goals first
  |rfl
  |trace_state
theorem dCongW_c(g:Tm)(s:Tm)(t:Tm)(p:Pf)(hg:g.full<30000000000)(hs:s.full<30000000000)(ht:t.full<30000000000)(hp:p.full<30000000000):PC E 34 [.agg g.view,.agg s.view,.agg t.view,.agg p.view] (.tup [.agg (derR [.tm g,.tm s,.tm t,.pf p] (congW g s p)).1.view,.i (derR [.tm g,.tm s,.tm t,.pf p] (congW g s p)).2]):=by
 have h1:=chk_c [.tm g,.tm s,.tm t,.pf p] (by simp) (by simp only[List.mem_cons,List.not_mem_nil,or_false];rintro x (rfl|rfl|rfl|rfl)<;>simp only[Ch.full]<;>omega)
 unfold derR
 unfold chV at h1
 by_cases e:firstI Ch.err [.tm g,.tm s,.tm t,.pf p]=0
 case neg=>
  rw[if_pos e]
  refine M.F Tryz.func34 ?_
  repeat'(first|refine M.go ?_|refine M.c2 (h1) ?_|((with_reducible refine D.aw ?_);(fail_if_success with_reducible refine D.stopR (id:=4) ?_);(fail_if_success with_reducible refine D.stopS (id:=4) ?_);first|refine M.ga ?_|refine AW.condS U (fun h=> ?_) (fun h=> ?_))|refine M.gk ?_|fail)
  all_goals first
   |rfl
   |(exfalso;simp at h;exact e h)
   |trace_state
 rw[if_neg (by simp[e])]
 rw[e] at h1
 have h2:=congW_c g s p (by omega) (by omega)
 have h9:=ddone_c (congW g s p) (by have:=congW_full g s p;omega)
 generalize congW g s p=P at*
 refine M.F Tryz.func34 ?_
 repeat'(first|refine M.gw ?_|refine M.c2 (h1) ?_|refine M.c2 (h2) ?_|refine M.c2 (h9) ?_|fail)
 all_goals first
  |rfl
  |trace_state
theorem dInjW_c(s:Tm)(t:Tm)(p:Pf)(hs:s.full<50000000000)(ht:t.full<50000000000)(hp:p.full<50000000000):PC E 35 [.agg s.view,.agg t.view,.agg p.view] (.tup [.agg (derR [.tm s,.tm t,.pf p] (injW s p)).1.view,.i (derR [.tm s,.tm t,.pf p] (injW s p)).2]):=by
 have h1:=chk_c [.tm s,.tm t,.pf p] (by simp) (by simp only[List.mem_cons,List.not_mem_nil,or_false];rintro x (rfl|rfl|rfl)<;>simp only[Ch.full]<;>omega)
 unfold derR
 unfold chV at h1
 by_cases e:firstI Ch.err [.tm s,.tm t,.pf p]=0
 case neg=>
  rw[if_pos e]
  refine M.F Tryz.func35 ?_
  repeat'(first|refine M.go ?_|refine M.c2 (h1) ?_|((with_reducible refine D.aw ?_);(fail_if_success with_reducible refine D.stopR (id:=4) ?_);(fail_if_success with_reducible refine D.stopS (id:=4) ?_);first|refine M.ga ?_|refine AW.condS U (fun h=> ?_) (fun h=> ?_))|refine M.gk ?_|fail)
  all_goals first
   |rfl
   |(exfalso;simp at h;exact e h)
   |trace_state
 rw[if_neg (by simp[e])]
 rw[e] at h1
 have h2:=injW_c s p (by omega)
 have h9:=ddone_c (injW s p) (by have:=injW_full s p;omega)
 generalize injW s p=P at*
 refine M.F Tryz.func35 ?_
 repeat'(first|refine M.gw ?_|refine M.c2 (h1) ?_|refine M.c2 (h2) ?_|refine M.c2 (h9) ?_|fail)
 all_goals first
  |rfl
  |trace_state
theorem dAbsW_c(t:Tm)(p:Pf)(ht:t.full<50000000000)(hp:p.full<50000000000):PC E 36 [.agg t.view,.agg p.view] (.tup [.agg (derR [.tm t,.pf p] (absurdP p)).1.view,.i (derR [.tm t,.pf p] (absurdP p)).2]):=by
 have h1:=chk_c [.tm t,.pf p] (by simp) (by simp only[List.mem_cons,List.not_mem_nil,or_false];rintro x (rfl|rfl)<;>simp only[Ch.full]<;>omega)
 unfold derR
 unfold chV at h1
 by_cases e:firstI Ch.err [.tm t,.pf p]=0
 case neg=>
  rw[if_pos e]
  refine M.F Tryz.func36 ?_
  repeat'(first|refine M.go ?_|refine M.c2 (h1) ?_|((with_reducible refine D.aw ?_);(fail_if_success with_reducible refine D.stopR (id:=4) ?_);(fail_if_success with_reducible refine D.stopS (id:=4) ?_);first|refine M.ga ?_|refine AW.condS U (fun h=> ?_) (fun h=> ?_))|refine M.gk ?_|fail)
  all_goals first
   |rfl
   |(exfalso;simp at h;exact e h)
   |trace_state
 rw[if_neg (by simp[e])]
 rw[e] at h1
 have h2:=dabsurd_c p
 have h9:=ddone_c (absurdP p) (by have:=absP_full p;omega)
 generalize absurdP p=P at*
 refine M.F Tryz.func36 ?_
 repeat'(first|refine M.gw ?_|refine M.c2 (h1) ?_|refine M.c2 (h2) ?_|refine M.c2 (h9) ?_|fail)
 all_goals first
  |rfl
  |trace_state
theorem nothW_c:∀(n:Nat) (f:Fm) (r h:Int),f.dp≤n→n≤5000→f.full≤300000→f.shape=true→(-1≤r∧r≤262144)→(0≤h∧h+n≤100000)→
 AC E 160 [.ptr 0 0,.agg f.view,.i h] ⟨1,[(0,.var [.i r])]⟩ (.agg (nothW n r f h).1.view) ⟨1,[(0,.var [.i (nothW n r f h).2])]⟩:=by
 intro n
 induction n with
 |zero=>intro f g r h hn;have:=dp_pos f;omega
 |succ n ih=>
 intro f r h hn hn2 hff hs hr hh
 have hck:=checkFm_c f (by omega)
 have hnum:=fnum_le f
 have hyc:=hyp_c h
 unfold nothW
 by_cases h1:r-f.num<0
 ·rw [if_pos (.inl h1)]
  refine M.F Tryz.func160 ?_
  repeat'(first|refine M.go ?_|refine M.c2 (hck) ?_|refine M.c2 (hyc) ?_|((fail_if_success refine AX.wt U ?_);refine AX.gs U U (fun _=>trivial) (fun h=> ?_) (fun h=> ?_))|((with_reducible refine D.aw ?_);(fail_if_success with_reducible refine D.stopR (id:=6) ?_);(fail_if_success with_reducible refine D.stopS (id:=6) ?_);first|refine M.ga ?_|refine AW.condS U (fun h=> ?_) (fun h=> ?_))|refine M.gk ?_|fail)
  all_goals first
   |(exfalso;simp at h;omega)
   |(exfalso;simp at*;omega)
   |(exfalso;simp_all;done)
   |(exfalso;simp_all;omega)
   |(exact M.n2 [some 0] (h8:=(by simp[tupV,V.wk,V.wks,constV,Ty.view,Tm.view,Pf.view,hypP])))
   |trace_state
 by_cases h2:f.err≠0
 ·rw [if_pos (.inr h2)]
  refine M.F Tryz.func160 ?_
  repeat'(first|refine M.go ?_|refine M.c2 (hck) ?_|refine M.c2 (hyc) ?_|((fail_if_success refine AX.wt U ?_);refine AX.gs U U (fun _=>trivial) (fun h=> ?_) (fun h=> ?_))|((with_reducible refine D.aw ?_);(fail_if_success with_reducible refine D.stopR (id:=6) ?_);(fail_if_success with_reducible refine D.stopS (id:=6) ?_);first|refine M.ga ?_|refine AW.condS U (fun h=> ?_) (fun h=> ?_))|refine M.gk ?_|fail)
  all_goals first
   |(exfalso;simp at h;omega)
   |(exfalso;simp at*;omega)
   |(exfalso;simp_all;done)
   |(exfalso;simp_all;omega)
   |(exact M.n2 [some 0] (h8:=(by simp[tupV,V.wk,V.wks,constV,Ty.view,Tm.view,Pf.view,hypP])))
   |trace_state
 have ef:=Decidable.not_not.1 h2
 rw[if_neg (by rw[not_or];exact⟨h1,h2⟩)]
 rw[ef] at hck
 have hz1:=((Fm.err_iff f).1 ef).2
 rcases fshape_kinds hs with⟨k1,_⟩|⟨k1,_⟩|⟨k1,_,ks⟩
 ·obtain ⟨s,t,rfl⟩:=eq_of hs k1
  rw[if_neg (by rw[k1];omega),if_neg (by rw[k1];omega),if_neg (by rw[k1];omega),if_neg (by rw[k1];omega)]
  have t0:trm (eqF s t) 0=s:=rfl
  have t1:trm (eqF s t) 1=t:=rfl
  rw[t0,t1]
  have es:=term_err ef (t:=s) (by simp[eqF])
  have et:=term_err ef (t:=t) (by simp[eqF])
  have ss:=(Tm.err_iff s).1 es
  have st:=(Tm.err_iff t).1 et
  have fs:=terr_full es
  have ft:=terr_full et
  have l1:=lw_full s 0 1
  have l2:=lw_full t 0 1
  have c1:=upW_c s 1 (by omega)
  have c2:=upW_c t 1 (by omega)
  have c3:=tvar_c 0
  have c4:=eitherW_c (s.lw 0 1) (t.lw 0 1) (vT 0) (by omega)
  have c5:=deq_c (s.lw 0 1) (eitherW (s.lw 0 1) (t.lw 0 1) (vT 0))
  have c6:=drefl_c s
  have c7:=dsubst_c (exW s t) (hypP h) (reflP s)
  unfold exW at c7 ⊢
  clear ih
  generalize eitherW (s.lw 0 1) (t.lw 0 1) (vT 0)=y1 at*
  generalize s.lw 0 1=y2 at*
  generalize t.lw 0 1=y3 at*
  refine M.F Tryz.func160 ?_
  repeat'(first|refine M.gw ?_|refine M.c2 (hck) ?_|refine M.c2 (hyc) ?_|refine M.c2 (c1) ?_|refine M.c2 (c2) ?_|refine M.c2 (c3) ?_|refine M.c2 (c4) ?_|refine M.c2 (c5) ?_|refine M.c2 (c6) ?_|refine M.c2 (c7) ?_|((fail_if_success refine AX.wt U ?_);refine AX.gs U U (fun _=>trivial) (fun h=> ?_) (fun h=> ?_))|((with_reducible refine D.blk ?_);refine AW.block ?_)|fail)
  all_goals first
   |(exfalso;simp at h;omega)
   |(exact M.n2 [some 0] (h8:=(by simp[tupV,V.wk,V.wks,constV,Ty.view,Tm.view,Pf.view,substP])))
   |trace_state
 ·obtain ⟨a,b,e⟩:=two_of hs k1
  generalize f.kind=k at*
  subst e
  obtain⟨ea,eb⟩:=two_errs ef
  have sa:=((Fm.err_iff a).1 ea).1
  have sb:=((Fm.err_iff b).1 eb).1
  have fa:=ferr_full ea
  have fb:=ferr_full eb
  have hz:=dp_two k a b
  have hz2:=dp_pos a
  rw[arg_two0,arg_two1]
  rcases k1 with rfl|rfl
  ·rw [if_pos rfl]
   have ra:=nothW_full n a (r-(twoF 2 a b).num) h sa (by omega)
   have c1:=ih a (r-(twoF 2 a b).num) h (by omega) (by omega) (by omega) sa (by omega) (by omega)
   have c2:=ih b (nothW n (r-(twoF 2 a b).num) a h).2 h (by omega) (by omega) (by omega) sb (by omega) (by omega)
   clear ih ra
   generalize nothW n (r-(twoF 2 a b).num) a h=A at*
   generalize nothW n A.2 b h=B at*
   have c3:=dnode_c 3 [A.1,B.1]
   refine M.F Tryz.func160 ?_
   repeat'(first|refine M.gw ?_|refine M.c2 (hck) ?_|refine M.c2 (hyc) ?_|refine M.cb (c1) [0] 0 ?_|refine M.cb (c2) [0] 0 ?_|refine M.c2 (c3) ?_|((fail_if_success refine AX.wt U ?_);refine AX.gs U U (fun _=>trivial) (fun h=> ?_) (fun h=> ?_))|((with_reducible refine D.blk ?_);refine AW.block ?_)|fail)
   all_goals first
    |(exfalso;simp at h;omega)
    |(exact M.n2 [some 0] (h8:=(by simp[tupV,V.wk,V.wks,constV,Ty.view,Tm.view,Pf.view])))
    |trace_state
  ·rw [if_neg (by omega),if_pos rfl]
   have c1:=ih b (r-(twoF 3 a b).num) (h+1) (by omega) (by omega) (by omega) sb (by omega) (by omega)
   clear ih
   generalize nothW n (r-(twoF 3 a b).num) b (h+1)=A at*
   have c3:=dimpI_c a A.1
   refine M.F Tryz.func160 ?_
   repeat'(first|refine M.gw ?_|refine M.c2 (hck) ?_|refine M.c2 (hyc) ?_|refine M.cb (c1) [0] 0 ?_|refine M.c2 (c3) ?_|((fail_if_success refine AX.wt U ?_);refine AX.gs U U (fun _=>trivial) (fun h=> ?_) (fun h=> ?_))|((with_reducible refine D.blk ?_);refine AW.block ?_)|fail)
   all_goals first
    |(exfalso;simp at h;omega)
    |(exact M.n2 [some 0] (h8:=(by simp[tupV,V.wk,V.wks,constV,Ty.view,Tm.view,Pf.view])))
    |trace_state
 ·obtain ⟨a,e⟩:=qu_of hs (by omega)
  generalize f.ty=s at*
  generalize hfk:f.kind=k at*
  subst e
  have ea:=qu_errs ef
  have sa:=((Fm.err_iff a).1 ea).1
  have fa:=ferr_full ea
  have hz:=dp_qu k s a
  have hp:=dp_pos a
  have hts:=ty_size ks
  rw[arg_qu]
  by_cases hq:k=4∨k=6
  ·rw [if_neg (by omega),if_neg (by omega),if_pos hq]
   have c1:=ih a (r-(quF k s a).num) h (by omega) (by omega) (by omega) sa (by omega) (by omega)
   clear ih
   rcases hq with rfl|rfl
   ·generalize nothW n (r-(quF 4 s a).num) a h=A at*
    have c3:=allI_c s A.1
    refine M.F Tryz.func160 ?_
    repeat'(first|refine M.gw ?_|refine M.c2 (hck) ?_|refine M.c2 (hyc) ?_|refine M.cb (c1) [0] 0 ?_|refine M.c2 (c3) ?_|((fail_if_success refine AX.wt U ?_);refine AX.gs U U (fun _=>trivial) (fun h=> ?_) (fun h=> ?_))|((with_reducible refine D.blk ?_);refine AW.block ?_)|fail)
    all_goals first
     |(exfalso;simp at h;omega)
     |(exact M.n2 [some 0] (h8:=(by simp[tupV,V.wk,V.wks,constV,Ty.view,Tm.view,Pf.view])))
     |trace_state
   ·generalize nothW n (r-(quF 6 s a).num) a h=A at*
    have c3:=allI_c s A.1
    refine M.F Tryz.func160 ?_
    repeat'(first|refine M.gw ?_|refine M.c2 (hck) ?_|refine M.c2 (hyc) ?_|refine M.cb (c1) [0] 0 ?_|refine M.c2 (c3) ?_|((fail_if_success refine AX.wt U ?_);refine AX.gs U U (fun _=>trivial) (fun h=> ?_) (fun h=> ?_))|((with_reducible refine D.blk ?_);refine AW.block ?_)|fail)
    all_goals first
     |(exfalso;simp at h;omega)
     |(exact M.n2 [some 0] (h8:=(by simp[tupV,V.wk,V.wks,constV,Ty.view,Tm.view,Pf.view])))
     |trace_state
  ·have hq2:k=5∨k=7:=by omega
   rw[if_neg (by omega),if_neg (by omega),if_neg hq,if_pos hq2]
   have d:=dfl_ok ks
   have d0:=(Ty.err_iff s).1 ks
   have d4:=(dfl_facts s d0.1 d0.2).2.2.2
   have cd:=termsDefault_c s (by omega)
   rw[ks,show dflS s=dfl s from if_pos ks] at cd
   have cp:=fput_c a 0 (dfl s) (by omega) (by omega)
   by_cases hput:putFErr a 0 (dfl s)≠0
   ·rw [if_pos hput]
    rw[if_neg hput] at cp
    clear ih
    generalize putFErr a 0 (dfl s)=pe at*
    rcases hq2 with rfl|rfl
    all_goals
     refine M.F Tryz.func160 ?_
     repeat'(first|refine M.gw ?_|refine M.c2 (hck) ?_|refine M.c2 (hyc) ?_|refine M.c2 (cd) ?_|refine M.c2 (cp) ?_|((fail_if_success refine AX.wt U ?_);refine AX.gs U U (fun _=>trivial) (fun h=> ?_) (fun h=> ?_))|((with_reducible refine D.blk ?_);refine AW.block ?_)|refine AW.condS U (fun h=> ?_) (fun h=> ?_)|fail)
     all_goals first
      |(exfalso;simp at h;omega)
      |(exact M.n2 [some 0] (h8:=(by simp[tupV,V.wk,V.wks,constV,Ty.view,Tm.view,Pf.view,hypP])))
      |trace_state
   ·rw [if_neg hput]
    have hput':=Decidable.not_not.1 hput
    rw[if_pos hput',hput'] at cp
    have eb:=putF_err (by omega) hput'
    have fb:=ferr_full eb
    have c1:=ih (a.put 0 (dfl s)) (r-(quF k s a).num) h (by rw[dp_put];omega) (by omega) (by omega) ((Fm.err_iff _).1 eb).1 (by omega) (by omega)
    clear ih
    generalize nothW n (r-(quF k s a).num) (a.put 0 (dfl s)) h=A at*
    generalize a.put 0 (dfl s)=body at*
    generalize dfl s=dt at*
    rcases hq2 with rfl|rfl
    ·have c3:=dexI_c (quF 5 s a) dt A.1
     refine M.F Tryz.func160 ?_
     repeat'(first|refine M.gw ?_|refine M.c2 (hck) ?_|refine M.c2 (hyc) ?_|refine M.c2 (cd) ?_|refine M.c2 (cp) ?_|refine M.cb (c1) [0] 0 ?_|refine M.c2 (c3) ?_|((fail_if_success refine AX.wt U ?_);refine AX.gs U U (fun _=>trivial) (fun h=> ?_) (fun h=> ?_))|((with_reducible refine D.blk ?_);refine AW.block ?_)|fail)
     all_goals first
      |(exfalso;simp at h;omega)
      |(exact M.n2 [some 0] (h8:=(by simp[tupV,V.wk,V.wks,constV,Ty.view,Tm.view,Pf.view])))
      |trace_state
    ·have c3:=dexI_c (quF 7 s a) dt A.1
     refine M.F Tryz.func160 ?_
     repeat'(first|refine M.gw ?_|refine M.c2 (hck) ?_|refine M.c2 (hyc) ?_|refine M.c2 (cd) ?_|refine M.c2 (cp) ?_|refine M.cb (c1) [0] 0 ?_|refine M.c2 (c3) ?_|((fail_if_success refine AX.wt U ?_);refine AX.gs U U (fun _=>trivial) (fun h=> ?_) (fun h=> ?_))|((with_reducible refine D.blk ?_);refine AW.block ?_)|fail)
     all_goals first
      |(exfalso;simp at h;omega)
      |(exact M.n2 [some 0] (h8:=(by simp[tupV,V.wk,V.wks,constV,Ty.view,Tm.view,Pf.view])))
      |trace_state
theorem exFalsoW_c(f:Fm)(p:Pf)(hf:f.err=0):PC E 101 [.agg f.view,.agg p.view] (.tup [.agg (exfP (nothW f.dp 262144 f 0).1 p).view,.bool (decide ((nothW f.dp 262144 f 0).2≥0))]):=by
 have h1:=(Fm.err_iff f).1 hf
 have h2:=dp_size f
 have h3:=ferr_full hf
 have c1:=nothW_c f.dp f 262144 0 (Nat.le_refl _) (by omega) (by omega) h1.1 (by omega) (by omega)
 have c2:=tfalse2_c
 generalize nothW f.dp 262144 f 0=A at*
 have c3:=dimpI_c falseF A.1
 have c4:=dimpE_c (.mk 6 0 (.mk 0 []) [] [falseF] [A.1]) p
 unfold exfP
 refine M.F Tryz.func101 ?_
 repeat'(first|refine M.gw ?_|refine M.cb (c1) [3] 0 ?_|refine M.c2 (c2) ?_|refine M.c2 (c3) ?_|refine M.c2 (c4) ?_|fail)
 all_goals first
  |rfl
  |trace_state
end Go.Ab
