/- A part of this seat's proofs. No conditions. -/
import Derived.Test.YtmhcohcihajegaaGreatDoorCS10
import Derived.Test.YtmhcohcihajegaaGreatDoorCS11
namespace Go.Ab
open Go Go.Proofs
set_option maxRecDepth 100000
set_option maxHeartbeats 4000000
set_option linter.all false
theorem WA(fr by_ i bl:Int):AC E 180 [.i i,.i bl,.ptr 0 0,.ptr 1 0] ⟨2,[(0,.var [.i fr]),(1,.var [.i by_])]⟩ (.agg (JN fr by_ i bl).view) ⟨2,[(0,.var [.i fr]),(1,.var [.i by_])]⟩:=by
 have hv:=TW;refine M.F Tryz.func180 ?_;(repeat' first|refine M.w0 ?_|refine M.c2 (hv _) ?_|refine M.cs ?_ ?_<;>intro h|fail)
 .have h':fr<=IntKind.i64.wrap (i-bl):=ku
  (exact M.n2 Bo (h8:=o9))
 .have h':¬fr<=IntKind.i64.wrap (i-bl):=ku
  (exact M.n2 Bo (h8:=o9))
theorem Ys7(fr by_:Int):∀(n:Nat) (t:Tm) (bl:Int),t.full<=n->n<549755813888->0<=bl->bl+n<549755813888->AC E 216 [.agg t.view,.i bl,.ptr 0 0,.ptr 1 0] ⟨4,[(0,.var [.fn (.func 180) [] [.ptr 2 0,.ptr 3 0]]),(1,.var [.fn (.func 216) [] [.ptr 0 0,.ptr 1 0]]),(2,.var [.i fr]),(3,.var [.i by_])]⟩ (.agg (t.re (JN fr by_) bl).view) ⟨4,[(0,.var [.fn (.func 180) [] [.ptr 2 0,.ptr 3 0]]),(1,.var [.fn (.func 216) [] [.ptr 0 0,.ptr 1 0]]),(2,.var [.i fr]),(3,.var [.i by_])]⟩:=by
 intro n;induction n with
 |zero=>intro t bl h;have:=t.Ad;omega
 |succ n ih=>
 intro t bl hsz hb hbl hbn;have hsz':=Tm.Ag t;have hlen:=ze Tm.full Tm.Ad t.args;have hre:=Tm.A4 (JN fr by_) bl t;have hcb:=WA fr by_ t.index bl;have hown:=It _ t.ty (fB _) kn;refine M.F Tryz.func216 ?_;(repeat' first|refine M.w0 ?_|refine M.cv (hcb) [2,3] 0 ?_|refine M.c2 (hown) ?_|refine M.cs ?_ ?_<;>intro h|fail)
 .exact sG
 all_goals
  rename_i hk1;have hup:up t.kind bl<=bl+1:=kU
  have hup0:0<=up t.kind bl:=kU
  have hk1':¬t.kind=1:=by simpa using hk1
  refine M.rt t.args.length
   (fun m=>([(1,.i (up t.kind bl)),(3,.ptr 1 0),(6,.ptr 5 0),(7,.ptr 6 0),(32,.s .tm t.args),(33,.i t.args.length),(34,.i m)],⟨8,[(0,.var [.fn (.func 180) [] [.ptr 2 0,.ptr 3 0]]),(1,.var [.fn (.func 216) [] [.ptr 0 0,.ptr 1 0]]),(2,.var [.i fr]),(3,.var [.i by_]),(4,.var t.view),(5,.var [.i 0,.i 0,.i 0,.slice .nil (.t .ty []),.slice .nil (.t .tm [])]),(6,.var [.i t.kind,.i t.index,.i t.ty.kind,.s .ty t.ty.args,.slice (.own 7) (.t .tm ((t.args.take m).map (Tm.re (JN fr by_) (up t.kind bl))))]),(7,.row)]⟩))
   ?_ ?_ ?_
  .exact qa
  .intro m hm hP;have hs2:=zc Tm.full (fA hm);have hc:=ih t.args[m] (up t.kind bl) kn kn hup0 kn;(repeat' first|refine M.w0 ?_|refine M.cv (hc) [0,1,2,3] 0 ?_|fail);refine⟨rfl,trivial,?_⟩;exact(M.W [some 0,some 1,some 2,some 3,some 4,some 5,some 6,some 9] (he:=(by(repeat'(first|exact trivial|exact Or.inr ⟨_,U,rfl⟩|refine And.intro ?_ ?_|refine⟨_,U,_,U,_,U,?_⟩|exact Ap.refl _|exact Ap.of_eq kO));done)))
  .exact sg
theorem Tx(fr by_:Int)(t:Tm)(ht:t.full<274877906944):AC E 179 [.agg t.view,.fn (.func 180) [] [.ptr 0 0,.ptr 1 0]] ⟨2,[(0,.var [.i fr]),(1,.var [.i by_])]⟩ (.agg (t.lw fr by_).view) ⟨2,[(0,.var [.i fr]),(1,.var [.i by_])]⟩:=by
 have hc:=Ys7 fr by_ _ t 0 (fB _) kn kn kn;unfold Tm.lw;refine M.F Tryz.func179 ?_;(repeat' first|refine M.w0 ?_|refine M.cv (hc) [3,5,0,1] 0 ?_|fail)
 (exact M.n2 Bo (h8:=lN))
theorem NX(t:Tm)(fr by_:Int)(ht:t.full<274877906944):PC E 132 [.agg t.view,.i fr,.i by_] (.agg (t.lw fr by_).view):=by
 have hc:=Tx fr by_ t ht;refine M.F Tryz.func132 ?_;(repeat' first|refine M.w0 ?_|refine M.cb (hc) [1,2] 0 ?_|fail);simp[zn,V.wk,V.Ar,za,Ty.view,Tm.view]
theorem Yrd(fr by_:Int)(hat:0<=fr/\fr<274877906944)(t:Tm)(bl:Int)(ht:t.full<274877906944)(hb:0<=bl/\bl<274877906944):
 AC E 183 [.agg t.view,.i bl,.ptr 0 0,.ptr 1 0] ⟨2,[(0,.var [.i fr]),(1,.var [.i by_])]⟩ (.agg (t.lw (fr+bl) by_).view) ⟨2,[(0,.var [.i fr]),(1,.var [.i by_])]⟩:=by
 have hc:=NX t (fr+bl) by_ ht;refine M.F Tryz.func183 ?_;refine M.w1 @hc ?_
 (exact M.n2 Bo (h8:=lN))
theorem Yol(fr by_:Int)(hat:0<=fr/\fr<274877906944):∀(n:Nat) (f:Fm) (bl:Int),f.full<=n->n<274877906944->0<=bl->bl+n<274877906944->
 AC E 182 [.agg f.view,.i bl,.fn (.func 183) [] [.ptr 0 0,.ptr 1 0]] ⟨2,[(0,.var [.i fr]),(1,.var [.i by_])]⟩ (.agg (f.re (fun b t=>t.lw (fr+b) by_) bl).view) ⟨2,[(0,.var [.i fr]),(1,.var [.i by_])]⟩:=by
 intro n;induction n with
 |zero=>intro f bl h;intros;have:=f.Ad;omega
 |succ n ih=>
 intro f bl hsz hb hbl hbn;have hsz':=f.Ag;have hlen:=ze Fm.full Fm.Ad f.args;have hlen2:=ze Tm.full Tm.Ad f.terms;have hty:=It _ f.ty (fB _) kn;have hq:=OZ f.kind;have hre:=Fm.A4 (fun b t=>t.lw (fr+b) by_) bl f;refine M.F Tryz.func182 ?_;refine M.w1 @hty ?_;refine M.rt f.terms.length
  (fun m=>([(1,.i bl),(2,.fn (.func 183) [] [.ptr 0 0,.ptr 1 0]),(3,.ptr 2 0),(6,.ptr 3 0),(7,.ptr 4 0),(19,.s .tm f.terms),(20,.i f.terms.length),(21,.i m)],⟨6,[(0,.var [.i fr]),(1,.var [.i by_]),(2,.var f.view),(3,.var [.i 0,.i 0,.slice .nil (.t .ty []),.slice .nil (.t .tm []),.slice .nil (.t .fm [])]),(4,.var [.i f.kind,.i f.ty.kind,.s .ty f.ty.args,.slice (.own 5) (.t .tm ((f.terms.take m).map ((fun b t=>t.lw (fr+b) by_) bl))),.slice .nil (.t .fm [])]),(5,.row)]⟩))
  (M.W Qu) ?_ ?_
 .intro m hm _;have hs2:=zc Tm.full (fA hm);have hc:=Yrd fr by_ hat f.terms[m] bl kn kn;refine M.w1 @hc ?_;exact⟨rfl,trivial,(M.W [some 0,some 1,some 2,some 3,some 4,some 7] (he:=(by(repeat'(first|exact trivial|exact Or.inr ⟨_,U,rfl⟩|refine And.intro ?_ ?_|refine⟨_,U,_,U,_,U,?_⟩|exact Ap.refl _|exact Ap.of_eq kO));done)))⟩
 .intro _;simp only[fH];cases hqk:wc f.kind with
  |true=>
   rw[hqk] at hq;have hu:A3 f.kind bl=bl+1:=nH
   rw[hu] at hre;refine M.w1 @hq ?_;refine M.rt f.args.length
    (fun m=>([(1,.i (bl+1)),(2,.fn (.func 183) [] [.ptr 0 0,.ptr 1 0]),(3,.ptr 2 0),(6,.ptr 3 0),(7,.ptr 4 0),(41,.s .fm f.args),(42,.i f.args.length),(43,.i m)],⟨7,[(0,.var [.i fr]),(1,.var [.i by_]),(2,.var f.view),(3,.var [.i 0,.i 0,.slice .nil (.t .ty []),.slice .nil (.t .tm []),.slice .nil (.t .fm [])]),(4,.var [.i f.kind,.i f.ty.kind,.s .ty f.ty.args,.slice (.own 5) (.t .tm (f.terms.map ((fun b t=>t.lw (fr+b) by_) bl))),.slice (.own 6) (.t .fm ((f.args.take m).map (Fm.re (fun b t=>t.lw (fr+b) by_) (bl+1))))]),(5,.row),(6,.row)]⟩))
    (M.W PS) ?_ ?_
   .intro m hm _;have hs2:=zc Fm.full (fA hm);have hc:=ih f.args[m] (bl+1) kn kn kn kn;refine M.w1 @hc ?_;exact⟨rfl,trivial,(M.W [some 0,some 1,some 2,some 3,some 4,some 5,some 8] (he:=(by(repeat'(first|exact trivial|exact Or.inr ⟨_,U,rfl⟩|refine And.intro ?_ ?_|refine⟨_,U,_,U,_,U,?_⟩|exact Ap.refl _|exact Ap.of_eq kO));done)))⟩
   .exact qL
  |false=>
   rw[hqk] at hq;have hu:A3 f.kind bl=bl:=nH
   rw[hu] at hre;refine M.w1 @hq ?_;refine M.rt f.args.length
    (fun m=>([(1,.i bl),(2,.fn (.func 183) [] [.ptr 0 0,.ptr 1 0]),(3,.ptr 2 0),(6,.ptr 3 0),(7,.ptr 4 0),(41,.s .fm f.args),(42,.i f.args.length),(43,.i m)],⟨7,[(0,.var [.i fr]),(1,.var [.i by_]),(2,.var f.view),(3,.var [.i 0,.i 0,.slice .nil (.t .ty []),.slice .nil (.t .tm []),.slice .nil (.t .fm [])]),(4,.var [.i f.kind,.i f.ty.kind,.s .ty f.ty.args,.slice (.own 5) (.t .tm (f.terms.map ((fun b t=>t.lw (fr+b) by_) bl))),.slice (.own 6) (.t .fm ((f.args.take m).map (Fm.re (fun b t=>t.lw (fr+b) by_) bl)))]),(5,.row),(6,.row)]⟩))
    (M.W PS) ?_ ?_
   .intro m hm _;have hs2:=zc Fm.full (fA hm);have hc:=ih f.args[m] bl kn kn kn kn;refine M.w1 @hc ?_;exact⟨rfl,trivial,(M.W [some 0,some 1,some 2,some 3,some 4,some 5,some 8] (he:=(by(repeat'(first|exact trivial|exact Or.inr ⟨_,U,rfl⟩|refine And.intro ?_ ?_|refine⟨_,U,_,U,_,U,?_⟩|exact Ap.refl _|exact Ap.of_eq kO));done)))⟩
   .exact qL
theorem Yra(f:Fm)(fr by_:Int)(hat:0<=fr/\fr<274877906944)(hf:f.full<137438953472):PC E 134 [.agg f.view,.i fr,.i by_] (.agg (f.lw fr by_).view):=by
 have hc:=Yol fr by_ hat _ f 0 (fB _) kn kn kn;refine M.F Tryz.func134 ?_;(repeat' first|refine M.w0 ?_|refine M.cv (hc) [1,2] 0 ?_|fail)
 rfl
theorem Ytg(fr by_:Int)(hat:0<=fr/\fr<274877906944)(t:Tm)(bl:Int)(ht:t.full<274877906944)(hb:0<=bl/\bl<274877906944):
 AC E 131 [.agg t.view,.i bl,.ptr 0 0,.ptr 1 0] ⟨2,[(0,.var [.i fr]),(1,.var [.i by_])]⟩ (.agg (t.lw (fr+bl) by_).view) ⟨2,[(0,.var [.i fr]),(1,.var [.i by_])]⟩:=by
 have hc:=NX t (fr+bl) by_ ht;refine M.F Tryz.func131 ?_;refine M.w1 @hc ?_
 (exact M.n2 Bo (h8:=lN))
theorem Ysk(fr by_:Int)(hat:0<=fr/\fr<100000000000)(f:Fm)(bl:Int)(ht:f.full<137438953472)(hb:0<=bl/\bl<100000000000):
 AC E 133 [.agg f.view,.i bl,.ptr 0 0,.ptr 1 0] ⟨2,[(0,.var [.i fr]),(1,.var [.i by_])]⟩ (.agg (f.lw (fr+bl) by_).view) ⟨2,[(0,.var [.i fr]),(1,.var [.i by_])]⟩:=by
 have hc:=Yra f (fr+bl) by_ kn ht;generalize f.lw (fr+bl) by_=F at*;refine M.F Tryz.func133 ?_;refine M.w1 @hc ?_
 (exact M.n2 Bo (h8:=oW))
theorem Yp8(fr by_:Int)(hfr:0<=fr/\fr<10000000000):∀(n:Nat) (p:Pf) (v y:Int),p.full<=n->n<10000000000->(0<=v/\v+2*n<=50000000000)->(0<=y/\y+2*n<=50000000000)->p.nd->
 AC E 108 [.agg p.view,.agg [.i v,.i y],.agg [.fn (.func 131) [] [.ptr 0 0,.ptr 1 0],.fn (.func 133) [] [.ptr 0 0,.ptr 1 0],.nilf]] ⟨2,[(0,.var [.i fr]),(1,.var [.i by_])]⟩ (.agg (p.uw fr by_ v).view) ⟨2,[(0,.var [.i fr]),(1,.var [.i by_])]⟩:=by
 intro n;induction n with
 |zero=>intro p v y hz;have:=p.Ad;omega
 |succ n ih=>
 intro p v y hz hn hv hh hs;have hre:=p.HE fr by_ v;have hsz':=p.Ag;have hlen:=ze Pf.full Pf.Ad p.args;have hlen1:=ze Fm.full Fm.Ad p.Ae;have hlen2:=ze Tm.full Tm.Ad p.terms;have hty:=It _ p.ty (fB _) kn;have hru:=Js p.kind;obtain⟨⟨nd,n1,n4⟩,hpf⟩:=(Pf.BU p).1 hs;have hal:p.args.length<=2:=by
  exact pW
 have hpl:=fun(m:Nat) (hm:m<=1000000)=>wd p.kind v y nd n1 m hm kn kn;have e2:Ds p.kind=[.bool nd.index,.bool nd.typ,.i nd.terms,.i nd.Ae,.i nd.args,.i (AN p.kind),.i (Aw p.kind),.i (AA p.kind)]:=lp
 have b1:0<=Aw p.kind/\Aw p.kind<=2:=kT
 have b2:0<=AA p.kind/\AA p.kind<=1:=kX
 have b3:0<=AN p.kind/\AN p.kind<=1:=kW
 rw[n1] at hru;simp only[gI] at hru;rw[e2] at hru;simp only[e2] at hpl;refine M.F Tryz.func108 ?_;(repeat' first|refine M.w2 @hru @hty ?_|refine M.gs ?_ ?_<;>intro h|fail);all_goals
  refine M.rt p.terms.length
   (fun m=>([(3,.ptr 2 0),(4,.ptr 3 0),(5,.ptr 4 0),(6,.ptr 5 0),(7,.ptr 6 0),(9,.ptr 7 0),(44,.s .tm p.terms),(45,.i p.terms.length),(46,.i m)],⟨9,[(0,.var [.i fr]),(1,.var [.i by_]),(2,.var p.view),(3,.var [.i v,.i y]),(4,.var [.fn (.func 131) [] [.ptr 0 0,.ptr 1 0],.fn (.func 133) [] [.ptr 0 0,.ptr 1 0],.nilf]),(5,.var [.i 0,.i 0,.i 0,.slice .nil (.t .ty []),.slice .nil (.t .tm []),.slice .nil (.t .fm []),.slice .nil (.t .pf [])]),(6,.var [.bool nd.index,.bool nd.typ,.i nd.terms,.i nd.Ae,.i nd.args,.i (AN p.kind),.i (Aw p.kind),.i (AA p.kind)]),(7,.var [.i p.kind,.i p.index,.i p.ty.kind,.s .ty p.ty.args,.slice (.own 8) (.t .tm ((p.terms.take m).map fun t=>t.lw (fr+v) by_)),.slice .nil (.t .fm []),.slice .nil (.t .pf [])]),(8,.row)]⟩))
   (M.W OT) ?_ ?_
  .intro m hm _;have hs2:=zc Tm.full (fA hm);have hc:=Ytg fr by_ kn p.terms[m] v kn kn;refine M.w1 @hc ?_;exact⟨rfl,trivial,(M.W [some 0,some 1,some 2,some 3,some 4,some 5,some 6,some 7,some 10] (he:=(by(repeat'(first|exact trivial|exact Or.inr ⟨_,U,rfl⟩|refine And.intro ?_ ?_|refine⟨_,U,_,U,_,U,?_⟩|exact Ap.refl _|exact Ap.of_eq kO));done)))⟩
  .intro _;simp only[fH];refine M.w0 ?_;refine M.rt p.Ae.length
    (fun m=>([(3,.ptr 2 0),(4,.ptr 3 0),(5,.ptr 4 0),(6,.ptr 5 0),(7,.ptr 6 0),(9,.ptr 7 0),(73,.s .fm p.Ae),(74,.i p.Ae.length),(75,.i m)],⟨10,[(0,.var [.i fr]),(1,.var [.i by_]),(2,.var p.view),(3,.var [.i v,.i y]),(4,.var [.fn (.func 131) [] [.ptr 0 0,.ptr 1 0],.fn (.func 133) [] [.ptr 0 0,.ptr 1 0],.nilf]),(5,.var [.i 0,.i 0,.i 0,.slice .nil (.t .ty []),.slice .nil (.t .tm []),.slice .nil (.t .fm []),.slice .nil (.t .pf [])]),(6,.var [.bool nd.index,.bool nd.typ,.i nd.terms,.i nd.Ae,.i nd.args,.i (AN p.kind),.i (Aw p.kind),.i (AA p.kind)]),(7,.var [.i p.kind,.i p.index,.i p.ty.kind,.s .ty p.ty.args,.slice (.own 8) (.t .tm (p.terms.map fun t=>t.lw (fr+v) by_)),.slice (.own 9) (.t .fm ((p.Ae.take m).map fun f=>f.lw (fr+(v+AN p.kind)) by_)),.slice .nil (.t .pf [])]),(8,.row),(9,.row)]⟩))
    (M.W Sa) ?_ ?_
   .intro m hm _;have hs2:=zc Fm.full (fA hm);have hc:=Ysk fr by_ kn p.Ae[m] (v+AN p.kind) kn kn;refine M.w1 @hc ?_;exact⟨rfl,trivial,(M.W [some 0,some 1,some 2,some 3,some 4,some 5,some 6,some 7,some 8,some 11] (he:=(by(repeat'(first|exact trivial|exact Or.inr ⟨_,U,rfl⟩|refine And.intro ?_ ?_|refine⟨_,U,_,U,_,U,?_⟩|exact Ap.refl _|exact Ap.of_eq kO));done)))⟩
   .intro _;simp only[fH];refine M.w0 ?_;refine M.rt p.args.length
     (fun m=>([(3,.ptr 2 0),(4,.ptr 3 0),(5,.ptr 4 0),(6,.ptr 5 0),(7,.ptr 6 0),(9,.ptr 7 0),(105,.s .pf p.args),(106,.i p.args.length),(107,.i m)],⟨11,[(0,.var [.i fr]),(1,.var [.i by_]),(2,.var p.view),(3,.var [.i v,.i y]),(4,.var [.fn (.func 131) [] [.ptr 0 0,.ptr 1 0],.fn (.func 133) [] [.ptr 0 0,.ptr 1 0],.nilf]),(5,.var [.i 0,.i 0,.i 0,.slice .nil (.t .ty []),.slice .nil (.t .tm []),.slice .nil (.t .fm []),.slice .nil (.t .pf [])]),(6,.var [.bool nd.index,.bool nd.typ,.i nd.terms,.i nd.Ae,.i nd.args,.i (AN p.kind),.i (Aw p.kind),.i (AA p.kind)]),(7,.var [.i p.kind,.i p.index,.i p.ty.kind,.s .ty p.ty.args,.slice (.own 8) (.t .tm (p.terms.map fun t=>t.lw (fr+v) by_)),.slice (.own 9) (.t .fm (p.Ae.map fun f=>f.lw (fr+(v+AN p.kind)) by_)),.slice (.own 10) (.t .pf ((Pf.EK fr by_ v (Aw p.kind) p.args).take m))]),(8,.row),(9,.row),(10,.row)]⟩))
     (M.W Se) ?_ ?_
    .intro m hm _;have hs2:=zc Pf.full (fA hm);have hb:=hpl m kn;have hc:=ih p.args[m] (if m+1=p.args.length then v+Aw p.kind else v) (if(m:Int)=(nd.args:Int)-1 then y+AA p.kind else y) kn kn kJ kJ (hpf _ (fA hm));have ev:(if(m:Int)=(nd.args:Int)-1 then v+Aw p.kind else v)=(if m+1=p.args.length then v+Aw p.kind else v):=by
      exact pS
     rw[ev] at hb;refine M.w2 @hb @hc ?_;exact⟨rfl,trivial,(M.W [some 0,some 1,some 2,some 3,some 4,some 5,some 6,some 7,some 8,some 9,some 12] (he:=(by(repeat'(first|exact trivial|exact Or.inr ⟨_,U,rfl⟩|refine And.intro ?_ ?_|refine⟨_,U,_,U,_,U,?_⟩|exact Ap.refl _|exact Ap.of_eq (by simp[Ao.AH,Yfi hm])));done)))⟩
    .intro _;simp only[Yms];refine M.w0 ?_;rw[hre]
     (exact M.n2 Bo (h8:=lD))
theorem Yqc(p:Pf)(fr by_:Int)(hfr:0<=fr/\fr<10000000000)(hp:p.full<5000000000)(hs:p.nd):PC E 85 [.agg p.view,.i fr,.i by_] (.agg (p.uw fr by_ 0).view):=by
 have hc:=Yp8 fr by_ hfr _ p 0 0 (fB _) kn kn kn hs;refine M.F Tryz.func85 ?_;(repeat' first|refine M.w0 ?_|refine M.cv (hc) [1,2] 0 ?_|fail);simp[zn,V.wk,V.Ar,za,Ty.view,Tm.view]
theorem Vu(fr by_:Int)(i v y:Int)(p:Pf):
 AC E 128 [.agg p.view,.agg [.i v,.i y],.ptr 0 0,.ptr 1 0] ⟨2,[(0,.var [.i fr]),(1,.var [.i by_])]⟩ (.agg (vd (if IntKind.i64.wrap (p.index-y)>=fr then IntKind.i64.wrap (p.index+by_) else p.index)).view) ⟨2,[(0,.var [.i fr]),(1,.var [.i by_])]⟩:=by
 have h1:=Qx (IntKind.i64.wrap (p.index+by_));have h2:=Qx p.index;by_cases h0:IntKind.i64.wrap (p.index-y)>=fr
 .rw[if_pos h0];refine M.F Tryz.func128 ?_;(repeat' first|refine M.w2 @h1 @h2 ?_|refine M.cs ?_ ?_<;>intro h|fail)
  ·(exact M.n2 Bo (h8:=mg))
  .exact qW
 .rw[if_neg h0];refine M.F Tryz.func128 ?_;(repeat' first|refine M.w2 @h1 @h2 ?_|refine M.cs ?_ ?_<;>intro h|fail)
  .exact qW
  ·(exact M.n2 Bo (h8:=mg))
theorem Yor(fr by_:Int):∀(n:Nat) (p:Pf) (v y:Int),p.full<=n->n<10000000000->(0<=v/\v+2*n<=50000000000)->(0<=y/\y+2*n<=50000000000)->p.nd->
 AC E 108 [.agg p.view,.agg [.i v,.i y],.agg [.nilf,.nilf,.fn (.func 128) [] [.ptr 0 0,.ptr 1 0]]] ⟨2,[(0,.var [.i fr]),(1,.var [.i by_])]⟩ (.agg (p.hw fr by_ y).view) ⟨2,[(0,.var [.i fr]),(1,.var [.i by_])]⟩:=by
 intro n;induction n with
 |zero=>intro p v y hz;have:=p.Ad;omega
 |succ n ih=>
 intro p v y hz hn hv hh hs;have hre:=p.Lr fr by_ y;by_cases hk:p.kind=1
 .rw[if_pos hk] at hre;rw[hre];have hc:=Vu fr by_ 0 v y p;refine M.F Tryz.func108 ?_;(repeat' first|refine M.o1 @hc ?_|refine M.gs ?_ ?_<;>intro h|refine M.z1 3 ?_|refine M.gk ?_|fail);all_goals first|exfalso;simp at h;omega|exfalso;simp_all;done|exact M.n2 Bo (h8:=mg)
 rw[if_neg hk] at hre;have hsz':=p.Ag;have hlen:=ze Pf.full Pf.Ad p.args;have hlen1:=ze Fm.full Fm.Ad p.Ae;have hlen2:=ze Tm.full Tm.Ad p.terms;have hty:=It _ p.ty (fB _) kn;have hru:=Js p.kind;obtain⟨⟨nd,n1,n4⟩,hpf⟩:=(Pf.BU p).1 hs;have hal:p.args.length<=2:=by
  exact pW
 have hpl:=fun(m:Nat) (hm:m<=1000000)=>wd p.kind v y nd n1 m hm kn kn;have e2:Ds p.kind=[.bool nd.index,.bool nd.typ,.i nd.terms,.i nd.Ae,.i nd.args,.i (AN p.kind),.i (Aw p.kind),.i (AA p.kind)]:=lp
 have b1:0<=Aw p.kind/\Aw p.kind<=2:=kT
 have b2:0<=AA p.kind/\AA p.kind<=1:=kX
 have b3:0<=AN p.kind/\AN p.kind<=1:=kW
 rw[n1] at hru;simp only[gI] at hru;rw[e2] at hru;simp only[e2] at hpl;refine M.F Tryz.func108 ?_;(repeat' first|refine M.o2 @hru @hty ?_|refine M.gs ?_ ?_<;>intro h|refine M.z1 5 ?_|refine M.gk ?_|fail);all_goals first
  |(exfalso;simp at h;omega)
  |skip
 refine M.w0 ?_;all_goals
  refine M.rt p.terms.length
   (fun m=>([(3,.ptr 2 0),(4,.ptr 3 0),(5,.ptr 4 0),(6,.ptr 5 0),(7,.ptr 6 0),(9,.ptr 7 0),(44,.s .tm p.terms),(45,.i p.terms.length),(46,.i m)],⟨9,[(0,.var [.i fr]),(1,.var [.i by_]),(2,.var p.view),(3,.var [.i v,.i y]),(4,.var [.nilf,.nilf,.fn (.func 128) [] [.ptr 0 0,.ptr 1 0]]),(5,.var [.i 0,.i 0,.i 0,.slice .nil (.t .ty []),.slice .nil (.t .tm []),.slice .nil (.t .fm []),.slice .nil (.t .pf [])]),(6,.var [.bool nd.index,.bool nd.typ,.i nd.terms,.i nd.Ae,.i nd.args,.i (AN p.kind),.i (Aw p.kind),.i (AA p.kind)]),(7,.var [.i p.kind,.i p.index,.i p.ty.kind,.s .ty p.ty.args,.slice (.own 8) (.t .tm (p.terms.take m)),.slice .nil (.t .fm []),.slice .nil (.t .pf [])]),(8,.row)]⟩))
   (M.W OT) ?_ ?_
  .exact qd
  .intro _;simp only[fH];refine M.w0 ?_;refine M.rt p.Ae.length
    (fun m=>([(3,.ptr 2 0),(4,.ptr 3 0),(5,.ptr 4 0),(6,.ptr 5 0),(7,.ptr 6 0),(9,.ptr 7 0),(73,.s .fm p.Ae),(74,.i p.Ae.length),(75,.i m)],⟨10,[(0,.var [.i fr]),(1,.var [.i by_]),(2,.var p.view),(3,.var [.i v,.i y]),(4,.var [.nilf,.nilf,.fn (.func 128) [] [.ptr 0 0,.ptr 1 0]]),(5,.var [.i 0,.i 0,.i 0,.slice .nil (.t .ty []),.slice .nil (.t .tm []),.slice .nil (.t .fm []),.slice .nil (.t .pf [])]),(6,.var [.bool nd.index,.bool nd.typ,.i nd.terms,.i nd.Ae,.i nd.args,.i (AN p.kind),.i (Aw p.kind),.i (AA p.kind)]),(7,.var [.i p.kind,.i p.index,.i p.ty.kind,.s .ty p.ty.args,.slice (.own 8) (.t .tm (p.terms)),.slice (.own 9) (.t .fm (p.Ae.take m)),.slice .nil (.t .pf [])]),(8,.row),(9,.row)]⟩))
    (M.W Sa) ?_ ?_
   .exact qh
   .intro _;simp only[fH];refine M.w0 ?_;refine M.rt p.args.length
     (fun m=>([(3,.ptr 2 0),(4,.ptr 3 0),(5,.ptr 4 0),(6,.ptr 5 0),(7,.ptr 6 0),(9,.ptr 7 0),(105,.s .pf p.args),(106,.i p.args.length),(107,.i m)],⟨11,[(0,.var [.i fr]),(1,.var [.i by_]),(2,.var p.view),(3,.var [.i v,.i y]),(4,.var [.nilf,.nilf,.fn (.func 128) [] [.ptr 0 0,.ptr 1 0]]),(5,.var [.i 0,.i 0,.i 0,.slice .nil (.t .ty []),.slice .nil (.t .tm []),.slice .nil (.t .fm []),.slice .nil (.t .pf [])]),(6,.var [.bool nd.index,.bool nd.typ,.i nd.terms,.i nd.Ae,.i nd.args,.i (AN p.kind),.i (Aw p.kind),.i (AA p.kind)]),(7,.var [.i p.kind,.i p.index,.i p.ty.kind,.s .ty p.ty.args,.slice (.own 8) (.t .tm (p.terms)),.slice (.own 9) (.t .fm (p.Ae)),.slice (.own 10) (.t .pf ((Pf.EZ fr by_ y (AA p.kind) p.args).take m))]),(8,.row),(9,.row),(10,.row)]⟩))
     (M.W Se) ?_ ?_
    .intro m hm _;have hs2:=zc Pf.full (fA hm);have hb:=hpl m kn;have hc:=ih p.args[m] (if(m:Int)=(nd.args:Int)-1 then v+Aw p.kind else v) (if m+1=p.args.length then y+AA p.kind else y) kn kn kJ kJ (hpf _ (fA hm));have ev:(if(m:Int)=(nd.args:Int)-1 then y+AA p.kind else y)=(if m+1=p.args.length then y+AA p.kind else y):=by
      exact pS
     rw[ev] at hb;refine M.w2 @hb @hc ?_;exact⟨rfl,trivial,(M.W [some 0,some 1,some 2,some 3,some 4,some 5,some 6,some 7,some 8,some 9,some 12] (he:=(by(repeat'(first|exact trivial|exact Or.inr ⟨_,U,rfl⟩|refine And.intro ?_ ?_|refine⟨_,U,_,U,_,U,?_⟩|exact Ap.refl _|exact Ap.of_eq (by simp[Ao.AH,Yhw hm])));done)))⟩
    .intro _;simp only[Ynf];refine M.w0 ?_;rw[hre]
     (exact M.n2 Bo (h8:=lD))
theorem Yrt(p:Pf)(fr by_:Int)(hp:p.full<5000000000)(hs:p.nd):PC E 78 [.agg p.view,.i fr,.i by_] (.agg (p.hw fr by_ 0).view):=by
 have hc:=Yor fr by_ _ p 0 0 (fB _) kn kn kn hs;refine M.F Tryz.func78 ?_;(repeat' first|refine M.w0 ?_|refine M.cv (hc) [1,2] 0 ?_|fail);simp[zn,V.wk,V.Ar,za,Ty.view,Tm.view]
end Go.Ab
namespace Go.Ab
open Go Go.Proofs
set_option maxRecDepth 100000
set_option linter.all false
theorem T0(l:List Ty)(hl:(l.map Ty.size).sum<1099511627776):PC E 98 [.s .ty l] (.i (ww l)):=by
 have hlen:=ze Ty.size Ty.size_pos l;refine M.F Tryz.func98 ?_;(repeat' first|refine M.w0 ?_|refine M.cs ?_ ?_<;>intro h|fail)
 .have h':l.length>16:=kS
  simp[zn,V.wk,V.Ar,za,ww,h']
 have h':¬l.length>16:=kS
 refine M.rp l.length (fun m=>∀j (hj:j<l.length),j<m->l[j].err=0)
  (fun m=>([(9,.s .ty l),(10,.i l.length),(11,.i m)],⟨0,[]⟩))
  lI (M.W []) ?_ ?_
 .intro m hm hP;have hs2:=zc Ty.size (fA hm);(repeat' first|refine M.w0 ?_|refine M.c2 (Nf _ ?_) ?_|refine M.cs ?_ ?_<;>intro h|exact M.lt|fail)
  .have h1:¬l[m].err=0:=ku
   simp[zn,V.wk,V.Ar,za,ww,h',Zs8 l m hm hP h1]
  .exact ⟨rfl,ym (p:=fun t=>Ty.err t=0) hm hP ku,(M.W [])⟩
 .intro hP;refine M.w0 ?_;simp[zn,V.wk,V.Ar,za,ww,h',aU l hP]
end Go.Ab
namespace Go.Ab
open Go Go.Proofs
set_option maxRecDepth 100000
set_option maxHeartbeats 4000000
set_option linter.all false
theorem Ym(g:List Ty)(t:Tm)(ht:t.full<137438953472)(hg:∀x∈g,x.err=0)(hl:g.length<100000):PC E 217 [.s .ty g,.agg t.view] (.AP [.agg (EM g t).1.view,.i (EM g t).2]):=by
 have h1:=LS t kn;have h2:t.err=0->_:=fun h=>Ylm _ t g (fB _) kn ((Tm.Aa t).1 h).1 hg kn;refine M.F Tryz.func217 ?_;(repeat' first|refine M.w1 @h1 ?_|refine M.c2 (h2 ku) ?_|refine M.cs ?_ ?_<;>intro h|fail)
 .have h':t.err≠0:=ku
  simp[zn,V.wk,V.Ar,za,Ty.view,EM,h',BH]
 .have h':t.err=0:=ku
  simp[zn,V.wk,V.Ar,za,Ty.view,EM,h']
theorem Vo(g:List Ty)(t:Tm)(ht:t.full<137438953472)(hg:(g.map Ty.size).sum<1099511627776):PC E 193 [.s .ty g,.agg t.view] (.AP [.agg (yx g t).1.view,.i (yx g t).2]):=by
 have h1:=T0 g hg;have h2:ww g=0->_:=fun h=>Ym g t ht (LW h).2 (by have:=(LW h).1;omega);refine M.F Tryz.func193 ?_;(repeat' first|refine M.w1 @h1 ?_|refine M.c2 (h2 ku) ?_|refine M.cs ?_ ?_<;>intro h|fail)
 .have h':ww g≠0:=ku
  simp[zn,V.wk,V.Ar,za,Ty.view,yx,h',BH]
 .have h':ww g=0:=ku
  simp[zn,V.wk,V.Ar,za,Ty.view,yx,h']
theorem cQ(x:Ty)(h:x.size<1099511627776):PC E 47 [.agg x.view,.agg x.view] (.bool true):=by
 have:=wz _ x x (fB _) h;simpa using this
theorem Yf3(x:Tm)(h:x.full<1099511627776):PC E 109 [.agg x.view,.agg x.view] (.bool true):=by
 have:=Wp _ x x (fB _) h;simpa using this
end Go.Ab
