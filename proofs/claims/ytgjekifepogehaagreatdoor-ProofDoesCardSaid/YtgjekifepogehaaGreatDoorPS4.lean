/- A part of this seat's proofs. No conditions. -/
import Derived.Test.YtgjekifepogehaaGreatDoorPS3
namespace Go.Ab
open Go Go.Proofs
set_option maxRecDepth 100000
set_option maxHeartbeats 4000000
set_option linter.all false
theorem Yed(b:Bool)(t:Tm)(bl:Int)(ht:t.full<1099511627776):AC E 213 [.agg t.view,.i bl,.ptr 0 0] ⟨1,[(0,.var [.bool b])]⟩ (.AM []) ⟨1,[(0,.var [.bool (Gz Tm.near b [(t,bl)])])]⟩:=by
 have hc:=TP t ht;refine M.F Tryz.func213 ?_;(repeat' first|refine M.w1 @hc ?_|refine M.gs ?_ ?_<;>intro h|fail)
 ·exact lJ
 ·exact lJ
theorem Ycd(at_ c:Int)(t:Tm)(bl:Int)(ht:t.full<549755813888)(hc0:0<=c/\c<549755813888)(ha:0<=at_/\at_<549755813888)(hb:0<=bl/\bl<549755813888)(hix:∀p∈t.vars 0,0<=p.1/\p.1<1099511627776):
 AC E 184 [.agg t.view,.i bl,.ptr 0 0,.ptr 1 0] ⟨2,[(0,.var [.i c]),(1,.var [.i at_])]⟩ (.AM []) ⟨2,[(0,.var [.i (c+ug at_ [(t,bl)])]),(1,.var [.i at_])]⟩:=by
 have hc:=VH t (at_+bl) ht hix;have h1:=LW (at_+bl) (t.vars 0);have h2:=t.Cn 0;have h3:=t.Ah;refine M.F Tryz.func184 ?_;refine M.w1 @hc ?_
 (exact M.n2 AQ (h8:=(by simp[zh,V.wk,V.An,za,Ty.view,Tm.view,ug])))
theorem Ztf:∀(n:Nat) (f:Fm) (b:Bool) (bl:Int),f.full<=n->n<549755813888->0<=bl->bl+n<549755813888->AC E 87 [.agg f.view,.i bl,.fn (.func 213) [] [.ptr 0 0]] ⟨1,[(0,.var [.bool b])]⟩ (.AM []) ⟨1,[(0,.var [.bool (Gz Tm.near b (f.AZ bl))])]⟩:=by
 intro n;induction n with
 |zero=>intro f;intros;have:=f.Ac;omega
 |succ n ih=>
 intro f b bl hsz hn hbl hbn;have hsz':=f.Af;have hlen:=zd Fm.full Fm.Ac f.args;have hlen2:=zd Tm.full Tm.Ac f.terms;have htm:=f.AY bl;have hq:=vy f.kind;refine M.F Tryz.func87 ?_;refine M.w0 ?_;refine M.rt f.terms.length
  (fun m=>([(1,.i bl),(2,.fn (.func 213) [] [.ptr 0 0]),(3,.ptr 1 0),(11,.s .tm f.terms),(12,.i f.terms.length),(13,.i m)],⟨2,[(0,.var [.bool (Gz Tm.near b ((f.terms.take m).map (fun t=>(t,bl))))]),(1,.var f.view)]⟩))
  ?_ ?_ ?_
 .exact (M.W AQ (he:=(by(repeat'(first|exact trivial|refine And.intro ?_ ?_|refine⟨_,U,_,U,_,U,?_⟩|exact Ai.refl _|exact Ai.of_eq (by simp[Aj.Aw,R5])));done)))
 .intro m hm _;have hs2:=zc Tm.full (ZA hm);have hc:=Yed (Gz Tm.near b ((f.terms.take m).map (fun t=>(t,bl)))) f.terms[m] bl dY;(repeat' first|refine M.w0 ?_|refine M.cv (hc) [0] 0 ?_|fail);refine⟨rfl,trivial,?_⟩;exact(M.W AQ (he:=(by(repeat'(first|exact trivial|refine And.intro ?_ ?_|refine⟨_,U,_,U,_,U,?_⟩|exact Ai.refl _|exact Ai.of_eq (by simp[Aj.Aw,Yy,zp _ _ _ hm])));done)))
 .intro _;simp only[ZF];(repeat' first|refine M.w1 @hq ?_|refine M.cs ?_ ?_<;>intro h|fail);all_goals
   have hup:AR f.kind bl<=bl+1:=fM
   have hup0:0<=AR f.kind bl:=fM
   refine M.rt f.args.length
    (fun m=>([(1,.i (AR f.kind bl)),(2,.fn (.func 213) [] [.ptr 0 0]),(3,.ptr 1 0),(28,.s .fm f.args),(29,.i f.args.length),(30,.i m)],⟨2,[(0,.var [.bool (Gz Tm.near b (f.terms.map (fun t=>(t,bl))++(f.args.take m).flatMap (Fm.AZ (AR f.kind bl))))]),(1,.var f.view)]⟩))
    ?_ ?_ ?_
   .exact (M.W AQ (hf:=(by(repeat'(first|exact trivial|refine And.intro ?_ ?_|refine⟨_,U,_,U,?_⟩|exact Ai.refl _|exact Ai.of_eq (by simp[Aj.Aw,AR,h,R5])));done)) (he:=(by(repeat'(first|exact trivial|refine And.intro ?_ ?_|refine⟨_,U,_,U,_,U,?_⟩|exact Ai.refl _|exact Ai.of_eq (by simp[Aj.Aw,AR,h,R5])));done)))
   .intro m hm _;have hs2:=zc Fm.full (ZA hm);have hc:=ih f.args[m] (Gz Tm.near b (f.terms.map (fun t=>(t,bl))++(f.args.take m).flatMap (Fm.AZ (AR f.kind bl)))) (AR f.kind bl) dY dY hup0 dY;(repeat' first|refine M.w0 ?_|refine M.cv (hc) [0] 0 ?_|fail);refine⟨rfl,trivial,?_⟩;exact(M.W AQ (he:=(by(repeat'(first|exact trivial|refine And.intro ?_ ?_|refine⟨_,U,_,U,_,U,?_⟩|exact Ai.refl _|exact Ai.of_eq (by simp[Aj.Aw,Yy,wg _ _ _ hm])));done)))
   .intro _;skip
    (exact M.n2 Ay (h6:=(by(repeat'(first|exact trivial|refine And.intro ?_ ?_|refine⟨_,U,_,U,_,U,?_⟩|exact Ai.of_eq (by simp[Aj.Aw,htm])));done)) (h8:=iT))
theorem Zqf(at_ C:Int)(ha:0<=at_/\at_<549755813888)(hC:C<549755813888):∀(n:Nat) (f:Fm) (c:Int) (bl:Int),f.full<=n->n<549755813888->0<=bl->bl+n<549755813888->0<=c->c+f.size<=C->(∀p∈f.AZ bl,∀q∈p.1.vars 0,0<=q.1/\q.1<1099511627776)->AC E 87 [.agg f.view,.i bl,.fn (.func 184) [] [.ptr 0 0,.ptr 1 0]] ⟨2,[(0,.var [.i c]),(1,.var [.i at_])]⟩ (.AM []) ⟨2,[(0,.var [.i (c+ug at_ (f.AZ bl))]),(1,.var [.i at_])]⟩:=by
 intro n;induction n with
 |zero=>intro f;intros;have:=f.Ac;omega
 |succ n ih=>
 intro f c bl hsz hn hbl hbn hc0 hcC hix;have hsz':=f.Af;have hlen:=zd Fm.full Fm.Ac f.args;have hlen2:=zd Tm.full Tm.Ac f.terms;have htm:=f.AY bl;have hq:=vy f.kind;refine M.F Tryz.func87 ?_;refine M.w0 ?_;refine M.rt f.terms.length
  (fun m=>([(1,.i bl),(2,.fn (.func 184) [] [.ptr 0 0,.ptr 1 0]),(3,.ptr 2 0),(11,.s .tm f.terms),(12,.i f.terms.length),(13,.i m)],⟨3,[(0,.var [.i (c+ug at_ ((f.terms.take m).map (fun t=>(t,bl))))]),(1,.var [.i at_]),(2,.var f.view)]⟩))
  ?_ ?_ ?_
 .exact (M.W CI (he:=(by(repeat'(first|exact trivial|refine And.intro ?_ ?_|refine⟨_,U,_,U,_,U,?_⟩|exact Ai.refl _|exact Ai.of_eq (by simp[Aj.Aw,ug])));done)))
 .intro m hm _;have hs2:=zc Tm.full (ZA hm);have hle1:=LH at_ ((f.terms.take m).map (fun t=>(t,bl)));have hle2:(((f.terms.take m).map (fun t=>(t,bl))).map fun p:Tm×Int=>p.1.size).sum<=f.size:=Yd2 f bl m;have hc:=Ycd at_ (c+ug at_ ((f.terms.take m).map (fun t=>(t,bl)))) f.terms[m] bl dY dY ha dY (fun p hp=>hix _ gQ p hp);refine M.w1 @hc ?_;refine⟨rfl,trivial,?_⟩;exact(M.W CI (he:=(by(repeat'(first|exact trivial|refine And.intro ?_ ?_|refine⟨_,U,_,U,_,U,?_⟩|exact Ai.refl _|exact Ai.of_eq (by simp[Aj.Aw,yy,aA,aY,zp _ _ _ hm])));done)))
 .intro _;simp only[ZF];(repeat' first|refine M.w1 @hq ?_|refine M.cs ?_ ?_<;>intro h|fail);all_goals
   have hup:AR f.kind bl<=bl+1:=fM
   have hup0:0<=AR f.kind bl:=fM
   refine M.rt f.args.length
    (fun m=>([(1,.i (AR f.kind bl)),(2,.fn (.func 184) [] [.ptr 0 0,.ptr 1 0]),(3,.ptr 2 0),(28,.s .fm f.args),(29,.i f.args.length),(30,.i m)],⟨3,[(0,.var [.i (c+ug at_ (f.terms.map (fun t=>(t,bl))++(f.args.take m).flatMap (Fm.AZ (AR f.kind bl))))]),(1,.var [.i at_]),(2,.var f.view)]⟩))
    ?_ ?_ ?_
   .exact (M.W CI (hf:=(by(repeat'(first|exact trivial|refine And.intro ?_ ?_|refine⟨_,U,_,U,?_⟩|exact Ai.refl _|exact Ai.of_eq (by simp[Aj.Aw,AR,h,ug])));done)) (he:=(by(repeat'(first|exact trivial|refine And.intro ?_ ?_|refine⟨_,U,_,U,_,U,?_⟩|exact Ai.refl _|exact Ai.of_eq (by simp[Aj.Aw,AR,h,ug])));done)))
   .intro m hm _;have hs2:=zc Fm.full (ZA hm);have hle1:=LH at_ (f.terms.map (fun t=>(t,bl))++(f.args.take m).flatMap (Fm.AZ (AR f.kind bl)));have hle2:((f.terms.map (fun t=>(t,bl))++(f.args.take m).flatMap (Fm.AZ (AR f.kind bl))).map fun p:Tm×Int=>p.1.size).sum+(f.args[m]).size<=f.size:=Yel f bl m hm;have hc:=ih f.args[m] (c+ug at_ (f.terms.map (fun t=>(t,bl))++(f.args.take m).flatMap (Fm.AZ (AR f.kind bl)))) (AR f.kind bl) dY dY hup0 dY dY dY (fun p hp=>hix p iS);refine M.w1 @hc ?_;refine⟨rfl,trivial,?_⟩;exact(M.W CI (he:=(by(repeat'(first|exact trivial|refine And.intro ?_ ?_|refine⟨_,U,_,U,_,U,?_⟩|exact Ai.refl _|exact Ai.of_eq (by simp[Aj.Aw,yy,aA,aY,wg _ _ _ hm])));done)))
   .intro _;skip
    (exact M.n2 AQ (h6:=(by(repeat'(first|exact trivial|refine And.intro ?_ ?_|refine⟨_,U,_,U,_,U,?_⟩|exact Ai.refl _|exact Ai.of_eq (by simp[Aj.Aw,htm])));done)) (h8:=iT))
theorem Ycb(f:Fm)(hf:f.full<274877906944):PC E 168 [.agg f.view] (.bool f.near):=by
 have hc:=Ztf _ f true 0 (ZB _) dY dY dY;refine M.F Tryz.func168 ?_;(repeat' first|refine M.w0 ?_|refine M.cv (hc) [1] 0 ?_|fail);simp[zh,V.wk,V.An,Gz,Fm.near]
theorem Zvy(f:Fm)(at_:Int)(ha:0<=at_/\at_<549755813888)(hf:f.full<274877906944)(hix:∀p∈f.AZ 0,∀q∈p.1.vars 0,0<=q.1/\q.1<1099511627776):PC E 119 [.agg f.view,.i at_] (.i (ug at_ (f.AZ 0))):=by
 have hle:=f.Ah;have hc:=Zqf at_ (f.size) ha dY _ f 0 0 (ZB _) dY dY dY dY dY hix;refine M.F Tryz.func119 ?_;(repeat' first|refine M.w0 ?_|refine M.cv (hc) [2,1] 0 ?_|fail);simp[zh,V.wk,V.An]
theorem Yf7(at_:Int)(s:Tm)(hat:0<=at_/\at_<274877906944)(hs:s.full<274877906944)(hsi:∀p∈s.vars 0,0<=p.1/\p.1<549755813888)(t:Tm)(bl:Int)(ht:t.full<274877906944)(hb:0<=bl/\bl<274877906944)(hix:∀p∈t.vars 0,0<=p.1/\p.1<549755813888):
 AC E 226 [.agg t.view,.i bl,.ptr 0 0,.ptr 1 0] ⟨2,[(0,.var [.i at_]),(1,.var s.view)]⟩ (.agg (t.re (xt (at_+bl) s) 0).view) ⟨2,[(0,.var [.i at_]),(1,.var s.view)]⟩:=by
 have hc:=Zo t (at_+bl) s dY hs hsi ht hix;refine M.F Tryz.func226 ?_;refine M.w1 @hc ?_
 (exact M.n2 AQ (h8:=fB))
theorem Yeb(at_:Int)(s:Tm)(hat:0<=at_/\at_<274877906944)(hs:s.full<274877906944)(hsi:∀p∈s.vars 0,0<=p.1/\p.1<549755813888):∀(n:Nat) (f:Fm) (bl:Int),f.full<=n->n<274877906944->0<=bl->bl+n<274877906944->(∀p∈f.AZ bl,∀q∈p.1.vars 0,0<=q.1/\q.1<549755813888)->
 AC E 220 [.agg f.view,.i bl,.fn (.func 226) [] [.ptr 0 0,.ptr 1 0]] ⟨2,[(0,.var [.i at_]),(1,.var s.view)]⟩ (.agg (f.re (fun b t=>t.re (xt (at_+b) s) 0) bl).view) ⟨2,[(0,.var [.i at_]),(1,.var s.view)]⟩:=by
 intro n;induction n with
 |zero=>intro f bl h;intros;have:=f.Ac;omega
 |succ n ih=>
 intro f bl hsz hb hbl hbn hix;have hsz':=f.Af;have hlen:=zd Fm.full Fm.Ac f.args;have hlen2:=zd Tm.full Tm.Ac f.terms;have hty:=IC _ f.ty (ZB _) dY;have hq:=vy f.kind;have hre:=Fm.BJ (fun b t=>t.re (xt (at_+b) s) 0) bl f;have htm:=f.AY bl;refine M.F Tryz.func220 ?_;refine M.w1 @hty ?_;refine M.rt f.terms.length
  (fun m=>([(1,.i bl),(2,.fn (.func 226) [] [.ptr 0 0,.ptr 1 0]),(3,.ptr 2 0),(6,.ptr 3 0),(7,.ptr 4 0),(19,.s .tm f.terms),(20,.i f.terms.length),(21,.i m)],⟨6,[(0,.var [.i at_]),(1,.var s.view),(2,.var f.view),(3,.var [.i 0,.i 0,.slice .nil (.t .ty []),.slice .nil (.t .tm []),.slice .nil (.t .fm [])]),(4,.var [.i f.kind,.i f.ty.kind,.s .ty f.ty.args,.slice (.own 5) (.t .tm ((f.terms.take m).map ((fun b t=>t.re (xt (at_+b) s) 0) bl))),.slice .nil (.t .fm [])]),(5,.row)]⟩))
  (M.W Mf) ?_ ?_
 .intro m hm _;have hs2:=zc Tm.full (ZA hm);have hc:=Yf7 at_ s hat hs hsi f.terms[m] bl dY dY (fun p hp=>hix _ gQ p hp);refine M.w1 @hc ?_;exact⟨rfl,trivial,(M.W [some 0,some 1,some 2,some 3,some 4,some 7] (he:=(by(repeat'(first|exact trivial|exact Or.inr ⟨_,U,rfl⟩|refine And.intro ?_ ?_|refine⟨_,U,_,U,_,U,?_⟩|exact Ai.refl _|exact Ai.of_eq eL));done)))⟩
 .intro _;simp only[ZF];cases hqk:xy f.kind with
  |true=>
   rw[hqk] at hq;have hu:AR f.kind bl=bl+1:=iG
   rw[hu] at hre htm;refine M.w1 @hq ?_;refine M.rt f.args.length
    (fun m=>([(1,.i (bl+1)),(2,.fn (.func 226) [] [.ptr 0 0,.ptr 1 0]),(3,.ptr 2 0),(6,.ptr 3 0),(7,.ptr 4 0),(41,.s .fm f.args),(42,.i f.args.length),(43,.i m)],⟨7,[(0,.var [.i at_]),(1,.var s.view),(2,.var f.view),(3,.var [.i 0,.i 0,.slice .nil (.t .ty []),.slice .nil (.t .tm []),.slice .nil (.t .fm [])]),(4,.var [.i f.kind,.i f.ty.kind,.s .ty f.ty.args,.slice (.own 5) (.t .tm (f.terms.map ((fun b t=>t.re (xt (at_+b) s) 0) bl))),.slice (.own 6) (.t .fm ((f.args.take m).map (Fm.re (fun b t=>t.re (xt (at_+b) s) 0) (bl+1))))]),(5,.row),(6,.row)]⟩))
    (M.W Nr) ?_ ?_
   .intro m hm _;have hs2:=zc Fm.full (ZA hm);have hc:=ih f.args[m] (bl+1) dY dY dY dY (fun p hp=>hix p iS);refine M.w1 @hc ?_;exact⟨rfl,trivial,(M.W [some 0,some 1,some 2,some 3,some 4,some 5,some 8] (he:=(by(repeat'(first|exact trivial|exact Or.inr ⟨_,U,rfl⟩|refine And.intro ?_ ?_|refine⟨_,U,_,U,_,U,?_⟩|exact Ai.refl _|exact Ai.of_eq eL));done)))⟩
   .exact lD
  |false=>
   rw[hqk] at hq;have hu:AR f.kind bl=bl:=iG
   rw[hu] at hre htm;refine M.w1 @hq ?_;refine M.rt f.args.length
    (fun m=>([(1,.i bl),(2,.fn (.func 226) [] [.ptr 0 0,.ptr 1 0]),(3,.ptr 2 0),(6,.ptr 3 0),(7,.ptr 4 0),(41,.s .fm f.args),(42,.i f.args.length),(43,.i m)],⟨7,[(0,.var [.i at_]),(1,.var s.view),(2,.var f.view),(3,.var [.i 0,.i 0,.slice .nil (.t .ty []),.slice .nil (.t .tm []),.slice .nil (.t .fm [])]),(4,.var [.i f.kind,.i f.ty.kind,.s .ty f.ty.args,.slice (.own 5) (.t .tm (f.terms.map ((fun b t=>t.re (xt (at_+b) s) 0) bl))),.slice (.own 6) (.t .fm ((f.args.take m).map (Fm.re (fun b t=>t.re (xt (at_+b) s) 0) bl)))]),(5,.row),(6,.row)]⟩))
    (M.W Nr) ?_ ?_
   .intro m hm _;have hs2:=zc Fm.full (ZA hm);have hc:=ih f.args[m] bl dY dY dY dY (fun p hp=>hix p iS);refine M.w1 @hc ?_;exact⟨rfl,trivial,(M.W [some 0,some 1,some 2,some 3,some 4,some 5,some 8] (he:=(by(repeat'(first|exact trivial|exact Or.inr ⟨_,U,rfl⟩|refine And.intro ?_ ?_|refine⟨_,U,_,U,_,U,?_⟩|exact Ai.refl _|exact Ai.of_eq eL));done)))⟩
   .exact lD
theorem Yd5(f:Fm)(at_:Int)(s:Tm)(hat:0<=at_/\at_<274877906944)(hs:s.full<274877906944)(hsi:∀p∈s.vars 0,0<=p.1/\p.1<549755813888)(hf:f.full<137438953472)(hix:∀p∈f.AZ 0,∀q∈p.1.vars 0,0<=q.1/\q.1<549755813888):PC E 188 [.agg f.view,.i at_,.agg s.view] (.agg (f.put at_ s).view):=by
 have hc:=Yeb at_ s hat hs hsi _ f 0 (ZB _) dY dY dY hix;refine M.F Tryz.func188 ?_;(repeat' first|refine M.w0 ?_|refine M.cv (hc) [1,2] 0 ?_|fail)
 rfl
theorem Ztr:∀(n:Nat) (x y:Fm),x.full<=n->n<1099511627776->PC E 163 [.agg x.view,.agg y.view] (.bool (decide (x=y))):=by
 intro n;induction n with
 |zero=>intro x y h;have:=x.Ac;omega
 |succ n ih=>
 intro x y hsz hb;have hsz':=x.Af;have hlen:=zd Fm.full Fm.Ac x.args;have hlen2:=zd Tm.full Tm.Ac x.terms;have heq:=Fm.eq_iff x y;have hty:=QV _ x.ty y.ty (ZB _) dY;refine M.F Tryz.func163 ?_;(repeat' first|refine M.w1 @hty ?_|refine M.gs ?_ ?_<;>intro h|refine M.cs ?_ ?_<;>intro h|fail)
 .exact kH
 .exact kH
 .exact lB
 .exact lB
 .rename_i h1 h2 h3;simp at h h1 h2 h3;have hl:x.args.length=y.args.length:=dY
  have hl2:x.terms.length=y.terms.length:=dY
  refine M.rp x.terms.length (fun m=>∀j (hj:j<x.terms.length),j<m->x.terms[j]=y.terms[j]' dY)
   (fun m=>([(2,.ptr 0 0),(3,.ptr 1 0),(41,.s .tm x.terms),(42,.i x.terms.length),(43,.i m)],⟨2,[(0,.var x.view),(1,.var y.view)]⟩))
   eR (M.W AQ) ?_ ?_
  .intro m hm hP;have hm':m<y.terms.length:=dY
   have hs2:=zc Tm.full (ZA hm);have hc:=UT _ x.terms[m] y.terms[m] (ZB _) dY;(repeat' first|refine M.w1 @hc ?_|refine M.cs ?_ ?_<;>intro h|fail)
   .have:¬x=y:=by rw[heq];exact fun hc=>uu hm hm' ek hc.2.2.1
    simp[this,zh,za,V.wk,V.An]
   .exact ⟨rfl,Hf hl2 hm hP ek,(M.W AQ)⟩
  .intro hP2;have hterms:=u5 hl2 hP2;refine M.w0 ?_;refine M.rp x.args.length (fun m=>∀j (hj:j<x.args.length),j<m->x.args[j]=y.args[j]' dY)
    (fun m=>([(2,.ptr 0 0),(3,.ptr 1 0),(58,.s .fm x.args),(59,.i x.args.length),(60,.i m)],⟨2,[(0,.var x.view),(1,.var y.view)]⟩))
    eR (M.W AQ) ?_ ?_
   .intro m hm hP;have hm':m<y.args.length:=dY
    have hs2:=zc Fm.full (ZA hm);(repeat' first|refine M.w0 ?_|refine M.c2 (ih _ _ ?_ ?_) ?_|refine M.cs ?_ ?_<;>intro h|exact M.le|exact M.lt|fail)
    .have:¬x=y:=by rw[heq];exact fun hc=>uu hm hm' ek hc.2.2.2
     simp[this,zh,za,V.wk,V.An]
    .exact ⟨rfl,Hf hl hm hP ek,(M.W AQ)⟩
   .intro hP;have:x=y:=heq.2 ⟨h1,h2,hterms,u5 hl hP⟩;refine M.w0 ?_;simp[this,zh,za,V.wk,V.An]
theorem NC(t:Tm):PC E 199 [.agg t.view] (.i (up t.kind 0)):=by
 refine M.F Tryz.func199 ?_;(repeat' first|refine M.w0 ?_|refine M.cs ?_ ?_<;>intro h|fail)
 .have e:up t.kind 0=1:=by simp only[beq_iff_eq] at h;rw[h];rfl
  rw[e];rfl
 .have e:up t.kind 0=0:=by simp only[beq_eq_false_iff_ne,ne_eq] at h;exact if_neg h
  rw[e];rfl
theorem M0(k b:Int):b<=up k b/\up k b<=b+1:=eP
theorem NL(k b:Int):b+up k 0=up k b:=eP
theorem Mu(most:Int)(h0:0<=most):∀(n:Nat) (t:Tm),t.full<=n->n<549755813888->t.shape=true->PC E 122 [.agg t.view,.i most] (.bool (wm most t)):=by
 intro n;induction n with
 |zero=>intro t h;have:=t.Ac;omega
 |succ n ih=>
 intro t hsz hn hs;have hsz':=Tm.Af t;have hlen:=zd Tm.full Tm.Ac t.args;have he:=Zyn h0 hs;refine M.F Tryz.func122 ?_;(repeat' first|refine M.w0 ?_|refine M.cs ?_ ?_<;>intro h|fail)
 .have h1:¬t.index<=most:=eU
  rw[he,decide_eq_false h1];rfl
 have h1:t.index<=most:=eU
 rw[decide_eq_true h1,aH] at he;refine M.rp t.args.length (fun m=>∀j (hj:j<t.args.length),j<m->wm most t.args[j]=true)
  (fun m=>([(1,.i most),(2,.ptr 0 0),(12,.s .tm t.args),(13,.i t.args.length),(14,.i m)],⟨1,[(0,.var t.view)]⟩))
  (fun j hj h=>dY) (M.W Ay) ?_ ?_
 .intro m hm hP;have hs2:=zc Tm.full (ZA hm);have hc:=ih t.args[m] dY dY (ze hs _ (ZA hm));(repeat' first|refine M.w1 @hc ?_|refine M.cs ?_ ?_<;>intro h|fail)
  .have hx:wm most t.args[m]=false:=ek
   rw[he,wb (wm most) hm hx];rfl
  .have hx:wm most t.args[m]=true:=ek
   exact⟨rfl,ya (p:=fun t=>wm most t=true) hm hP hx,(M.W Ay)⟩
 .intro hP;rw[he,un (wm most) t.args fun j hj=>hP j hj hj];refine M.w0 ?_
  rfl
theorem Yhs:∀(n:Nat) (t:Tm) (at_:Int),t.full<=n->n<274877906944->-274877906944<=at_->at_+n<549755813888->t.shape=true->PC E 267 [.agg t.view,.i at_] (.bool (decide (xd at_ t≠0))):=by
 intro n;induction n with
 |zero=>intro t at_ h;have:=t.Ac;omega
 |succ n ih=>
 intro t at_ hsz hn h1 h2 hs;have hsz':=Tm.Af t;have hlen:=zd Tm.full Tm.Ac t.args;have he:=PN at_ t;have hup:=M0 t.kind at_;have hpl:=NL t.kind at_;have hb:=NC t;by_cases hv:t.kind=1/\t.index=at_
 .rw[if_pos hv] at he;rw[he];refine M.F Tryz.func267 ?_;(repeat' first|refine M.o0 ?_|refine M.gs ?_ ?_<;>intro h|refine M.z1 4 ?_|refine M.cs ?_ ?_<;>intro h|refine M.gk ?_|fail);all_goals first
   |rfl
   |(exfalso;simp[hv.1,hv.2] at*;done)
   |(exfalso;simp_all;done)
 rw[if_neg hv] at he;refine M.F Tryz.func267 ?_;(repeat' first|refine M.w0 ?_|refine M.gs ?_ ?_<;>intro h|refine M.cs ?_ ?_<;>intro h|fail);all_goals first
  |(exfalso;simp_all;done)
  |skip
 all_goals
  refine M.rp t.args.length (fun m=>∀j (hj:j<t.args.length),j<m->xd (up t.kind at_) t.args[j]=0)
   (fun m=>([(1,.i at_),(2,.ptr 0 0),(17,.s .tm t.args),(18,.i t.args.length),(19,.i m)],⟨1,[(0,.var t.view)]⟩))
   (fun j hj h=>dY) (M.W Ay) ?_ ?_
  .intro m hm hP;have hs2:=zc Tm.full (ZA hm);have hc:=ih t.args[m] (up t.kind at_) dY dY dY dY (ze hs _ (ZA hm));rw[<-hpl] at hc;rw[<-hpl] at hP he;(repeat' first|refine M.w2 @hb @hc ?_|refine M.cs ?_ ?_<;>intro h|fail)
   .have hx:xd (at_+up t.kind 0) t.args[m]≠0:=ek
    rw[he,decide_eq_true (Tu hm hx)];rfl
   .have hx:xd (at_+up t.kind 0) t.args[m]=0:=ek
    exact⟨rfl,by rw[<-hpl];exact ya (p:=fun t'=>xd (at_+up t.kind 0) t'=0) hm hP hx,(M.W Ay)⟩
  .intro hP;rw[he,Sf fun j hj=>hP j hj hj];refine M.w0 ?_
   rfl
theorem TC:∀(n:Nat) (t:Tm) (at_:Int),t.full<=n->n<274877906944->-274877906944<=at_->at_+n<549755813888->t.shape=true->PC E 189 [.agg t.view,.i at_] (.i (xd at_ t)):=by
 intro n;induction n with
 |zero=>intro t at_ h;have:=t.Ac;omega
 |succ n ih=>
 intro t at_ hsz hn h1 h2 hs;have hsz':=Tm.Af t;have hlen:=zd Tm.full Tm.Ac t.args;have he:=PN at_ t;have hup:=M0 t.kind at_;have hpl:=NL t.kind at_;have hb:=NC t;by_cases hv:t.kind=1/\t.index=at_
 .rw[if_pos hv] at he;rw[he];have ha:=Km hs hv.1;obtain⟨k,i,th,xs⟩:=t;simp only[Tm.Ag] at ha;subst ha;obtain⟨hv1,hv2⟩:=hv;simp only[Tm.AA,Tm.Bo] at hv1 hv2;subst hv1;subst hv2;refine M.F Tryz.func189 ?_;(repeat' first|refine M.w0 ?_|refine M.cs ?_ ?_<;>intro h|fail);all_goals first
   |(exfalso;simp at h;done)
   |skip
  all_goals
   refine M.rt 0 (fun m=>([(1,.i i),(2,.ptr 0 0),(5,.i 1),(20,.s .tm []),(21,.i 0),(22,.i m)],⟨1,[(0,.var (Tm.mk 1 i th []).view)]⟩))
    (M.W Ay) ?_ ?_
   .intro m hm;omega
   .exact kR
 rw[if_neg hv] at he;refine M.F Tryz.func189 ?_;(repeat' first|refine M.w0 ?_|refine M.gs ?_ ?_<;>intro h|refine M.cs ?_ ?_<;>intro h|fail);all_goals first
  |(exfalso;simp_all;done)
  |skip
 all_goals
  refine M.rt t.args.length
   (fun m=>([(1,.i at_),(2,.ptr 0 0),(5,.i (((t.args.take m).map (xd (up t.kind at_))).sum:Nat)),(20,.s .tm t.args),(21,.i t.args.length),(22,.i m)],⟨1,[(0,.var t.view)]⟩))
   (M.W Ay) ?_ ?_
  .intro m hm _;have hs1:=yq (xd (up t.kind at_)) t.args m hm;have hs2:=zc Tm.full (ZA hm);have hs3:((t.args.take m).map (xd (up t.kind at_))).sum<=(t.args.map Tm.full).sum:=by
    have a1:=zl Tm.full t.args m;have a2:=xh (f:=xd (up t.kind at_)) (g:=Tm.full) (t.args.take m) fun x _=>ay (MM x _) x.Ah;omega
   have hs4:=MM t.args[m] (up t.kind at_);have hs5:=t.args[m].Ah;have hc:=ih t.args[m] (up t.kind at_) dY dY dY dY (ze hs _ (ZA hm));rw[<-hpl] at hc hs1 hs3 hs4;simp only[<-hpl];refine M.w2 @hb @hc ?_;refine⟨rfl,trivial,?_⟩;simp only[hs1];exact(M.W Ay)
  .intro _;refine M.w0 ?_;rw[he];simp[zh,V.wk,V.An,za]
theorem Ykw(by_:Int)(hby: -549755813888<=by_/\by_<=549755813888):∀(n:Nat) (t:Tm) (fr:Int),t.full<=n->n<274877906944->-274877906944<=fr->fr+n<549755813888->t.shape=true->(∀p∈t.vars 0,0<=p.1/\p.1<9223372036854775808/\p.1+by_<9223372036854775808)->
 PC E 138 [.agg t.view,.i fr,.i by_] (.agg (t.re (z8 fr by_) 0).view):=by
 intro n;induction n with
 |zero=>intro t fr h;have:=t.Ac;omega
 |succ n ih=>
 intro t fr hsz hn h1 h2 hs hix;have hsz':=Tm.Af t;have hlen:=zd Tm.full Tm.Ac t.args;have hup:=M0 t.kind fr;have hpl:=NL t.kind fr;have hb:=NC t;by_cases hv:t.kind=1
 .have ht:=L0 hs hv;have hi:=hix (t.index,0) (by rw[I5 hs hv];simp);rw[ht];generalize t.index=i at hi;simp only at hi;rw[Xg,NA];have hvi:(vT i).index=i:=rfl;refine M.F Tryz.func138 ?_;(repeat' first|refine M.w0 ?_|refine M.cs ?_ ?_<;>intro h|fail);all_goals first
   |(exfalso;simp at h;done)
   |skip
  .have h3:i-0>=fr:=eU
   rw[if_pos h3];refine M.rt 0 (fun m=>([(1,.i fr),(2,.i by_),(3,.ptr 0 0),(6,.ptr 1 0),(7,.ptr 2 0),(32,.s .tm []),(33,.i 0),(34,.i m)],⟨3,[(0,.var (vT i).view),(1,.var [.i 0,.i 0,.i 0,.slice .nil (.t .ty []),.slice .nil (.t .tm [])]),(2,.var [.i 1,.i (i+by_),.i 0,.s .ty [],.slice .nil (.t .tm [])])]⟩))
    (M.W CI) ?_ ?_
   .intro m hm;omega
   .exact kR
  .have h3:¬i-0>=fr:=eU
   rw[if_neg h3];refine M.rt 0 (fun m=>([(1,.i fr),(2,.i by_),(3,.ptr 0 0),(6,.ptr 1 0),(7,.ptr 2 0),(32,.s .tm []),(33,.i 0),(34,.i m)],⟨3,[(0,.var (vT i).view),(1,.var [.i 0,.i 0,.i 0,.slice .nil (.t .ty []),.slice .nil (.t .tm [])]),(2,.var [.i 1,.i i,.i 0,.s .ty [],.slice .nil (.t .tm [])])]⟩))
    (M.W CI) ?_ ?_
   .intro m hm;omega
   .exact kR
 have he:=Zy2 (fr:=fr) (by_:=by_) hv;refine M.F Tryz.func138 ?_;(repeat' first|refine M.w0 ?_|refine M.gs ?_ ?_<;>intro h|refine M.cs ?_ ?_<;>intro h|fail);all_goals first
  |(exfalso;simp_all;done)
  |skip
 all_goals
  refine M.rt t.args.length (fun m=>([(1,.i fr),(2,.i by_),(3,.ptr 0 0),(6,.ptr 1 0),(7,.ptr 2 0),(32,.s .tm t.args),(33,.i t.args.length),(34,.i m)],⟨4,[(0,.var t.view),(1,.var [.i 0,.i 0,.i 0,.slice .nil (.t .ty []),.slice .nil (.t .tm [])]),(2,.var [.i t.kind,.i t.index,.i t.ty.kind,.s .ty t.ty.args,.slice (.own 3) (.t .tm ((t.args.take m).map fun x=>x.re (z8 (up t.kind fr) by_) 0))]),(3,.row)]⟩))
   (M.W HU) ?_ ?_
  .intro m hm _;have hs2:=zc Tm.full (ZA hm);have hc:=ih t.args[m] (up t.kind fr) dY dY dY dY (ze hs _ (ZA hm)) (fun p hp=>by
    obtain⟨q,hq,hqe⟩:=Sg (b':=up t.kind 0) p hp;have:=hix q (M6 hv (ZA hm) hq);rw[<-hqe];exact this)
   rw[<-hpl] at hc;simp only[<-hpl];refine M.w2 @hb @hc ?_;exact⟨rfl,trivial,(M.W [some 0,some 1,some 2,some 5] (he:=(by(repeat'(first|exact trivial|exact Or.inr ⟨_,U,rfl⟩|refine And.intro ?_ ?_|refine⟨_,U,_,U,_,U,?_⟩|exact Ai.refl _|exact Ai.of_eq eL));done)))⟩
  .exact mO
theorem O6(by_:Int)(hby: -549755813888<=by_/\by_<=549755813888):∀(n:Nat) (t:Tm) (fr:Int),t.full<=n->n<274877906944->-274877906944<=fr->fr+n<549755813888->t.shape=true->(∀p∈t.vars 0,0<=p.1/\p.1<549755813888)->
 PC E 138 [.agg t.view,.i fr,.i by_] (.agg (t.re (z8 fr by_) 0).view):=
 fun n t fr h1 h2 h3 h4 h5 h6=>Ykw by_ hby n t fr h1 h2 h3 h4 h5 fun p hp=>by have:=h6 p hp;omega
theorem Sh(k:Int):PC E 200 [.i k] (.bool (xy k)):=by
 have e:xy k=decide (k=4\/k=5\/k=6\/k=7):=by rw[aS,Bx,decide_eq_true_iff];omega
 rw[e];refine M.F Tryz.func200 ?_;(repeat' first|refine M.w0 ?_|refine M.gs ?_ ?_<;>intro h|fail);all_goals(simp_all[zh,V.wk,V.An,za];try(first|omega|(rw[aS];simp)))
theorem Nz(f:Fm):PC E 139 [.agg f.view] (.i (AR f.kind 0)):=by
 have h1:=Sh f.kind;cases hq:xy f.kind with
 |true=>
  have e:AR f.kind 0=1:=by simp[AR,hq]
  rw[hq] at h1;rw[e];refine M.F Tryz.func139 ?_;refine M.w1 @h1 ?_
  rfl
 |false=>
  have e:AR f.kind 0=0:=by simp[AR,hq]
  rw[hq] at h1;rw[e];refine M.F Tryz.func139 ?_;refine M.w1 @h1 ?_
  rfl
theorem Oo(k b:Int):b+AR k 0=AR k b:=fM
theorem Te(t:Ty):t.ok=(t.err==0):=Ty.Fo t
theorem Zz6{f:Fm}(hk:f.kind=1):f.shape=(decide (f.args.length=0)&&f.ty.B3&&decide (f.terms.length=2)&&f.terms.all Tm.shape):=by
 rw[Fm.Ak];simp only[Fm.head,hk,if_true];by_cases h:f.args.length=0
 .have ha:f.args=[]:=aO.1 h;rw[ha];cases f.ty.B3<;>simp;rw[aS];simp
 .simp[h]
theorem Zxi{f:Fm}(hk:f.kind=2\/f.kind=3):f.shape=(decide (f.terms.length=0)&&f.ty.B3&&decide (f.args.length=2)&&f.args.all Fm.shape):=by
 rw[Fm.Ak];have h1:¬f.kind=1:=dY
 simp only[Fm.head,if_neg h1,if_pos hk];by_cases h:f.terms.length=0
 .have ha:f.terms=[]:=aO.1 h;rw[ha];cases f.ty.B3<;>simp;rw[aS];simp
 .simp[h]
theorem Y9{f:Fm}(hk:xy f.kind=true):f.shape=(decide (f.terms.length=0)&&f.ty.ok&&decide (f.args.length=1)&&f.args.all Fm.shape):=by
 rw[Fm.Ak];rw[Bx] at hk;have h1:¬f.kind=1:=dY
 have h2:¬(f.kind=2\/f.kind=3):=dY
 have h3:f.kind=4\/f.kind=5\/f.kind=6\/f.kind=7:=dY
 simp only[Fm.head,if_neg h1,if_neg h2,if_pos h3];by_cases h:f.terms.length=0
 .have ha:f.terms=[]:=aO.1 h;rw[ha];cases f.ty.ok<;>simp;rw[aS];simp
 .simp[h]
theorem Yap{f:Fm}(h1:f.kind≠1)(h2:¬(f.kind=2\/f.kind=3))(h3:xy f.kind=false):f.shape=false:=by
 rw[Fm.Ak];have h4:¬(f.kind=4\/f.kind=5\/f.kind=6\/f.kind=7):=by
  intro hc;have:xy f.kind=true:=by rw[Bx];omega
  rw[h3] at this;cases this
 simp only[Fm.head,if_neg h1,if_neg h2,if_neg h4,bE]
theorem Vi:∀(n:Nat) (f:Fm),f.full<=n->n<549755813888->PC E 159 [.agg f.view] (.bool f.shape):=by
 intro n;induction n with
 |zero=>intro f h;have:=f.Ac;omega
 |succ n ih=>
 intro f hsz hn;have hsz':=f.Af;have hlen:=zd Fm.full Fm.Ac f.args;have hlen2:=zd Tm.full Tm.Ac f.terms;have hz:=Rg f.ty;have hty:=L9 f.ty dY;have hq:=Sh f.kind;have ht:∀x∈f.terms,PC E 158 [.agg x.view] (.bool x.shape):=fun x hx=>Ub _ x (ZB _) (by have:=zc Tm.full hx;omega);have ha:∀x∈f.args,PC E 159 [.agg x.view] (.bool x.shape):=fun x hx=>ih x (by have:=zc Fm.full hx;omega) dY;clear ih;by_cases k1:f.kind=1
 .have e:=Zz6 k1;obtain⟨k,ty,ts,fs⟩:=f;simp only[Fm.AA,Fm.Bk,Fm.AE,Fm.Ag] at*;subst k1;by_cases hl:ts.length=2
  .obtain ⟨a,b,rfl⟩:=PF hl;have t1:=ht a dZ;have t2:=ht b dZ;rw[e];refine M.F Tryz.func159 ?_;(repeat' first|refine M.w3 @hz @t1 @t2 ?_|refine M.gs ?_ ?_<;>intro h|refine M.zb ?_|fail);all_goals(simp at*;simp_all[zh,V.wk,V.An,za];done)
  .have e2:(Fm.mk 1 ty ts fs).shape=false:=by rw[e];simp[hl]
   rw[e2];refine M.F Tryz.func159 ?_;(repeat' first|refine M.w1 @hz ?_|refine M.gs ?_ ?_<;>intro h|refine M.zb ?_|fail);all_goals first|simp at*;simp_all[zh,V.wk,V.An,za];done|exfalso;simp at*;omega
 by_cases k2:f.kind=2\/f.kind=3
 .have e:=Zxi k2;obtain⟨k,ty,ts,fs⟩:=f;simp only[Fm.AA,Fm.Bk,Fm.AE,Fm.Ag] at*;by_cases hl:fs.length=2
  .obtain ⟨a,b,rfl⟩:=PF hl;have t1:=ha a dZ;have t2:=ha b dZ;rw[e];rcases k2 with rfl|rfl;all_goals
    refine M.F Tryz.func159 ?_;(repeat' first|refine M.w3 @hz @t1 @t2 ?_|refine M.gs ?_ ?_<;>intro h|refine M.zb ?_|fail);all_goals(simp at*;simp_all[zh,V.wk,V.An,za];done)
  .have e2:(Fm.mk k ty ts fs).shape=false:=by rw[e];simp[hl]
   rw[e2];rcases k2 with rfl|rfl;all_goals
    refine M.F Tryz.func159 ?_;(repeat' first|refine M.w1 @hz ?_|refine M.gs ?_ ?_<;>intro h|refine M.zb ?_|fail);all_goals first|simp at*;simp_all[zh,V.wk,V.An,za];done|exfalso;simp at*;omega
 cases k3:xy f.kind with
 |true=>
  have e:=Y9 k3;rw[k3] at hq;have hk:f.kind=4\/f.kind=5\/f.kind=6\/f.kind=7:=by rw[Bx] at k3;omega
  obtain⟨k,ty,ts,fs⟩:=f;simp only[Fm.AA,Fm.Bk,Fm.AE,Fm.Ag] at*;rw[Te] at e;by_cases hl:fs.length=1
  .obtain ⟨a,rfl⟩:=RR hl;have t1:=ha a dZ;rw[e];rcases hk with rfl|rfl|rfl|rfl;all_goals
    refine M.F Tryz.func159 ?_;(repeat' first|refine M.w3 @hty @hq @t1 ?_|refine M.gs ?_ ?_<;>intro h|refine M.zb ?_|fail);all_goals(simp at*;simp_all[zh,V.wk,V.An,za];done)
  .have e2:(Fm.mk k ty ts fs).shape=false:=by rw[e];simp[hl]
   rw[e2];rcases hk with rfl|rfl|rfl|rfl;all_goals
    refine M.F Tryz.func159 ?_;(repeat' first|refine M.w2 @hty @hq ?_|refine M.gs ?_ ?_<;>intro h|refine M.zb ?_|fail);all_goals first|simp at*;simp_all[zh,V.wk,V.An,za];done|exfalso;simp at*;omega
 |false=>
  have e:=Yap k1 k2 k3;rw[k3] at hq;rw[e];refine M.F Tryz.func159 ?_;(repeat' first|refine M.w1 @hq ?_|refine M.gs ?_ ?_<;>intro h|refine M.zb ?_|refine M.cs ?_ ?_<;>intro h|fail);all_goals first
   |rfl
   |(exfalso;simp at*;omega)
theorem Mi:∀(n:Nat) (f:Fm),f.full<=n->n<549755813888->PC E 146 [.agg f.view] (.i f.size):=by
 intro n;induction n with
 |zero=>intro f h;have:=f.Ac;omega
 |succ n ih=>
 intro f hsz hn;have hsz':=f.Af;have hse:=f.size_eq;have hlen:=zd Fm.full Fm.Ac f.args;have hlen2:=zd Tm.full Tm.Ac f.terms;have hle1:=xh (f:=Tm.size) (g:=Tm.full) f.terms fun x _=>x.Ah;have hle2:=xh (f:=Fm.size) (g:=Fm.full) f.args fun x _=>x.Ah;refine M.F Tryz.func146 ?_;refine M.w0 ?_;refine M.rt f.terms.length
  (fun m=>([(1,.ptr 0 0),(3,.i (1+((f.terms.take m).map Tm.size).sum:Nat)),(9,.s .tm f.terms),(10,.i f.terms.length),(11,.i m)],⟨1,[(0,.var f.view)]⟩))
  (M.W Ay) ?_ ?_
 .intro m hm _;have hs1:=yq Tm.size f.terms m hm;have hs2:=zc Tm.full (ZA hm);have hs3:=zl Tm.size f.terms (m+1);have hc:=yu _ f.terms[m] (ZB _) dY;refine M.w1 @hc ?_;refine⟨rfl,trivial,?_⟩;simp only[hs1];exact(M.W Ay (hf:=(by(repeat'(first|exact trivial|refine And.intro ?_ ?_|refine⟨_,U,_,U,?_⟩|exact Ai.refl _|exact Ai.of_eq fD));done)))
 .intro _;simp only[ZF];refine M.w0 ?_;refine M.rt f.args.length
   (fun m=>([(1,.ptr 0 0),(3,.i (1+(f.terms.map Tm.size).sum+((f.args.take m).map Fm.size).sum:Nat)),(21,.s .fm f.args),(22,.i f.args.length),(23,.i m)],⟨1,[(0,.var f.view)]⟩))
   (M.W Ay) ?_ ?_
  .intro m hm _;have hs1:=yq Fm.size f.args m hm;have hs2:=zc Fm.full (ZA hm);have hs3:=zl Fm.size f.args (m+1);have hc:=ih f.args[m] dY dY;refine M.w1 @hc ?_;refine⟨rfl,trivial,?_⟩;simp only[hs1];exact(M.W Ay (hf:=(by(repeat'(first|exact trivial|refine And.intro ?_ ?_|refine⟨_,U,_,U,?_⟩|exact Ai.refl _|exact Ai.of_eq fD));done)))
  .intro _;simp only[ZF];refine M.w0 ?_;rw[hse]
   rfl
theorem LX(f:Fm)(hf:f.full<549755813888):PC E 197 [.agg f.view] (.i f.err):=by
 have h1:=Vi _ f (ZB _) hf;have h2:=Mi _ f (ZB _) hf;have hle:=f.Ah;cases hs:f.shape with
 |false=>
  have e:f.err=2:=by simp[Fm.err,hs]
  rw[hs] at h1;rw[e];refine M.F Tryz.func197 ?_;refine M.w1 @h1 ?_
  rfl
 |true=>
  rw[hs] at h1;by_cases hz:f.size>4096
  .have e:f.err=4:=g9
   rw[e];refine M.F Tryz.func197 ?_;(repeat' first|refine M.w2 @h1 @h2 ?_|refine M.cs ?_ ?_<;>intro h|fail)
   .rfl
   .exact kX
  .have e:f.err=0:=g9
   rw[e];refine M.F Tryz.func197 ?_;(repeat' first|refine M.w2 @h1 @h2 ?_|refine M.cs ?_ ?_<;>intro h|fail)
   .exact kX
   .rfl
theorem Ve:∀(n:Nat) (f:Fm) (at_:Int),f.full<=n->n<274877906944->-274877906944<=at_->at_+n<549755813888->f.shape=true->PC E 258 [.agg f.view,.i at_] (.bool (decide (xq at_ f≠0))):=by
 intro n;induction n with
 |zero=>intro f at_ h;have:=f.Ac;omega
 |succ n ih=>
 intro f at_ hsz hn h1 h2 hs;have hsz':=f.Af;have hlen:=zd Fm.full Fm.Ac f.args;have hlen2:=zd Tm.full Tm.Ac f.terms;have he:=We (at_:=at_) hs;have hup:=Mh f.kind at_;have hpl:=Oo f.kind at_;have hb:=Nz f;refine M.F Tryz.func258 ?_;refine M.w0 ?_;refine M.rp f.terms.length (fun m=>∀j (hj:j<f.terms.length),j<m->xd at_ f.terms[j]=0)
  (fun m=>([(1,.i at_),(2,.ptr 0 0),(10,.s .tm f.terms),(11,.i f.terms.length),(12,.i m)],⟨1,[(0,.var f.view)]⟩))
  (fun j hj h=>dY) (M.W Ay) ?_ ?_
 .intro m hm hP;have hs2:=zc Tm.full (ZA hm);have hc:=Yhs _ f.terms[m] at_ (ZB _) dY dY dY (yh hs (ZA hm));(repeat' first|refine M.w1 @hc ?_|refine M.cs ?_ ?_<;>intro h|fail)
  .have hx:xd at_ f.terms[m]≠0:=ek
   have:=Tu hm hx;rw[he,decide_eq_true (show _≠0 by omega)];rfl
  .have hx:xd at_ f.terms[m]=0:=ek
   exact⟨rfl,ya (p:=fun t'=>xd at_ t'=0) hm hP hx,(M.W Ay)⟩
 .intro hP;rw[Sf (f:=xd at_) fun j hj=>hP j hj hj,aq] at he;refine M.w0 ?_;refine M.rp f.args.length (fun m=>∀j (hj:j<f.args.length),j<m->xq (AR f.kind at_) f.args[j]=0)
   (fun m=>([(1,.i at_),(2,.ptr 0 0),(21,.s .fm f.args),(22,.i f.args.length),(23,.i m)],⟨1,[(0,.var f.view)]⟩))
   (fun j hj h=>dY) (M.W Ay) ?_ ?_
  .intro m hm hP;have hs2:=zc Fm.full (ZA hm);have hc:=ih f.args[m] (AR f.kind at_) dY dY dY dY (zv hs (ZA hm));rw[<-hpl] at hc;rw[<-hpl] at hP he;(repeat' first|refine M.w2 @hb @hc ?_|refine M.cs ?_ ?_<;>intro h|fail)
   .have hx:xq (at_+AR f.kind 0) f.args[m]≠0:=ek
    rw[he,decide_eq_true (Tu hm hx)];rfl
   .have hx:xq (at_+AR f.kind 0) f.args[m]=0:=ek
    exact⟨rfl,by rw[<-hpl];exact ya (p:=fun t'=>xq (at_+AR f.kind 0) t'=0) hm hP hx,(M.W Ay)⟩
  .intro hP;rw[he,Sf fun j hj=>hP j hj hj];refine M.w0 ?_
   rfl
theorem Ycw:∀(n:Nat) (f:Fm) (g:List Ty),f.full<=n->n<100000000->f.shape=true->(∀x∈g,x.err=0)->g.length+n<274877906944->g.length+f.size<100000->PC E 249 [.s .ty g,.agg f.view] (.i (f.Fe g)):=by
 intro n;induction n with
 |zero=>intro f g h;have:=f.Ac;omega
 |succ n ih=>
 intro f g hsz hn hs hg hgl hgz;have hsz':=f.Af;have hse:=f.size_eq;have hlen:=zd Fm.full Fm.Ac f.args;have hlen2:=zd Tm.full Tm.Ac f.terms;have he:=Fm.Gk g f;have hq:=Sh f.kind;refine M.F Tryz.func249 ?_;refine M.w0 ?_;refine M.rp f.terms.length (fun m=>∀j (hj:j<f.terms.length),j<m->tE g f.terms[j]=0)
  (fun m=>([(0,.s .ty g),(3,.ptr 0 0),(13,.s .tm f.terms),(14,.i f.terms.length),(15,.i m)],⟨1,[(0,.var f.view)]⟩))
  (fun j hj h=>dY) (M.W Ay) ?_ ?_
 .intro m hm hP;have hs2:=zc Tm.full (ZA hm);have hc:=XT g f.terms[m] dY hg dY;have hfi:tE g f.terms[m]≠0->f.Fe g=tE g f.terms[m]:=fun hx=>by
   have h1:=L2 hm hP hx;rw[he,h1,if_pos hx]
  by_cases hx:(E5 g f.terms[m]).2=0
  .by_cases hk:(E5 g f.terms[m]).1.kind=1
   .have ht:tE g f.terms[m]=0:=by simp[tE,hx,hk]
    rw[hx] at hc;(repeat' first|refine M.w1 @hc ?_|refine M.cs ?_ ?_<;>intro h|fail)
    .exfalso;simp at h;exact h hk
    .exact ⟨rfl,ya (p:=fun t'=>tE g t'=0) hm hP ht,(M.W Ay)⟩
   .have ht:tE g f.terms[m]=7:=by simp[tE,hx,hk]
    rw[ht] at hfi;rw[hfi ej];rw[hx] at hc;(repeat' first|refine M.w1 @hc ?_|refine M.cs ?_ ?_<;>intro h|fail)
    .rfl
    .exfalso;simp at h;exact hk h
  .have ht:tE g f.terms[m]=(E5 g f.terms[m]).2:=by simp[tE,hx]
   rw[ht] at hfi;rw[hfi hx];(repeat' first|refine M.w1 @hc ?_|refine M.cs ?_ ?_<;>intro h|fail)
   .rfl
   all_goals(exfalso;simp_all)
 .intro hP;have h0:w8 (tE g) f.terms=0:=vn fun j hj _=>hP j hj hj;rw[if_neg (by simp[h0])] at he;have htyl:=f.ty.size_pos;have hrest:∀g',g'=Ed g f->(∀x∈g',x.err=0)/\g'.length<=g.length+1/\∀(m:Nat) (hm:m<f.args.length),PC E 249 [.s .ty g',.agg f.args[m].view] (.i (f.args[m].Fe g')):=fun g' hg'=>by
   have hl:g'.length<=g.length+1:=by rw[hg'];simp only[Ed];split<;>simp
   have hee:∀x∈g',x.err=0:=fun x hx=>by
    rw[hg'] at hx;simp only[Ed] at hx;split at hx
    .rename_i hqk;rcases ZU.1 hx with hx|hx
     .exact hg x hx
     .rw[ah] at hx;subst hx;have h1:=Y9 hqk;rw[hs] at h1;have h2:f.ty.ok=true:=by
       cases ho:f.ty.ok with
       |true=>rfl
       |false=>rw[ho] at h1;simp at h1
      rw[Te] at h2;simpa using h2
    .exact hg x hx
   refine⟨hee,hl,fun m hm=> ?_⟩;have hs2:=zc Fm.full (ZA hm);have hs3:=zc Fm.size (ZA hm);exact ih f.args[m] g' dY dY (zv hs (ZA hm)) hee dY dY
  cases hqk:xy f.kind with
  |true=>
   rw[hqk] at hq;have hcx:Ed g f=g++[f.ty]:=Jk hqk;obtain⟨_,_,hcall⟩:=hrest (g++[f.ty]) hcx.symm;rw[hcx] at he;refine M.w1 @hq ?_;refine M.rp f.args.length (fun m=>∀j (hj:j<f.args.length),j<m->f.args[j].Fe (g++[f.ty])=0)
    (fun m=>([(0,.s .ty (g++[f.ty])),(3,.ptr 0 0),(46,.s .fm f.args),(47,.i f.args.length),(48,.i m)],⟨1,[(0,.var f.view)]⟩))
    (fun j hj h=>dY) (M.W Ay) ?_ ?_
   .intro m hm hP;have hc:=hcall m hm;by_cases hx:f.args[m].Fe (g++[f.ty])=0
    .rw[hx] at hc;refine M.w1 @hc ?_;exact⟨rfl,ya (p:=fun t'=>Fm.Fe (g++[f.ty]) t'=0) hm hP hx,(M.W Ay)⟩
    .exact lY
   .intro hP;rw[he,vn fun j hj _=>hP j hj hj];refine M.w0 ?_
    rfl
  |false=>
   rw[hqk] at hq;have hcx:Ed g f=g:=JF (by simp[hqk]);obtain⟨_,_,hcall⟩:=hrest g hcx.symm;rw[hcx] at he;refine M.w1 @hq ?_;refine M.rp f.args.length (fun m=>∀j (hj:j<f.args.length),j<m->f.args[j].Fe g=0)
    (fun m=>([(0,.s .ty g),(3,.ptr 0 0),(46,.s .fm f.args),(47,.i f.args.length),(48,.i m)],⟨1,[(0,.var f.view)]⟩))
    (fun j hj h=>dY) (M.W Ay) ?_ ?_
   .intro m hm hP;have hc:=hcall m hm;by_cases hx:f.args[m].Fe g=0
    .rw[hx] at hc;refine M.w1 @hc ?_;exact⟨rfl,ya (p:=fun t'=>Fm.Fe g t'=0) hm hP hx,(M.W Ay)⟩
    .exact lY
   .intro hP;rw[he,vn fun j hj _=>hP j hj hj];refine M.w0 ?_
    rfl
theorem OU(g:List Ty)(f:Fm)(hf:f.full<549755813888)(hg:∀x∈g,x.err=0)(hgl:g.length<90000):PC E 227 [.s .ty g,.agg f.view] (.i (um g f)):=by
 have h1:=LX f hf;by_cases he:f.err=0
 .have h2:=(Fm.Ad f).1 he;have h3:=yw he;have h4:=Ycw _ f g (ZB _) dY h2.1 hg dY dY;have e:um g f=f.Fe g:=by simp only[um];rw[if_neg fY]
  rw[he] at h1;rw[e];refine M.F Tryz.func227 ?_;refine M.w2 @h1 @h4 ?_
  rfl
 .have e:um g f=f.err:=by simp only[um];rw[if_pos he]
  rw[e];refine M.F Tryz.func227 ?_;(repeat' first|refine M.w1 @h1 ?_|refine M.cs ?_ ?_<;>intro h|fail)
  .rfl
  .exfalso;simp at h;exact he h
theorem OY(g:List Ty)(f:Fm)(hf:f.full<549755813888)(hg:(g.map Ty.size).sum<1099511627776):PC E 194 [.s .ty g,.agg f.view] (.i (y9 g f)):=by
 have h1:=Rt g hg;by_cases he:xz g=0
 .have h2:=uv he;have h4:=OU g f hf h2.2 dY;have e:y9 g f=um g f:=by simp only[y9];rw[if_neg fY]
  rw[he] at h1;rw[e];refine M.F Tryz.func194 ?_;refine M.w2 @h1 @h4 ?_
  rfl
 .have e:y9 g f=xz g:=by simp only[y9];rw[if_pos he]
  rw[e];refine M.F Tryz.func194 ?_;(repeat' first|refine M.w1 @h1 ?_|refine M.cs ?_ ?_<;>intro h|fail)
  .rfl
  .exfalso;simp at h;exact he h
end Go.Ab
