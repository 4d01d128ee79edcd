/- A part of this seat's proofs. No conditions. -/
import Derived.Test.YtmhcohcihajegaaGreatDoorCS17
namespace Go.Ab
open Go Go.Proofs
set_option maxRecDepth 100000
set_option maxHeartbeats 4000000
set_option linter.all false
theorem Ylg(at_:Int)(s:Tm)(hat:0<=at_/\at_<274877906944)(hs:s.full<274877906944)(hsi:∀p∈s.vars 0,0<=p.1/\p.1<549755813888)(t:Tm)(bl:Int)(ht:t.full<274877906944)(hb:0<=bl/\bl<274877906944)(hix:∀p∈t.vars 0,0<=p.1/\p.1<549755813888):
 AC E 268 [.agg t.view,.i bl,.ptr 0 0,.ptr 1 0] ⟨2,[(0,.var [.i at_]),(1,.var s.view)]⟩ (.agg (t.re (yq (at_+bl) s) 0).view) ⟨2,[(0,.var [.i at_]),(1,.var s.view)]⟩:=by
 have hc:=YS t (at_+bl) s kn hs hsi ht hix;refine M.F Tryz.func268 ?_;refine M.w1 @hc ?_
 (exact M.n2 Bo (h8:=lN))
theorem Yln(at_:Int)(s:Tm)(hat:0<=at_/\at_<274877906944)(hs:s.full<274877906944)(hsi:∀p∈s.vars 0,0<=p.1/\p.1<549755813888):∀(n:Nat) (f:Fm) (bl:Int),f.full<=n->n<274877906944->0<=bl->bl+n<274877906944->(∀p∈f.A6 bl,∀q∈p.1.vars 0,0<=q.1/\q.1<549755813888)->
 AC E 182 [.agg f.view,.i bl,.fn (.func 268) [] [.ptr 0 0,.ptr 1 0]] ⟨2,[(0,.var [.i at_]),(1,.var s.view)]⟩ (.agg (f.re (fun b t=>t.re (yq (at_+b) s) 0) bl).view) ⟨2,[(0,.var [.i at_]),(1,.var s.view)]⟩:=by
 intro n;induction n with
 |zero=>intro f bl h;intros;have:=f.Ad;omega
 |succ n ih=>
 intro f bl hsz hb hbl hbn hix;have hsz':=f.Ag;have hlen:=ze Fm.full Fm.Ad f.args;have hlen2:=ze Tm.full Tm.Ad f.terms;have hty:=It _ f.ty (fB _) kn;have hq:=OZ f.kind;have hre:=Fm.A4 (fun b t=>t.re (yq (at_+b) s) 0) bl f;have htm:=f.A0 bl;refine M.F Tryz.func182 ?_;refine M.w1 @hty ?_;refine M.rt f.terms.length
  (fun m=>([(1,.i bl),(2,.fn (.func 268) [] [.ptr 0 0,.ptr 1 0]),(3,.ptr 2 0),(6,.ptr 3 0),(7,.ptr 4 0),(19,.s .tm f.terms),(20,.i f.terms.length),(21,.i m)],⟨6,[(0,.var [.i at_]),(1,.var s.view),(2,.var f.view),(3,.var [.i 0,.i 0,.slice .nil (.t .ty []),.slice .nil (.t .tm []),.slice .nil (.t .fm [])]),(4,.var [.i f.kind,.i f.ty.kind,.s .ty f.ty.args,.slice (.own 5) (.t .tm ((f.terms.take m).map ((fun b t=>t.re (yq (at_+b) s) 0) bl))),.slice .nil (.t .fm [])]),(5,.row)]⟩))
  (M.W Qu) ?_ ?_
 .intro m hm _;have hs2:=zc Tm.full (fA hm);have hc:=Ylg at_ s hat hs hsi f.terms[m] bl kn kn (fun p hp=>hix _ mI p hp);refine M.w1 @hc ?_;exact⟨rfl,trivial,(M.W [some 0,some 1,some 2,some 3,some 4,some 7] (he:=(by(repeat'(first|exact trivial|exact Or.inr ⟨_,U,rfl⟩|refine And.intro ?_ ?_|refine⟨_,U,_,U,_,U,?_⟩|exact Ap.refl _|exact Ap.of_eq kO));done)))⟩
 .intro _;simp only[fH];cases hqk:wc f.kind with
  |true=>
   rw[hqk] at hq;have hu:A3 f.kind bl=bl+1:=nH
   rw[hu] at hre htm;refine M.w1 @hq ?_;refine M.rt f.args.length
    (fun m=>([(1,.i (bl+1)),(2,.fn (.func 268) [] [.ptr 0 0,.ptr 1 0]),(3,.ptr 2 0),(6,.ptr 3 0),(7,.ptr 4 0),(41,.s .fm f.args),(42,.i f.args.length),(43,.i m)],⟨7,[(0,.var [.i at_]),(1,.var s.view),(2,.var f.view),(3,.var [.i 0,.i 0,.slice .nil (.t .ty []),.slice .nil (.t .tm []),.slice .nil (.t .fm [])]),(4,.var [.i f.kind,.i f.ty.kind,.s .ty f.ty.args,.slice (.own 5) (.t .tm (f.terms.map ((fun b t=>t.re (yq (at_+b) s) 0) bl))),.slice (.own 6) (.t .fm ((f.args.take m).map (Fm.re (fun b t=>t.re (yq (at_+b) s) 0) (bl+1))))]),(5,.row),(6,.row)]⟩))
    (M.W PS) ?_ ?_
   .intro m hm _;have hs2:=zc Fm.full (fA hm);have hc:=ih f.args[m] (bl+1) kn kn kn kn (fun p hp=>hix p nQ);refine M.w1 @hc ?_;exact⟨rfl,trivial,(M.W [some 0,some 1,some 2,some 3,some 4,some 5,some 8] (he:=(by(repeat'(first|exact trivial|exact Or.inr ⟨_,U,rfl⟩|refine And.intro ?_ ?_|refine⟨_,U,_,U,_,U,?_⟩|exact Ap.refl _|exact Ap.of_eq kO));done)))⟩
   .exact qL
  |false=>
   rw[hqk] at hq;have hu:A3 f.kind bl=bl:=nH
   rw[hu] at hre htm;refine M.w1 @hq ?_;refine M.rt f.args.length
    (fun m=>([(1,.i bl),(2,.fn (.func 268) [] [.ptr 0 0,.ptr 1 0]),(3,.ptr 2 0),(6,.ptr 3 0),(7,.ptr 4 0),(41,.s .fm f.args),(42,.i f.args.length),(43,.i m)],⟨7,[(0,.var [.i at_]),(1,.var s.view),(2,.var f.view),(3,.var [.i 0,.i 0,.slice .nil (.t .ty []),.slice .nil (.t .tm []),.slice .nil (.t .fm [])]),(4,.var [.i f.kind,.i f.ty.kind,.s .ty f.ty.args,.slice (.own 5) (.t .tm (f.terms.map ((fun b t=>t.re (yq (at_+b) s) 0) bl))),.slice (.own 6) (.t .fm ((f.args.take m).map (Fm.re (fun b t=>t.re (yq (at_+b) s) 0) bl)))]),(5,.row),(6,.row)]⟩))
    (M.W PS) ?_ ?_
   .intro m hm _;have hs2:=zc Fm.full (fA hm);have hc:=ih f.args[m] bl kn kn kn kn (fun p hp=>hix p nQ);refine M.w1 @hc ?_;exact⟨rfl,trivial,(M.W [some 0,some 1,some 2,some 3,some 4,some 5,some 8] (he:=(by(repeat'(first|exact trivial|exact Or.inr ⟨_,U,rfl⟩|refine And.intro ?_ ?_|refine⟨_,U,_,U,_,U,?_⟩|exact Ap.refl _|exact Ap.of_eq kO));done)))⟩
   .exact qL
theorem Ykb(f:Fm)(at_:Int)(s:Tm)(hat:0<=at_/\at_<274877906944)(hs:s.full<274877906944)(hsi:∀p∈s.vars 0,0<=p.1/\p.1<549755813888)(hf:f.full<137438953472)(hix:∀p∈f.A6 0,∀q∈p.1.vars 0,0<=q.1/\q.1<549755813888):PC E 252 [.agg f.view,.i at_,.agg s.view] (.agg (f.put at_ s).view):=by
 have hc:=Yln at_ s hat hs hsi _ f 0 (fB _) kn kn kn hix;refine M.F Tryz.func252 ?_;(repeat' first|refine M.w0 ?_|refine M.cv (hc) [1,2] 0 ?_|fail)
 rfl
theorem Ytw(a:Int)(s:Tm)(ha:0<=a/\a<100000000000)(hs:s.full<274877906944)(hsi:∀p∈s.vars 0,0<=p.1/\p.1<549755813888)(t:Tm)(bl:Int)(ht:t.full<274877906944)(hb:0<=bl/\bl<100000000000)(hix:∀p∈t.vars 0,0<=p.1/\p.1<549755813888):
 AC E 249 [.agg t.view,.i bl,.ptr 0 0,.ptr 1 0] ⟨2,[(0,.var [.i a]),(1,.var s.view)]⟩ (.agg (t.re (yq (a+bl) s) 0).view) ⟨2,[(0,.var [.i a]),(1,.var s.view)]⟩:=by
 have hc:=YS t (a+bl) s kn hs hsi ht hix;generalize t.re (yq (a+bl) s) 0=u at*;refine M.F Tryz.func249 ?_;refine M.w1 @hc ?_
 (exact M.n2 Bo (h8:=lN))
theorem Ytp(a:Int)(s:Tm)(ha:0<=a/\a<100000000000)(hs:s.full<274877906944)(hsi:∀p∈s.vars 0,0<=p.1/\p.1<549755813888)(f:Fm)(bl:Int)(ht:f.full<137438953472)(hb:0<=bl/\bl<100000000000)(hix:∀p∈f.A6 0,∀q∈p.1.vars 0,0<=q.1/\q.1<549755813888):
 AC E 251 [.agg f.view,.i bl,.ptr 0 0,.ptr 1 0] ⟨2,[(0,.var [.i a]),(1,.var s.view)]⟩ (.agg (f.put (a+bl) s).view) ⟨2,[(0,.var [.i a]),(1,.var s.view)]⟩:=by
 have hc:=Ykb f (a+bl) s kn hs hsi ht hix;generalize f.put (a+bl) s=F at*;refine M.F Tryz.func251 ?_;refine M.w1 @hc ?_
 (exact M.n2 Bo (h8:=oW))
theorem Ypa(a:Int)(s:Tm)(ha:0<=a/\a<10000000000)(hs0:s.full<274877906944)(hsi:∀p∈s.vars 0,0<=p.1/\p.1<549755813888):∀(n:Nat) (p:Pf) (v y:Int),p.full<=n->n<10000000000->(0<=v/\v+2*n<=50000000000)->(0<=y/\y+2*n<=50000000000)->p.nd->p.ix 549755813888->
 AC E 108 [.agg p.view,.agg [.i v,.i y],.agg [.fn (.func 249) [] [.ptr 0 0,.ptr 1 0],.fn (.func 251) [] [.ptr 0 0,.ptr 1 0],.nilf]] ⟨2,[(0,.var [.i a]),(1,.var s.view)]⟩ (.agg (p.pt a s v).view) ⟨2,[(0,.var [.i a]),(1,.var s.view)]⟩:=by
 intro n;induction n with
 |zero=>intro p v y hz;have:=p.Ad;omega
 |succ n ih=>
 intro p v y hz hn hv hh hs hix;obtain⟨i1,i2,i3⟩:=(Pf.Bl _ p).1 hix;have hre:=p.Fa a s v;have hsz':=p.Ag;have hlen:=ze Pf.full Pf.Ad p.args;have hlen1:=ze Fm.full Fm.Ad p.Ae;have hlen2:=ze Tm.full Tm.Ad p.terms;have hty:=It _ p.ty (fB _) kn;have hru:=Js p.kind;obtain⟨⟨nd,n1,n4⟩,hpf⟩:=(Pf.BU p).1 hs;have hal:p.args.length<=2:=by
  exact pW
 have hpl:=fun(m:Nat) (hm:m<=1000000)=>wd p.kind v y nd n1 m hm kn kn;have e2:Ds p.kind=[.bool nd.index,.bool nd.typ,.i nd.terms,.i nd.Ae,.i nd.args,.i (AN p.kind),.i (Aw p.kind),.i (AA p.kind)]:=lp
 have b1:0<=Aw p.kind/\Aw p.kind<=2:=kT
 have b2:0<=AA p.kind/\AA p.kind<=1:=kX
 have b3:0<=AN p.kind/\AN p.kind<=1:=kW
 rw[n1] at hru;simp only[gI] at hru;rw[e2] at hru;simp only[e2] at hpl;refine M.F Tryz.func108 ?_;(repeat' first|refine M.w2 @hru @hty ?_|refine M.gs ?_ ?_<;>intro h|fail);all_goals
  refine M.rt p.terms.length
   (fun m=>([(3,.ptr 2 0),(4,.ptr 3 0),(5,.ptr 4 0),(6,.ptr 5 0),(7,.ptr 6 0),(9,.ptr 7 0),(44,.s .tm p.terms),(45,.i p.terms.length),(46,.i m)],⟨9,[(0,.var [.i a]),(1,.var s.view),(2,.var p.view),(3,.var [.i v,.i y]),(4,.var [.fn (.func 249) [] [.ptr 0 0,.ptr 1 0],.fn (.func 251) [] [.ptr 0 0,.ptr 1 0],.nilf]),(5,.var [.i 0,.i 0,.i 0,.slice .nil (.t .ty []),.slice .nil (.t .tm []),.slice .nil (.t .fm []),.slice .nil (.t .pf [])]),(6,.var [.bool nd.index,.bool nd.typ,.i nd.terms,.i nd.Ae,.i nd.args,.i (AN p.kind),.i (Aw p.kind),.i (AA p.kind)]),(7,.var [.i p.kind,.i p.index,.i p.ty.kind,.s .ty p.ty.args,.slice (.own 8) (.t .tm ((p.terms.take m).map fun t=>t.re (yq (a+v) s) 0)),.slice .nil (.t .fm []),.slice .nil (.t .pf [])]),(8,.row)]⟩))
   (M.W OT) ?_ ?_
  .intro m hm _;have hs2:=zc Tm.full (fA hm);have hc:=Ytw a s kn hs0 hsi p.terms[m] v kn kn (i1 _ (fA hm));refine M.w1 @hc ?_;exact⟨rfl,trivial,(M.W [some 0,some 1,some 2,some 3,some 4,some 5,some 6,some 7,some 10] (he:=(by(repeat'(first|exact trivial|exact Or.inr ⟨_,U,rfl⟩|refine And.intro ?_ ?_|refine⟨_,U,_,U,_,U,?_⟩|exact Ap.refl _|exact Ap.of_eq kO));done)))⟩
  .intro _;simp only[fH];refine M.w0 ?_;refine M.rt p.Ae.length
    (fun m=>([(3,.ptr 2 0),(4,.ptr 3 0),(5,.ptr 4 0),(6,.ptr 5 0),(7,.ptr 6 0),(9,.ptr 7 0),(73,.s .fm p.Ae),(74,.i p.Ae.length),(75,.i m)],⟨10,[(0,.var [.i a]),(1,.var s.view),(2,.var p.view),(3,.var [.i v,.i y]),(4,.var [.fn (.func 249) [] [.ptr 0 0,.ptr 1 0],.fn (.func 251) [] [.ptr 0 0,.ptr 1 0],.nilf]),(5,.var [.i 0,.i 0,.i 0,.slice .nil (.t .ty []),.slice .nil (.t .tm []),.slice .nil (.t .fm []),.slice .nil (.t .pf [])]),(6,.var [.bool nd.index,.bool nd.typ,.i nd.terms,.i nd.Ae,.i nd.args,.i (AN p.kind),.i (Aw p.kind),.i (AA p.kind)]),(7,.var [.i p.kind,.i p.index,.i p.ty.kind,.s .ty p.ty.args,.slice (.own 8) (.t .tm (p.terms.map fun t=>t.re (yq (a+v) s) 0)),.slice (.own 9) (.t .fm ((p.Ae.take m).map fun f=>f.put (a+(v+AN p.kind)) s)),.slice .nil (.t .pf [])]),(8,.row),(9,.row)]⟩))
    (M.W Sa) ?_ ?_
   .intro m hm _;have hs2:=zc Fm.full (fA hm);have hc:=Ytp a s kn hs0 hsi p.Ae[m] (v+AN p.kind) kn kn (i2 _ (fA hm));refine M.w1 @hc ?_;exact⟨rfl,trivial,(M.W [some 0,some 1,some 2,some 3,some 4,some 5,some 6,some 7,some 8,some 11] (he:=(by(repeat'(first|exact trivial|exact Or.inr ⟨_,U,rfl⟩|refine And.intro ?_ ?_|refine⟨_,U,_,U,_,U,?_⟩|exact Ap.refl _|exact Ap.of_eq kO));done)))⟩
   .intro _;simp only[fH];refine M.w0 ?_;refine M.rt p.args.length
     (fun m=>([(3,.ptr 2 0),(4,.ptr 3 0),(5,.ptr 4 0),(6,.ptr 5 0),(7,.ptr 6 0),(9,.ptr 7 0),(105,.s .pf p.args),(106,.i p.args.length),(107,.i m)],⟨11,[(0,.var [.i a]),(1,.var s.view),(2,.var p.view),(3,.var [.i v,.i y]),(4,.var [.fn (.func 249) [] [.ptr 0 0,.ptr 1 0],.fn (.func 251) [] [.ptr 0 0,.ptr 1 0],.nilf]),(5,.var [.i 0,.i 0,.i 0,.slice .nil (.t .ty []),.slice .nil (.t .tm []),.slice .nil (.t .fm []),.slice .nil (.t .pf [])]),(6,.var [.bool nd.index,.bool nd.typ,.i nd.terms,.i nd.Ae,.i nd.args,.i (AN p.kind),.i (Aw p.kind),.i (AA p.kind)]),(7,.var [.i p.kind,.i p.index,.i p.ty.kind,.s .ty p.ty.args,.slice (.own 8) (.t .tm (p.terms.map fun t=>t.re (yq (a+v) s) 0)),.slice (.own 9) (.t .fm (p.Ae.map fun f=>f.put (a+(v+AN p.kind)) s)),.slice (.own 10) (.t .pf ((Pf.pts a s v (Aw p.kind) p.args).take m))]),(8,.row),(9,.row),(10,.row)]⟩))
     (M.W Se) ?_ ?_
    .intro m hm _;have hs2:=zc Pf.full (fA hm);have hb:=hpl m kn;have hc:=ih p.args[m] (if m+1=p.args.length then v+Aw p.kind else v) (if(m:Int)=(nd.args:Int)-1 then y+AA p.kind else y) kn kn kJ kJ (hpf _ (fA hm)) (i3 _ (fA hm));have ev:(if(m:Int)=(nd.args:Int)-1 then v+Aw p.kind else v)=(if m+1=p.args.length then v+Aw p.kind else v):=by
      exact pS
     rw[ev] at hb;refine M.w2 @hb @hc ?_;exact⟨rfl,trivial,(M.W [some 0,some 1,some 2,some 3,some 4,some 5,some 6,some 7,some 8,some 9,some 12] (he:=(by(repeat'(first|exact trivial|exact Or.inr ⟨_,U,rfl⟩|refine And.intro ?_ ?_|refine⟨_,U,_,U,_,U,?_⟩|exact Ap.refl _|exact Ap.of_eq (by simp[Ao.AH,Ygc hm])));done)))⟩
    .intro _;simp only[Ylu];refine M.w0 ?_;rw[hre]
     (exact M.n2 Bo (h8:=lD))
theorem Yri(p:Pf)(a:Int)(s:Tm)(ha:0<=a/\a<10000000000)(hs0:s.full<274877906944)(hsi:∀p∈s.vars 0,0<=p.1/\p.1<549755813888)(hp:p.full<5000000000)(hs:p.nd)(hix:p.ix 549755813888):
 PC E 230 [.agg p.view,.i a,.agg s.view] (.agg (p.pt a s 0).view):=by
 have hc:=Ypa a s ha hs0 hsi _ p 0 0 (fB _) kn kn kn hs hix;generalize p.pt a s 0=P at*;refine M.F Tryz.func230 ?_;(repeat' first|refine M.w0 ?_|refine M.cv (hc) [1,2] 0 ?_|fail);simp[zn,V.wk,V.Ar,za,Ty.view,Tm.view]
theorem UU(a:Int)(q:Pf)(ha:0<=a/\a<10000000000)(hq:q.full<5000000000)(hqn:q.nd)(v y:Int)(hy:0<=y/\y<100000000000)(p:Pf)(hp:0<=p.index/\p.index<549755813888):
 AC E 126 [.agg p.view,.agg [.i v,.i y],.ptr 0 0,.ptr 1 0] ⟨2,[(0,.var [.i a]),(1,.var q.view)]⟩ (.agg (if p.index-y=a then q.H9 v (a+y) else if p.index-y>a then vd (p.index-1) else vd p.index).view) ⟨2,[(0,.var [.i a]),(1,.var q.view)]⟩:=by
 have h1:=Qx (p.index-1);have h2:=Qx p.index;have h3:=Yqc q 0 v kn kn hqn;have h4:=Yrt (q.uw 0 v 0) 0 (a+y) (by have:=Yj6 0 v q 0;omega) (Yt9 0 v q hqn 0);have e:q.H9 v (a+y)=(q.uw 0 v 0).hw 0 (a+y) 0:=rfl;rw[<-e] at h4;generalize q.H9 v (a+y)=U at*;generalize q.uw 0 v 0=W at*;by_cases h0:p.index-y=a
 .rw[if_pos h0];refine M.F Tryz.func126 ?_;(repeat' first|refine M.v4 @h1 @h2 @h3 @h4 ?_|refine M.cs ?_ ?_<;>intro h|fail);all_goals first|exfalso;simp at h;omega|exfalso;simp_all;done|exact M.n2 Bo (h8:=kG)
 rw[if_neg h0];by_cases h5:p.index-y>a
 .rw[if_pos h5];refine M.F Tryz.func126 ?_;(repeat' first|refine M.o2 @h1 @h2 ?_|refine M.z1 3 ?_|refine M.bl ?_|refine M.cs ?_ ?_<;>intro h|refine M.gk ?_|fail);all_goals first|exfalso;simp at h;omega|exfalso;simp at*;omega|exact M.n2 Bo (h8:=mg)
 .rw[if_neg h5];refine M.F Tryz.func126 ?_;(repeat' first|refine M.o2 @h1 @h2 ?_|refine M.z1 3 ?_|refine M.bl ?_|refine M.cs ?_ ?_<;>intro h|refine M.gk ?_|fail);all_goals first|exfalso;simp at h;omega|exfalso;simp at*;omega|exact M.n2 Bo (h8:=mg)
theorem Yqb(a:Int)(q:Pf)(ha:0<=a/\a<10000000000)(hq:q.full<5000000000)(hqn:q.nd):∀(n:Nat) (p:Pf) (v y:Int),p.full<=n->n<10000000000->(0<=v/\v+2*n<=50000000000)->(0<=y/\y+2*n<=50000000000)->p.nd->p.hx 549755813888->
 AC E 108 [.agg p.view,.agg [.i v,.i y],.agg [.nilf,.nilf,.fn (.func 126) [] [.ptr 0 0,.ptr 1 0]]] ⟨2,[(0,.var [.i a]),(1,.var q.view)]⟩ (.agg (Pf.ph a q v y p).view) ⟨2,[(0,.var [.i a]),(1,.var q.view)]⟩:=by
 intro n;induction n with
 |zero=>intro p v y hz;have:=p.Ad;omega
 |succ n ih=>
 intro p v y hz hn hv hh hs hhx;obtain⟨i1,i2⟩:=(Pf.Bj _ p).1 hhx;have hre:=Pf.Ht a q v y p;by_cases hk:p.kind=1
 .rw[if_pos hk] at hre;rw[hre];have hc:=UU a q ha hq hqn v y kn p (i1 hk);refine M.F Tryz.func108 ?_;(repeat' first|refine M.o1 @hc ?_|refine M.gs ?_ ?_<;>intro h|refine M.z1 3 ?_|refine M.gk ?_|fail);all_goals first|exfalso;simp at h;omega|exfalso;simp_all;done|exact M.n2 Bo (h8:=kG)
 rw[if_neg hk] at hre;have hsz':=p.Ag;have hlen:=ze Pf.full Pf.Ad p.args;have hlen1:=ze Fm.full Fm.Ad p.Ae;have hlen2:=ze Tm.full Tm.Ad p.terms;have hty:=It _ p.ty (fB _) kn;have hru:=Js p.kind;obtain⟨⟨nd,n1,n4⟩,hpf⟩:=(Pf.BU p).1 hs;have hal:p.args.length<=2:=by
  exact pW
 have hpl:=fun(m:Nat) (hm:m<=1000000)=>wd p.kind v y nd n1 m hm kn kn;have e2:Ds p.kind=[.bool nd.index,.bool nd.typ,.i nd.terms,.i nd.Ae,.i nd.args,.i (AN p.kind),.i (Aw p.kind),.i (AA p.kind)]:=lp
 have b1:0<=Aw p.kind/\Aw p.kind<=2:=kT
 have b2:0<=AA p.kind/\AA p.kind<=1:=kX
 have b3:0<=AN p.kind/\AN p.kind<=1:=kW
 rw[n1] at hru;simp only[gI] at hru;rw[e2] at hru;simp only[e2] at hpl;refine M.F Tryz.func108 ?_;(repeat' first|refine M.o2 @hru @hty ?_|refine M.gs ?_ ?_<;>intro h|refine M.z1 5 ?_|refine M.gk ?_|fail);all_goals first
  |(exfalso;simp at h;omega)
  |skip
 refine M.w0 ?_;all_goals
  refine M.rt p.terms.length
   (fun m=>([(3,.ptr 2 0),(4,.ptr 3 0),(5,.ptr 4 0),(6,.ptr 5 0),(7,.ptr 6 0),(9,.ptr 7 0),(44,.s .tm p.terms),(45,.i p.terms.length),(46,.i m)],⟨9,[(0,.var [.i a]),(1,.var q.view),(2,.var p.view),(3,.var [.i v,.i y]),(4,.var [.nilf,.nilf,.fn (.func 126) [] [.ptr 0 0,.ptr 1 0]]),(5,.var [.i 0,.i 0,.i 0,.slice .nil (.t .ty []),.slice .nil (.t .tm []),.slice .nil (.t .fm []),.slice .nil (.t .pf [])]),(6,.var [.bool nd.index,.bool nd.typ,.i nd.terms,.i nd.Ae,.i nd.args,.i (AN p.kind),.i (Aw p.kind),.i (AA p.kind)]),(7,.var [.i p.kind,.i p.index,.i p.ty.kind,.s .ty p.ty.args,.slice (.own 8) (.t .tm (p.terms.take m)),.slice .nil (.t .fm []),.slice .nil (.t .pf [])]),(8,.row)]⟩))
   (M.W OT) ?_ ?_
  .exact qd
  .intro _;simp only[fH];refine M.w0 ?_;refine M.rt p.Ae.length
    (fun m=>([(3,.ptr 2 0),(4,.ptr 3 0),(5,.ptr 4 0),(6,.ptr 5 0),(7,.ptr 6 0),(9,.ptr 7 0),(73,.s .fm p.Ae),(74,.i p.Ae.length),(75,.i m)],⟨10,[(0,.var [.i a]),(1,.var q.view),(2,.var p.view),(3,.var [.i v,.i y]),(4,.var [.nilf,.nilf,.fn (.func 126) [] [.ptr 0 0,.ptr 1 0]]),(5,.var [.i 0,.i 0,.i 0,.slice .nil (.t .ty []),.slice .nil (.t .tm []),.slice .nil (.t .fm []),.slice .nil (.t .pf [])]),(6,.var [.bool nd.index,.bool nd.typ,.i nd.terms,.i nd.Ae,.i nd.args,.i (AN p.kind),.i (Aw p.kind),.i (AA p.kind)]),(7,.var [.i p.kind,.i p.index,.i p.ty.kind,.s .ty p.ty.args,.slice (.own 8) (.t .tm (p.terms)),.slice (.own 9) (.t .fm (p.Ae.take m)),.slice .nil (.t .pf [])]),(8,.row),(9,.row)]⟩))
    (M.W Sa) ?_ ?_
   .exact qh
   .intro _;simp only[fH];refine M.w0 ?_;refine M.rt p.args.length
     (fun m=>([(3,.ptr 2 0),(4,.ptr 3 0),(5,.ptr 4 0),(6,.ptr 5 0),(7,.ptr 6 0),(9,.ptr 7 0),(105,.s .pf p.args),(106,.i p.args.length),(107,.i m)],⟨11,[(0,.var [.i a]),(1,.var q.view),(2,.var p.view),(3,.var [.i v,.i y]),(4,.var [.nilf,.nilf,.fn (.func 126) [] [.ptr 0 0,.ptr 1 0]]),(5,.var [.i 0,.i 0,.i 0,.slice .nil (.t .ty []),.slice .nil (.t .tm []),.slice .nil (.t .fm []),.slice .nil (.t .pf [])]),(6,.var [.bool nd.index,.bool nd.typ,.i nd.terms,.i nd.Ae,.i nd.args,.i (AN p.kind),.i (Aw p.kind),.i (AA p.kind)]),(7,.var [.i p.kind,.i p.index,.i p.ty.kind,.s .ty p.ty.args,.slice (.own 8) (.t .tm (p.terms)),.slice (.own 9) (.t .fm (p.Ae)),.slice (.own 10) (.t .pf ((Pf.EO a q v y (Aw p.kind) (AA p.kind) p.args).take m))]),(8,.row),(9,.row),(10,.row)]⟩))
     (M.W Se) ?_ ?_
    .intro m hm _;have hs2:=zc Pf.full (fA hm);have hb:=hpl m kn;have hc:=ih p.args[m] (if m+1=p.args.length then v+Aw p.kind else v) (if m+1=p.args.length then y+AA p.kind else y) kn kn kJ kJ (hpf _ (fA hm)) (i2 hk _ (fA hm));have ev:(if(m:Int)=(nd.args:Int)-1 then y+AA p.kind else y)=(if m+1=p.args.length then y+AA p.kind else y):=by
      exact pS
     have ev2:(if(m:Int)=(nd.args:Int)-1 then v+Aw p.kind else v)=(if m+1=p.args.length then v+Aw p.kind else v):=by
      exact pS
     rw[ev,ev2] at hb;refine M.w2 @hb @hc ?_;exact⟨rfl,trivial,(M.W [some 0,some 1,some 2,some 3,some 4,some 5,some 6,some 7,some 8,some 9,some 12] (he:=(by(repeat'(first|exact trivial|exact Or.inr ⟨_,U,rfl⟩|refine And.intro ?_ ?_|refine⟨_,U,_,U,_,U,?_⟩|exact Ap.refl _|exact Ap.of_eq (by simp[Ao.AH,Ye4 hm])));done)))⟩
    .intro _;simp only[Yn4];refine M.w0 ?_;rw[hre]
     (exact M.n2 Bo (h8:=lD))
theorem Yps(p:Pf)(a:Int)(q:Pf)(ha:0<=a/\a<10000000000)(hq:q.full<5000000000)(hqn:q.nd)(hp:p.full<5000000000)(hs:p.nd)(hx:p.hx 549755813888):
 PC E 77 [.agg p.view,.i a,.agg q.view] (.agg (Pf.ph a q 0 0 p).view):=by
 have hc:=Yqb a q ha hq hqn _ p 0 0 (fB _) kn kn kn hs hx;generalize Pf.ph a q 0 0 p=P at*;refine M.F Tryz.func77 ?_;(repeat' first|refine M.w0 ?_|refine M.cv (hc) [1,2] 0 ?_|fail);simp[zn,V.wk,V.Ar,za,Ty.view,Tm.view]
theorem eZ(f:Fm)(t:Tm):(Cr f t).1.full<=1200000000:=by
 unfold Cr;by_cases h:xm f 0 t=0
 .rw[if_pos h];exact Zd h
 .rw[if_neg h];exact gD (by decide:AK.full<=2) kq
section
variable {c:Ck} (hc:c.ok) {p q:Pf} {f0 f1:Fm} {u0 u1:List Int} {e0 e1:Int}
include hc
theorem LU{f:Fm}{t:Tm}(hf:f.full<=1200000000)(ht:t.full<=300000)(hp:PC E 41 [.agg c.view,.agg p.view] (En f0 u0 e0))(o0:GI c (f0,u0,e0)):
 PC E 196 [.agg c.view,.agg p.view,.agg f.view,.agg t.view] (.AP [.s .int (yy (fun _=>(f0,u0,e0)) c f t).1,.i (yy (fun _=>(f0,u0,e0)) c f t).2]):=by
 have b0:=Ij hc o0;have h1:=NO f t kn kn;have hb:=eZ f t;have h2:=QI (Cr f t).1 f0 kn kn;unfold yy;by_cases he:e0=0;case neg=>
  rw[if_pos he];refine M.F Tryz.func196 ?_;(repeat' first|refine M.o1 @hp ?_|refine M.z1 4 ?_|refine M.cs ?_ ?_<;>intro h|refine M.gk ?_|fail);all_goals first
   |rfl
   |(exfalso;simp at h;exact he h)
 subst he;rw[if_neg ko];by_cases h0:(Cr f t).2=0;case neg=>
  rw[if_pos h0];refine M.F Tryz.func196 ?_;(repeat' first|refine M.o2 @hp @h1 ?_|refine M.z1 7 ?_|refine M.cs ?_ ?_<;>intro h|refine M.gk ?_|fail);all_goals first
   |rfl
   |(exfalso;simp at h;exact h0 h)
 rw[if_neg (by simp[h0])];rw[h0] at h1;refine M.F Tryz.func196 ?_;refine M.w3 @hp @h1 @h2 ?_
 rfl
theorem bh{k:Int}(hk:k=8\/k=12){s:Ty}(hs:s.err=0)(hp:c.room 1 0=0->PC E 41 [.agg (c.below [s]).view,.agg p.view] (En f0 u0 e0))(b0:c.room 1 0=0->f0.full<=266240/\u0.length<=16/\∀x∈u0,0<=x/\x<=1000000):
 PC E 153 [.agg c.view,.agg (Pf.mk k 0 s [] [] [p]).view] (CX (Hq k s (fun _=>(f0,u0,e0)) c)):=by
 have hl:=hc.len;have hn:=hc.nh;have h1:=N2 c 1 0 kn kn;have hsz:=((Ty.Aa s).1 hs).2;unfold Hq;by_cases r0:c.room 1 0=0;case neg=>
  rw[if_pos r0];rw[Oz r0] at h1;refine M.F Tryz.func153 ?_;refine M.w1 @h1 ?_
  rfl
 rw[if_neg (by simp[r0])];rw[r0] at h1;have b:=b0 r0;have h2:=Rq c hc [s] ko ko;have h3:=hp r0;have h4:=ZZ u0;have h5:=Sm u0 1 kn kn b.2.2;have h6:=HS 4 s f0 kn kn;have h7:=HS 6 s f0 kn kn;by_cases he:e0=0;case neg=>
  rw[if_pos he];refine M.F Tryz.func153 ?_;(repeat' first|refine M.o3 @h1 @h2 @h3 ?_|refine M.z1 7 ?_|refine M.cs ?_ ?_<;>intro h|refine M.gk ?_|fail);all_goals first
   |rfl
   |(exfalso;simp at h;exact he h)
   |trace_state
 subst he;rw[if_neg ko];rcases hk with rfl|rfl
 .rw[if_pos rfl];refine M.F Tryz.func153 ?_;refine M.w5 @h1 @h2 @h3 @h5 @h6 ?_
  rfl
 .rw[if_neg kq];cases hh:GV u0 with
  |true=>
   rw[hh] at h4;rw[if_pos rfl];refine M.F Tryz.func153 ?_;refine M.w4 @h1 @h2 @h3 @h4 ?_
   rfl
  |false=>
   rw[hh] at h4;rw[if_neg ko];refine M.F Tryz.func153 ?_;refine M.w6 @h1 @h2 @h3 @h4 @h5 @h7 ?_
   rfl
theorem Xv{k:Int}(hk:k=9\/k=13){t:Tm}(ht:t.full<=300000)(hp:PC E 41 [.agg c.view,.agg p.view] (En f0 u0 e0))(o0:GI c (f0,u0,e0)):
 PC E 154 [.agg c.view,.agg (Pf.mk k 0 (.mk 0 []) [t] [] [p]).view] (CX (atR k t (fun _=>(f0,u0,e0)) c)):=by
 have hl:=hc.len;have hsum:=hc.sum;have b0:=Ij hc o0;have h1:=Vo c.tys t kn kn;unfold atR;by_cases t0:(yx c.tys t).2=0;case neg=>
  rw[if_pos t0];refine M.F Tryz.func154 ?_;(repeat' first|refine M.o1 @h1 ?_|refine M.z1 5 ?_|refine M.cs ?_ ?_<;>intro h|refine M.gk ?_|fail);all_goals first
   |rfl
   |(exfalso;simp at h;exact t0 h)
 rw[if_neg mF];rw[t0] at h1;obtain⟨_,t1,t2,_⟩:=L4 t0;by_cases he:e0=0;case neg=>
  rw[if_pos he];refine M.F Tryz.func154 ?_;(repeat' first|refine M.o2 @h1 @hp ?_|refine M.z1 8 ?_|refine M.cs ?_ ?_<;>intro h|refine M.gk ?_|fail);all_goals first
   |rfl
   |(exfalso;simp at h;exact he h)
   |(exfalso;simp at h;done)
 subst he;rw[if_neg ko];have hfr:=Qf t t1 t2 kn;have hfl:=(JK t2).len;have hun:=KJ u0 (FH t) kn kn;by_cases hkd:f0.kind=kI k 13 6 4;case neg=>
  rw[if_pos hkd];rcases hk with rfl|rfl;all_goals
   refine M.F Tryz.func154 ?_;(repeat' first|refine M.o4 @h1 @hp @hfr @hun ?_|refine M.z1 13 ?_|refine M.cs ?_ ?_<;>intro h|refine M.gk ?_|fail);all_goals first
    |rfl
    |(exfalso;simp at h;exact hkd h)
    |trace_state
 rw[if_neg (by simp[hkd])];have hkk:4<=f0.kind/\f0.kind<=7:=nY
 have s0:=(Fm.Aa _).1 (o0.1 rfl).1;obtain⟨x,e⟩:=GM s0.1 hkk;simp only at e;have ex:=xh (o0.1 rfl).1 (x:=x) oQ;have hte:=Ks s0.1 hkk;have hsame:=wz _ f0.ty (yx c.tys t).1 (fB _) (by have:=((Ty.Aa _).1 hte).2;simp only at this;omega);have hput:=NO x t (by have:=yh ex;omega) kn;have hx:f0.args.getD 0 AK=x:=kH
 rw[hx];generalize hty:f0.ty=s at*;by_cases hts:s=(yx c.tys t).1;case neg=>
  rw[if_pos hts];rw[decide_eq_false hts] at hsame;rw[hkd] at e;subst e;rcases hk with rfl|rfl;all_goals
   simp only[kI] at*;refine M.F Tryz.func154 ?_;refine M.w5 @h1 @hp @hfr @hun @hsame ?_;all_goals first
    |rfl
    |trace_state
 rw[if_neg (by simp[hts])];rw[decide_eq_true hts] at hsame;rw[hkd] at e;subst e;rcases hk with rfl|rfl;all_goals
  simp only[kI] at*;refine M.F Tryz.func154 ?_;refine M.w6 @h1 @hp @hfr @hun @hsame @hput ?_;all_goals first
   |rfl
   |trace_state
end
end Go.Ab
