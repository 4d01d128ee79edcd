/- A part of this seat's proofs. No conditions. -/
import Derived.Test.YtgjekifepogehaaGreatDoorPST2
import Derived.Test.YtgjekifepogehaaGreatDoorPST4
namespace Go.Ab
open Go Go.Proofs
set_option maxRecDepth 100000
set_option maxHeartbeats 4000000
set_option linter.all false
theorem Sn(tys:List Ty)(hyps:List Fm)(f:Fm)(hl:hyps.length<=1000):PC E 47 [.agg [.s .ty tys,.s .fm hyps],.agg f.view] (.agg [.s .ty tys,.s .fm (hyps++[f])]):=by
 refine M.F Tryz.func47 ?_;refine M.w0 ?_;all_goals first
  |rfl
  |simp[zh,V.wk,V.An,za,Ty.view,Tm.view]
  |trace_state
theorem Mm(tys:List Ty)(hyps:List Fm)(l:List Ty)(hh:∀f∈hyps,f.err=0/\f.BF tys)(hg:tys.length<=20)(hl:l.length<=2)(hn:hyps.length<=20):
 PC E 50 [.agg [.s .ty tys,.s .fm hyps],.s .ty l] (.agg [.s .ty (tys++l),.s .fm (hyps.map fun f=>f.Bi 0 l.length)]):=by
 have h1:=JI tys l dY;refine M.F Tryz.func50 ?_;refine M.w1 @h1 ?_;refine M.rt hyps.length
  (fun m=>([(1,.s .ty l),(4,.ptr 1 0),(5,.ptr 2 0),(14,.s .fm hyps),(15,.i hyps.length),(16,.i m)],⟨4,[(0,.var [.s .ty tys,.s .fm hyps]),(1,.var [.slice .nil (.t .ty []),.slice .nil (.t .fm [])]),(2,.var [.s .ty (tys++l),.slice (.own 3) (.t .fm ((hyps.take m).map fun f=>f.Bi 0 l.length))]),(3,.row)]⟩))
  (M.W HU) ?_ ?_
 .intro m hm _;have hf:=hh hyps[m] (ZA hm);have hc:=GZ hf.2 ((Fm.Ad _).1 hf.1).1 (by have:=((Fm.Ad _).1 hf.1).2;omega) dY 0 l.length dY dY;refine M.w1 @hc ?_;exact⟨rfl,trivial,(M.W [some 0,some 1,some 2,some 5] (he:=(by(repeat'(first|exact trivial|exact Or.inr ⟨_,U,rfl⟩|refine And.intro ?_ ?_|refine⟨_,U,_,U,_,U,?_⟩|exact Ai.refl _|exact Ai.of_eq eL));done)))⟩
 .intro _;simp only[ZF];refine M.w0 ?_;all_goals first
   |rfl
   |simp[zh,V.wk,V.An,za,Ty.view,Tm.view]
   |trace_state
theorem Tf{g:List Ty}{t:Tm}(he:t.err=0)(hi:t.inf g=(Ae,0))(hg:g.length<=20):PC E 54 [.agg t.view] (.agg (t.re (z8 0 1) 0).view):=by
 have hf:=yd he;have hs:=(Tm.Ad t).1 he;have h1:=HW t t dY dY;have h2:=GZ (f:=Bv t t) (g:=g) (DE.2 ⟨hi,hi⟩) (KO hs.1 hs.1) (by have:=K6 t t;omega) dY 0 1 dY dY;rw[Yfc] at h2;rw[show(0:Int)+0=0 from rfl] at h2;generalize t.re (z8 0 1) 0=u at*;refine M.F Tryz.func54 ?_;refine M.w2 @h1 @h2 ?_;all_goals first
  |rfl
  |simp[zh,V.wk,V.An,za,Ty.view,Tm.view]
  |trace_state
theorem Yat(k:Int)(f:Fm)(t:Tm)(p:Pf)(hf:f.full<500000000000)(ht:t.full<500000000000)(hp:p.full<500000000000):
 AC E 56 [.i k,.agg f.view,.agg t.view,.agg p.view] ⟨0,[]⟩ (.agg [.i k,.i 0,.i 0,.s .ty [],.s .tm [t],.arr 0 1 5,.s .pf [p]]) ⟨1,[(0,.var f.view)]⟩:=by
 have h1:=Oy k t p ht hp;have h2:=vj _ f (ZB _) dY;refine M.F Tryz.func56 ?_;(repeat' first|refine M.o1 @h1 ?_|refine M.z1 2 ?_|refine M.gk ?_|fail);refine K.sq (AW.AP ?_);refine L.Ez rfl rfl rfl rfl rfl rfl ?_;refine L.c2 h2 rfl rfl rfl rfl ?_;refine L.GB 0 rfl rfl rfl rfl rfl rfl rfl ?_;refine M.w0 ?_;refine K.rt [some 5] rfl rfl rfl rfl rfl ?_ rfl ?_
 .exact ⟨⟨_,rfl,_,rfl,_,rfl,Bb.refl _⟩,trivial⟩
 .exact mZ
theorem Ygu(f:Fm)(fr by_:Int)(hf:f.full<100000000000)(h1:0<=fr/\fr<100000000000)(hby:0<=by_/\by_<=549755813888)(hs:f.shape=true)(hix:∀p∈f.AZ 0,∀q∈p.1.vars 0,0<=q.1/\q.1<549755813888):
 PC E 58 [.agg f.view,.i fr,.i by_] (.agg (f.Bi fr by_).view):=by
 have h:=Va by_ dY _ f fr (ZB _) dY dY dY hs hix;have e:f.re (fun b t=>t.re (z8 b by_) 0) fr=f.Bi fr by_:=by
  have e1:=Fm.Dd (fun b t=>t.re (z8 b by_) 0) fr f 0;rw[cy] at e1;rw[e1,Yj8];exact Fm.GK (fun b t _=>by rw[Int.add_comm b fr]) f
 rw[e] at h;exact h
theorem OV(i:Int):PC E 177 [.i i] (.agg (x8 i).view):=by
 refine AC.mk Tryz.func177 rfl rfl rfl rfl rfl (ZP rfl) ?_;repeat'(first|((with_reducible refine D.nil ?_);refine AX.BO ?_)|((with_reducible refine D.move ?_);refine L.mv U U U ?_)|((with_reducible refine D.alloc ?_);refine L.al U U U ?_)|((with_reducible refine D.store ?_);refine L.st U U U U U U U U U ?_)|((with_reducible refine D.ax ?_);refine L.bd U U U U U ?_)|((with_reducible refine D.aw ?_);first|refine K.sq (AW.AP ?_)|refine AW.ret ?_)|with_reducible refine K.tN ?_|with_reducible refine K.r1 eF eF ?_)
 rfl
theorem Sr(fr by_ i bl:Int):AC E 218 [.i i,.i bl,.ptr 0 0,.ptr 1 0] ⟨2,[(0,.var [.i fr]),(1,.var [.i by_])]⟩ (.agg (IY fr by_ i bl).view) ⟨2,[(0,.var [.i fr]),(1,.var [.i by_])]⟩:=by
 have hv:=Uc;refine M.F Tryz.func218 ?_;(repeat' first|refine M.w0 ?_|refine M.c2 (hv _) ?_|refine M.cs ?_ ?_<;>intro h|fail)
 .have h':fr<=IntKind.i64.wrap (i-bl):=ek
  (exact M.n2 AQ (h8:=jH))
 .have h':¬fr<=IntKind.i64.wrap (i-bl):=ek
  (exact M.n2 AQ (h8:=jH))
theorem Ylc(fr by_:Int):∀(n:Nat) (t:Tm) (bl:Int),t.full<=n->n<549755813888->0<=bl->bl+n<549755813888->AC E 248 [.agg t.view,.i bl,.ptr 0 0,.ptr 1 0] ⟨4,[(0,.var [.fn (.func 218) [] [.ptr 2 0,.ptr 3 0]]),(1,.var [.fn (.func 248) [] [.ptr 0 0,.ptr 1 0]]),(2,.var [.i fr]),(3,.var [.i by_])]⟩ (.agg (t.re (IY fr by_) bl).view) ⟨4,[(0,.var [.fn (.func 218) [] [.ptr 2 0,.ptr 3 0]]),(1,.var [.fn (.func 248) [] [.ptr 0 0,.ptr 1 0]]),(2,.var [.i fr]),(3,.var [.i by_])]⟩:=by
 intro n;induction n with
 |zero=>intro t bl h;have:=t.Ac;omega
 |succ n ih=>
 intro t bl hsz hb hbl hbn;have hsz':=Tm.Af t;have hlen:=zd Tm.full Tm.Ac t.args;have hre:=Tm.BJ (IY fr by_) bl t;have hcb:=Sr fr by_ t.index bl;have hown:=IC _ t.ty (ZB _) dY;refine M.F Tryz.func248 ?_;(repeat' first|refine M.w0 ?_|refine M.cv (hcb) [2,3] 0 ?_|refine M.c2 (hown) ?_|refine M.cs ?_ ?_<;>intro h|fail)
 .exact mS
 all_goals
  rename_i hk1;have hup:up t.kind bl<=bl+1:=eP
  have hup0:0<=up t.kind bl:=eP
  have hk1':¬t.kind=1:=by simpa using hk1
  refine M.rt t.args.length
   (fun m=>([(1,.i (up t.kind bl)),(3,.ptr 1 0),(6,.ptr 5 0),(7,.ptr 6 0),(32,.s .tm t.args),(33,.i t.args.length),(34,.i m)],⟨8,[(0,.var [.fn (.func 218) [] [.ptr 2 0,.ptr 3 0]]),(1,.var [.fn (.func 248) [] [.ptr 0 0,.ptr 1 0]]),(2,.var [.i fr]),(3,.var [.i by_]),(4,.var t.view),(5,.var [.i 0,.i 0,.i 0,.slice .nil (.t .ty []),.slice .nil (.t .tm [])]),(6,.var [.i t.kind,.i t.index,.i t.ty.kind,.s .ty t.ty.args,.slice (.own 7) (.t .tm ((t.args.take m).map (Tm.re (IY fr by_) (up t.kind bl))))]),(7,.row)]⟩))
   ?_ ?_ ?_
  .exact kn
  .intro m hm hP;have hs2:=zc Tm.full (ZA hm);have hc:=ih t.args[m] (up t.kind bl) dY dY hup0 dY;(repeat' first|refine M.w0 ?_|refine M.cv (hc) [0,1,2,3] 0 ?_|fail);refine⟨rfl,trivial,?_⟩;exact(M.W [some 0,some 1,some 2,some 3,some 4,some 5,some 6,some 9] (he:=(by(repeat'(first|exact trivial|exact Or.inr ⟨_,U,rfl⟩|refine And.intro ?_ ?_|refine⟨_,U,_,U,_,U,?_⟩|exact Ai.refl _|exact Ai.of_eq eL));done)))
  .exact mG
theorem QD(fr by_:Int)(t:Tm)(ht:t.full<274877906944):AC E 217 [.agg t.view,.fn (.func 218) [] [.ptr 0 0,.ptr 1 0]] ⟨2,[(0,.var [.i fr]),(1,.var [.i by_])]⟩ (.agg (t.lw fr by_).view) ⟨2,[(0,.var [.i fr]),(1,.var [.i by_])]⟩:=by
 have hc:=Ylc fr by_ _ t 0 (ZB _) dY dY dY;unfold Tm.lw;refine M.F Tryz.func217 ?_;(repeat' first|refine M.w0 ?_|refine M.cv (hc) [3,5,0,1] 0 ?_|fail)
 (exact M.n2 AQ (h8:=fB))
theorem Nh(t:Tm)(fr by_:Int)(ht:t.full<274877906944):PC E 171 [.agg t.view,.i fr,.i by_] (.agg (t.lw fr by_).view):=by
 have hc:=QD fr by_ t ht;refine M.F Tryz.func171 ?_;(repeat' first|refine M.w0 ?_|refine M.cb (hc) [1,2] 0 ?_|fail);simp[zh,V.wk,V.An,za,Ty.view,Tm.view]
theorem Yiw(fr by_:Int)(hat:0<=fr/\fr<274877906944)(t:Tm)(bl:Int)(ht:t.full<274877906944)(hb:0<=bl/\bl<274877906944):
 AC E 221 [.agg t.view,.i bl,.ptr 0 0,.ptr 1 0] ⟨2,[(0,.var [.i fr]),(1,.var [.i by_])]⟩ (.agg (t.lw (fr+bl) by_).view) ⟨2,[(0,.var [.i fr]),(1,.var [.i by_])]⟩:=by
 have hc:=Nh t (fr+bl) by_ ht;refine M.F Tryz.func221 ?_;refine M.w1 @hc ?_
 (exact M.n2 AQ (h8:=fB))
theorem Yii(fr by_:Int)(hat:0<=fr/\fr<274877906944):∀(n:Nat) (f:Fm) (bl:Int),f.full<=n->n<274877906944->0<=bl->bl+n<274877906944->
 AC E 220 [.agg f.view,.i bl,.fn (.func 221) [] [.ptr 0 0,.ptr 1 0]] ⟨2,[(0,.var [.i fr]),(1,.var [.i by_])]⟩ (.agg (f.re (fun b t=>t.lw (fr+b) by_) bl).view) ⟨2,[(0,.var [.i fr]),(1,.var [.i by_])]⟩:=by
 intro n;induction n with
 |zero=>intro f bl h;intros;have:=f.Ac;omega
 |succ n ih=>
 intro f bl hsz hb hbl hbn;have hsz':=f.Af;have hlen:=zd Fm.full Fm.Ac f.args;have hlen2:=zd Tm.full Tm.Ac f.terms;have hty:=IC _ f.ty (ZB _) dY;have hq:=vy f.kind;have hre:=Fm.BJ (fun b t=>t.lw (fr+b) by_) bl f;refine M.F Tryz.func220 ?_;refine M.w1 @hty ?_;refine M.rt f.terms.length
  (fun m=>([(1,.i bl),(2,.fn (.func 221) [] [.ptr 0 0,.ptr 1 0]),(3,.ptr 2 0),(6,.ptr 3 0),(7,.ptr 4 0),(19,.s .tm f.terms),(20,.i f.terms.length),(21,.i m)],⟨6,[(0,.var [.i fr]),(1,.var [.i by_]),(2,.var f.view),(3,.var [.i 0,.i 0,.slice .nil (.t .ty []),.slice .nil (.t .tm []),.slice .nil (.t .fm [])]),(4,.var [.i f.kind,.i f.ty.kind,.s .ty f.ty.args,.slice (.own 5) (.t .tm ((f.terms.take m).map ((fun b t=>t.lw (fr+b) by_) bl))),.slice .nil (.t .fm [])]),(5,.row)]⟩))
  (M.W Mf) ?_ ?_
 .intro m hm _;have hs2:=zc Tm.full (ZA hm);have hc:=Yiw fr by_ hat f.terms[m] bl dY dY;refine M.w1 @hc ?_;exact⟨rfl,trivial,(M.W [some 0,some 1,some 2,some 3,some 4,some 7] (he:=(by(repeat'(first|exact trivial|exact Or.inr ⟨_,U,rfl⟩|refine And.intro ?_ ?_|refine⟨_,U,_,U,_,U,?_⟩|exact Ai.refl _|exact Ai.of_eq eL));done)))⟩
 .intro _;simp only[ZF];cases hqk:xy f.kind with
  |true=>
   rw[hqk] at hq;have hu:AR f.kind bl=bl+1:=iG
   rw[hu] at hre;refine M.w1 @hq ?_;refine M.rt f.args.length
    (fun m=>([(1,.i (bl+1)),(2,.fn (.func 221) [] [.ptr 0 0,.ptr 1 0]),(3,.ptr 2 0),(6,.ptr 3 0),(7,.ptr 4 0),(41,.s .fm f.args),(42,.i f.args.length),(43,.i m)],⟨7,[(0,.var [.i fr]),(1,.var [.i by_]),(2,.var f.view),(3,.var [.i 0,.i 0,.slice .nil (.t .ty []),.slice .nil (.t .tm []),.slice .nil (.t .fm [])]),(4,.var [.i f.kind,.i f.ty.kind,.s .ty f.ty.args,.slice (.own 5) (.t .tm (f.terms.map ((fun b t=>t.lw (fr+b) by_) bl))),.slice (.own 6) (.t .fm ((f.args.take m).map (Fm.re (fun b t=>t.lw (fr+b) by_) (bl+1))))]),(5,.row),(6,.row)]⟩))
    (M.W Nr) ?_ ?_
   .intro m hm _;have hs2:=zc Fm.full (ZA hm);have hc:=ih f.args[m] (bl+1) dY dY dY dY;refine M.w1 @hc ?_;exact⟨rfl,trivial,(M.W [some 0,some 1,some 2,some 3,some 4,some 5,some 8] (he:=(by(repeat'(first|exact trivial|exact Or.inr ⟨_,U,rfl⟩|refine And.intro ?_ ?_|refine⟨_,U,_,U,_,U,?_⟩|exact Ai.refl _|exact Ai.of_eq eL));done)))⟩
   .exact lD
  |false=>
   rw[hqk] at hq;have hu:AR f.kind bl=bl:=iG
   rw[hu] at hre;refine M.w1 @hq ?_;refine M.rt f.args.length
    (fun m=>([(1,.i bl),(2,.fn (.func 221) [] [.ptr 0 0,.ptr 1 0]),(3,.ptr 2 0),(6,.ptr 3 0),(7,.ptr 4 0),(41,.s .fm f.args),(42,.i f.args.length),(43,.i m)],⟨7,[(0,.var [.i fr]),(1,.var [.i by_]),(2,.var f.view),(3,.var [.i 0,.i 0,.slice .nil (.t .ty []),.slice .nil (.t .tm []),.slice .nil (.t .fm [])]),(4,.var [.i f.kind,.i f.ty.kind,.s .ty f.ty.args,.slice (.own 5) (.t .tm (f.terms.map ((fun b t=>t.lw (fr+b) by_) bl))),.slice (.own 6) (.t .fm ((f.args.take m).map (Fm.re (fun b t=>t.lw (fr+b) by_) bl)))]),(5,.row),(6,.row)]⟩))
    (M.W Nr) ?_ ?_
   .intro m hm _;have hs2:=zc Fm.full (ZA hm);have hc:=ih f.args[m] bl dY dY dY dY;refine M.w1 @hc ?_;exact⟨rfl,trivial,(M.W [some 0,some 1,some 2,some 3,some 4,some 5,some 8] (he:=(by(repeat'(first|exact trivial|exact Or.inr ⟨_,U,rfl⟩|refine And.intro ?_ ?_|refine⟨_,U,_,U,_,U,?_⟩|exact Ai.refl _|exact Ai.of_eq eL));done)))⟩
   .exact lD
theorem Yjl(f:Fm)(fr by_:Int)(hat:0<=fr/\fr<274877906944)(hf:f.full<137438953472):PC E 173 [.agg f.view,.i fr,.i by_] (.agg (f.lw fr by_).view):=by
 have hc:=Yii fr by_ hat _ f 0 (ZB _) dY dY dY;refine M.F Tryz.func173 ?_;(repeat' first|refine M.w0 ?_|refine M.cv (hc) [1,2] 0 ?_|fail)
 rfl
theorem Ykj(fr by_:Int)(hat:0<=fr/\fr<274877906944)(t:Tm)(bl:Int)(ht:t.full<274877906944)(hb:0<=bl/\bl<274877906944):
 AC E 170 [.agg t.view,.i bl,.ptr 0 0,.ptr 1 0] ⟨2,[(0,.var [.i fr]),(1,.var [.i by_])]⟩ (.agg (t.lw (fr+bl) by_).view) ⟨2,[(0,.var [.i fr]),(1,.var [.i by_])]⟩:=by
 have hc:=Nh t (fr+bl) by_ ht;refine M.F Tryz.func170 ?_;refine M.w1 @hc ?_
 (exact M.n2 AQ (h8:=fB))
theorem Ykk(fr by_:Int)(hat:0<=fr/\fr<100000000000)(f:Fm)(bl:Int)(ht:f.full<137438953472)(hb:0<=bl/\bl<100000000000):
 AC E 172 [.agg f.view,.i bl,.ptr 0 0,.ptr 1 0] ⟨2,[(0,.var [.i fr]),(1,.var [.i by_])]⟩ (.agg (f.lw (fr+bl) by_).view) ⟨2,[(0,.var [.i fr]),(1,.var [.i by_])]⟩:=by
 have hc:=Yjl f (fr+bl) by_ dY ht;generalize f.lw (fr+bl) by_=F at*;refine M.F Tryz.func172 ?_;refine M.w1 @hc ?_
 (exact M.n2 AQ (h8:=jE))
theorem Yiz(fr by_:Int)(hfr:0<=fr/\fr<10000000000):∀(n:Nat) (p:Pf) (v y:Int),p.full<=n->n<10000000000->(0<=v/\v+2*n<=50000000000)->(0<=y/\y+2*n<=50000000000)->p.nd->
 AC E 169 [.agg p.view,.agg [.i v,.i y],.agg [.fn (.func 170) [] [.ptr 0 0,.ptr 1 0],.fn (.func 172) [] [.ptr 0 0,.ptr 1 0],.nilf]] ⟨2,[(0,.var [.i fr]),(1,.var [.i by_])]⟩ (.agg (p.uw fr by_ v).view) ⟨2,[(0,.var [.i fr]),(1,.var [.i by_])]⟩:=by
 intro n;induction n with
 |zero=>intro p v y hz;have:=p.Ac;omega
 |succ n ih=>
 intro p v y hz hn hv hh hs;have hre:=p.GG fr by_ v;have hsz':=p.Af;have hlen:=zd Pf.full Pf.Ac p.args;have hlen1:=zd Fm.full Fm.Ac p.Aa;have hlen2:=zd Tm.full Tm.Ac p.terms;have hty:=IC _ p.ty (ZB _) dY;have hru:=vg p.kind;obtain⟨⟨nd,n1,n4⟩,hpf⟩:=(Pf.Bt p).1 hs;have hal:p.args.length<=2:=by
  exact j7
 have hpl:=fun(m:Nat) (hm:m<=1000000)=>xf p.kind v y nd n1 m hm dY dY;have e2:Dq p.kind=[.bool nd.index,.bool nd.typ,.i nd.terms,.i nd.Aa,.i nd.args,.i (Au p.kind),.i (Ap p.kind),.i (Ar p.kind)]:=fk
 have b1:0<=Ap p.kind/\Ap p.kind<=2:=eT
 have b2:0<=Ar p.kind/\Ar p.kind<=1:=eV
 have b3:0<=Au p.kind/\Au p.kind<=1:=eW
 rw[n1] at hru;simp only[an] at hru;rw[e2] at hru;simp only[e2] at hpl;refine M.F Tryz.func169 ?_;(repeat' first|refine M.w2 @hru @hty ?_|refine M.gs ?_ ?_<;>intro h|fail);all_goals
  refine M.rt p.terms.length
   (fun m=>([(3,.ptr 2 0),(4,.ptr 3 0),(5,.ptr 4 0),(6,.ptr 5 0),(7,.ptr 6 0),(9,.ptr 7 0),(44,.s .tm p.terms),(45,.i p.terms.length),(46,.i m)],⟨9,[(0,.var [.i fr]),(1,.var [.i by_]),(2,.var p.view),(3,.var [.i v,.i y]),(4,.var [.fn (.func 170) [] [.ptr 0 0,.ptr 1 0],.fn (.func 172) [] [.ptr 0 0,.ptr 1 0],.nilf]),(5,.var [.i 0,.i 0,.i 0,.slice .nil (.t .ty []),.slice .nil (.t .tm []),.slice .nil (.t .fm []),.slice .nil (.t .pf [])]),(6,.var [.bool nd.index,.bool nd.typ,.i nd.terms,.i nd.Aa,.i nd.args,.i (Au p.kind),.i (Ap p.kind),.i (Ar p.kind)]),(7,.var [.i p.kind,.i p.index,.i p.ty.kind,.s .ty p.ty.args,.slice (.own 8) (.t .tm ((p.terms.take m).map fun t=>t.lw (fr+v) by_)),.slice .nil (.t .fm []),.slice .nil (.t .pf [])]),(8,.row)]⟩))
   (M.W Qk) ?_ ?_
  .intro m hm _;have hs2:=zc Tm.full (ZA hm);have hc:=Ykj fr by_ dY p.terms[m] v dY dY;refine M.w1 @hc ?_;exact⟨rfl,trivial,(M.W [some 0,some 1,some 2,some 3,some 4,some 5,some 6,some 7,some 10] (he:=(by(repeat'(first|exact trivial|exact Or.inr ⟨_,U,rfl⟩|refine And.intro ?_ ?_|refine⟨_,U,_,U,_,U,?_⟩|exact Ai.refl _|exact Ai.of_eq eL));done)))⟩
  .intro _;simp only[ZF];refine M.w0 ?_;refine M.rt p.Aa.length
    (fun m=>([(3,.ptr 2 0),(4,.ptr 3 0),(5,.ptr 4 0),(6,.ptr 5 0),(7,.ptr 6 0),(9,.ptr 7 0),(73,.s .fm p.Aa),(74,.i p.Aa.length),(75,.i m)],⟨10,[(0,.var [.i fr]),(1,.var [.i by_]),(2,.var p.view),(3,.var [.i v,.i y]),(4,.var [.fn (.func 170) [] [.ptr 0 0,.ptr 1 0],.fn (.func 172) [] [.ptr 0 0,.ptr 1 0],.nilf]),(5,.var [.i 0,.i 0,.i 0,.slice .nil (.t .ty []),.slice .nil (.t .tm []),.slice .nil (.t .fm []),.slice .nil (.t .pf [])]),(6,.var [.bool nd.index,.bool nd.typ,.i nd.terms,.i nd.Aa,.i nd.args,.i (Au p.kind),.i (Ap p.kind),.i (Ar p.kind)]),(7,.var [.i p.kind,.i p.index,.i p.ty.kind,.s .ty p.ty.args,.slice (.own 8) (.t .tm (p.terms.map fun t=>t.lw (fr+v) by_)),.slice (.own 9) (.t .fm ((p.Aa.take m).map fun f=>f.lw (fr+(v+Au p.kind)) by_)),.slice .nil (.t .pf [])]),(8,.row),(9,.row)]⟩))
    (M.W Qn) ?_ ?_
   .intro m hm _;have hs2:=zc Fm.full (ZA hm);have hc:=Ykk fr by_ dY p.Aa[m] (v+Au p.kind) dY dY;refine M.w1 @hc ?_;exact⟨rfl,trivial,(M.W [some 0,some 1,some 2,some 3,some 4,some 5,some 6,some 7,some 8,some 11] (he:=(by(repeat'(first|exact trivial|exact Or.inr ⟨_,U,rfl⟩|refine And.intro ?_ ?_|refine⟨_,U,_,U,_,U,?_⟩|exact Ai.refl _|exact Ai.of_eq eL));done)))⟩
   .intro _;simp only[ZF];refine M.w0 ?_;refine M.rt p.args.length
     (fun m=>([(3,.ptr 2 0),(4,.ptr 3 0),(5,.ptr 4 0),(6,.ptr 5 0),(7,.ptr 6 0),(9,.ptr 7 0),(105,.s .pf p.args),(106,.i p.args.length),(107,.i m)],⟨11,[(0,.var [.i fr]),(1,.var [.i by_]),(2,.var p.view),(3,.var [.i v,.i y]),(4,.var [.fn (.func 170) [] [.ptr 0 0,.ptr 1 0],.fn (.func 172) [] [.ptr 0 0,.ptr 1 0],.nilf]),(5,.var [.i 0,.i 0,.i 0,.slice .nil (.t .ty []),.slice .nil (.t .tm []),.slice .nil (.t .fm []),.slice .nil (.t .pf [])]),(6,.var [.bool nd.index,.bool nd.typ,.i nd.terms,.i nd.Aa,.i nd.args,.i (Au p.kind),.i (Ap p.kind),.i (Ar p.kind)]),(7,.var [.i p.kind,.i p.index,.i p.ty.kind,.s .ty p.ty.args,.slice (.own 8) (.t .tm (p.terms.map fun t=>t.lw (fr+v) by_)),.slice (.own 9) (.t .fm (p.Aa.map fun f=>f.lw (fr+(v+Au p.kind)) by_)),.slice (.own 10) (.t .pf ((Pf.EI fr by_ v (Ap p.kind) p.args).take m))]),(8,.row),(9,.row),(10,.row)]⟩))
     (M.W OD) ?_ ?_
    .intro m hm _;have hs2:=zc Pf.full (ZA hm);have hb:=hpl m dY;have hc:=ih p.args[m] (if m+1=p.args.length then v+Ap p.kind else v) (if(m:Int)=(nd.args:Int)-1 then y+Ar p.kind else y) dY dY ez ez (hpf _ (ZA hm));have ev:(if(m:Int)=(nd.args:Int)-1 then v+Ap p.kind else v)=(if m+1=p.args.length then v+Ap p.kind else v):=by
      exact jZ
     rw[ev] at hb;refine M.w2 @hb @hc ?_;exact⟨rfl,trivial,(M.W [some 0,some 1,some 2,some 3,some 4,some 5,some 6,some 7,some 8,some 9,some 12] (he:=(by(repeat'(first|exact trivial|exact Or.inr ⟨_,U,rfl⟩|refine And.intro ?_ ?_|refine⟨_,U,_,U,_,U,?_⟩|exact Ai.refl _|exact Ai.of_eq (by simp[Aj.Aw,Zzu hm])));done)))⟩
    .intro _;simp only[Ye4];refine M.w0 ?_;rw[hre]
     (exact M.n2 AQ (h8:=fL))
theorem YK(p:Pf)(fr by_:Int)(hfr:0<=fr/\fr<10000000000)(hp:p.full<5000000000)(hs:p.nd):PC E 103 [.agg p.view,.i fr,.i by_] (.agg (p.uw fr by_ 0).view):=by
 have hc:=Yiz fr by_ hfr _ p 0 0 (ZB _) dY dY dY hs;refine M.F Tryz.func103 ?_;(repeat' first|refine M.w0 ?_|refine M.cv (hc) [1,2] 0 ?_|fail);simp[zh,V.wk,V.An,za,Ty.view,Tm.view]
theorem Sb(fr by_:Int)(i v y:Int)(p:Pf):
 AC E 176 [.agg p.view,.agg [.i v,.i y],.ptr 0 0,.ptr 1 0] ⟨2,[(0,.var [.i fr]),(1,.var [.i by_])]⟩ (.agg (x8 (if IntKind.i64.wrap (p.index-y)>=fr then IntKind.i64.wrap (p.index+by_) else p.index)).view) ⟨2,[(0,.var [.i fr]),(1,.var [.i by_])]⟩:=by
 have h1:=OV (IntKind.i64.wrap (p.index+by_));have h2:=OV p.index;by_cases h0:IntKind.i64.wrap (p.index-y)>=fr
 .rw[if_pos h0];refine M.F Tryz.func176 ?_;(repeat' first|refine M.w2 @h1 @h2 ?_|refine M.cs ?_ ?_<;>intro h|fail)
  ·(exact M.n2 AQ (h8:=gB))
  .exact kX
 .rw[if_neg h0];refine M.F Tryz.func176 ?_;(repeat' first|refine M.w2 @h1 @h2 ?_|refine M.cs ?_ ?_<;>intro h|fail)
  .exact kX
  ·(exact M.n2 AQ (h8:=gB))
theorem Yjs(fr by_:Int):∀(n:Nat) (p:Pf) (v y:Int),p.full<=n->n<10000000000->(0<=v/\v+2*n<=50000000000)->(0<=y/\y+2*n<=50000000000)->p.nd->
 AC E 169 [.agg p.view,.agg [.i v,.i y],.agg [.nilf,.nilf,.fn (.func 176) [] [.ptr 0 0,.ptr 1 0]]] ⟨2,[(0,.var [.i fr]),(1,.var [.i by_])]⟩ (.agg (p.hw fr by_ y).view) ⟨2,[(0,.var [.i fr]),(1,.var [.i by_])]⟩:=by
 intro n;induction n with
 |zero=>intro p v y hz;have:=p.Ac;omega
 |succ n ih=>
 intro p v y hz hn hv hh hs;have hre:=p.Iu fr by_ y;by_cases hk:p.kind=1
 .rw[if_pos hk] at hre;rw[hre];have hc:=Sb fr by_ 0 v y p;refine M.F Tryz.func169 ?_;(repeat' first|refine M.o1 @hc ?_|refine M.gs ?_ ?_<;>intro h|refine M.z1 3 ?_|refine M.gk ?_|fail);all_goals first|exfalso;simp at h;omega|exfalso;simp_all;done|exact M.n2 AQ (h8:=gB)
 rw[if_neg hk] at hre;have hsz':=p.Af;have hlen:=zd Pf.full Pf.Ac p.args;have hlen1:=zd Fm.full Fm.Ac p.Aa;have hlen2:=zd Tm.full Tm.Ac p.terms;have hty:=IC _ p.ty (ZB _) dY;have hru:=vg p.kind;obtain⟨⟨nd,n1,n4⟩,hpf⟩:=(Pf.Bt p).1 hs;have hal:p.args.length<=2:=by
  exact j7
 have hpl:=fun(m:Nat) (hm:m<=1000000)=>xf p.kind v y nd n1 m hm dY dY;have e2:Dq p.kind=[.bool nd.index,.bool nd.typ,.i nd.terms,.i nd.Aa,.i nd.args,.i (Au p.kind),.i (Ap p.kind),.i (Ar p.kind)]:=fk
 have b1:0<=Ap p.kind/\Ap p.kind<=2:=eT
 have b2:0<=Ar p.kind/\Ar p.kind<=1:=eV
 have b3:0<=Au p.kind/\Au p.kind<=1:=eW
 rw[n1] at hru;simp only[an] at hru;rw[e2] at hru;simp only[e2] at hpl;refine M.F Tryz.func169 ?_;(repeat' first|refine M.o2 @hru @hty ?_|refine M.gs ?_ ?_<;>intro h|refine M.z1 5 ?_|refine M.gk ?_|fail);all_goals first
  |(exfalso;simp at h;omega)
  |skip
 refine M.w0 ?_;all_goals
  refine M.rt p.terms.length
   (fun m=>([(3,.ptr 2 0),(4,.ptr 3 0),(5,.ptr 4 0),(6,.ptr 5 0),(7,.ptr 6 0),(9,.ptr 7 0),(44,.s .tm p.terms),(45,.i p.terms.length),(46,.i m)],⟨9,[(0,.var [.i fr]),(1,.var [.i by_]),(2,.var p.view),(3,.var [.i v,.i y]),(4,.var [.nilf,.nilf,.fn (.func 176) [] [.ptr 0 0,.ptr 1 0]]),(5,.var [.i 0,.i 0,.i 0,.slice .nil (.t .ty []),.slice .nil (.t .tm []),.slice .nil (.t .fm []),.slice .nil (.t .pf [])]),(6,.var [.bool nd.index,.bool nd.typ,.i nd.terms,.i nd.Aa,.i nd.args,.i (Au p.kind),.i (Ap p.kind),.i (Ar p.kind)]),(7,.var [.i p.kind,.i p.index,.i p.ty.kind,.s .ty p.ty.args,.slice (.own 8) (.t .tm (p.terms.take m)),.slice .nil (.t .fm []),.slice .nil (.t .pf [])]),(8,.row)]⟩))
   (M.W Qk) ?_ ?_
  .exact kr
  .intro _;simp only[ZF];refine M.w0 ?_;refine M.rt p.Aa.length
    (fun m=>([(3,.ptr 2 0),(4,.ptr 3 0),(5,.ptr 4 0),(6,.ptr 5 0),(7,.ptr 6 0),(9,.ptr 7 0),(73,.s .fm p.Aa),(74,.i p.Aa.length),(75,.i m)],⟨10,[(0,.var [.i fr]),(1,.var [.i by_]),(2,.var p.view),(3,.var [.i v,.i y]),(4,.var [.nilf,.nilf,.fn (.func 176) [] [.ptr 0 0,.ptr 1 0]]),(5,.var [.i 0,.i 0,.i 0,.slice .nil (.t .ty []),.slice .nil (.t .tm []),.slice .nil (.t .fm []),.slice .nil (.t .pf [])]),(6,.var [.bool nd.index,.bool nd.typ,.i nd.terms,.i nd.Aa,.i nd.args,.i (Au p.kind),.i (Ap p.kind),.i (Ar p.kind)]),(7,.var [.i p.kind,.i p.index,.i p.ty.kind,.s .ty p.ty.args,.slice (.own 8) (.t .tm (p.terms)),.slice (.own 9) (.t .fm (p.Aa.take m)),.slice .nil (.t .pf [])]),(8,.row),(9,.row)]⟩))
    (M.W Qn) ?_ ?_
   .exact kA
   .intro _;simp only[ZF];refine M.w0 ?_;refine M.rt p.args.length
     (fun m=>([(3,.ptr 2 0),(4,.ptr 3 0),(5,.ptr 4 0),(6,.ptr 5 0),(7,.ptr 6 0),(9,.ptr 7 0),(105,.s .pf p.args),(106,.i p.args.length),(107,.i m)],⟨11,[(0,.var [.i fr]),(1,.var [.i by_]),(2,.var p.view),(3,.var [.i v,.i y]),(4,.var [.nilf,.nilf,.fn (.func 176) [] [.ptr 0 0,.ptr 1 0]]),(5,.var [.i 0,.i 0,.i 0,.slice .nil (.t .ty []),.slice .nil (.t .tm []),.slice .nil (.t .fm []),.slice .nil (.t .pf [])]),(6,.var [.bool nd.index,.bool nd.typ,.i nd.terms,.i nd.Aa,.i nd.args,.i (Au p.kind),.i (Ap p.kind),.i (Ar p.kind)]),(7,.var [.i p.kind,.i p.index,.i p.ty.kind,.s .ty p.ty.args,.slice (.own 8) (.t .tm (p.terms)),.slice (.own 9) (.t .fm (p.Aa)),.slice (.own 10) (.t .pf ((Pf.Fi fr by_ y (Ar p.kind) p.args).take m))]),(8,.row),(9,.row),(10,.row)]⟩))
     (M.W OD) ?_ ?_
    .intro m hm _;have hs2:=zc Pf.full (ZA hm);have hb:=hpl m dY;have hc:=ih p.args[m] (if(m:Int)=(nd.args:Int)-1 then v+Ap p.kind else v) (if m+1=p.args.length then y+Ar p.kind else y) dY dY ez ez (hpf _ (ZA hm));have ev:(if(m:Int)=(nd.args:Int)-1 then y+Ar p.kind else y)=(if m+1=p.args.length then y+Ar p.kind else y):=by
      exact jZ
     rw[ev] at hb;refine M.w2 @hb @hc ?_;exact⟨rfl,trivial,(M.W [some 0,some 1,some 2,some 3,some 4,some 5,some 6,some 7,some 8,some 9,some 12] (he:=(by(repeat'(first|exact trivial|exact Or.inr ⟨_,U,rfl⟩|refine And.intro ?_ ?_|refine⟨_,U,_,U,_,U,?_⟩|exact Ai.refl _|exact Ai.of_eq (by simp[Aj.Aw,Yb0 hm])));done)))⟩
    .intro _;simp only[Yfp];refine M.w0 ?_;rw[hre]
     (exact M.n2 AQ (h8:=fL))
theorem Xb(p:Pf)(fr by_:Int)(hp:p.full<5000000000)(hs:p.nd):PC E 107 [.agg p.view,.i fr,.i by_] (.agg (p.hw fr by_ 0).view):=by
 have hc:=Yjs fr by_ _ p 0 0 (ZB _) dY dY dY hs;refine M.F Tryz.func107 ?_;(repeat' first|refine M.w0 ?_|refine M.cv (hc) [1,2] 0 ?_|fail);simp[zh,V.wk,V.An,za,Ty.view,Tm.view]
theorem Ykp(a:Int)(s:Tm)(ha:0<=a/\a<100000000000)(hs:s.full<274877906944)(hsi:∀p∈s.vars 0,0<=p.1/\p.1<549755813888)(t:Tm)(bl:Int)(ht:t.full<274877906944)(hb:0<=bl/\bl<100000000000)(hix:∀p∈t.vars 0,0<=p.1/\p.1<549755813888):
 AC E 185 [.agg t.view,.i bl,.ptr 0 0,.ptr 1 0] ⟨2,[(0,.var [.i a]),(1,.var s.view)]⟩ (.agg (t.re (xt (a+bl) s) 0).view) ⟨2,[(0,.var [.i a]),(1,.var s.view)]⟩:=by
 have hc:=Zo t (a+bl) s dY hs hsi ht hix;generalize t.re (xt (a+bl) s) 0=u at*;refine M.F Tryz.func185 ?_;refine M.w1 @hc ?_
 (exact M.n2 AQ (h8:=fB))
theorem Ykm(a:Int)(s:Tm)(ha:0<=a/\a<100000000000)(hs:s.full<274877906944)(hsi:∀p∈s.vars 0,0<=p.1/\p.1<549755813888)(f:Fm)(bl:Int)(ht:f.full<137438953472)(hb:0<=bl/\bl<100000000000)(hix:∀p∈f.AZ 0,∀q∈p.1.vars 0,0<=q.1/\q.1<549755813888):
 AC E 187 [.agg f.view,.i bl,.ptr 0 0,.ptr 1 0] ⟨2,[(0,.var [.i a]),(1,.var s.view)]⟩ (.agg (f.put (a+bl) s).view) ⟨2,[(0,.var [.i a]),(1,.var s.view)]⟩:=by
 have hc:=Yd5 f (a+bl) s dY hs hsi ht hix;generalize f.put (a+bl) s=F at*;refine M.F Tryz.func187 ?_;refine M.w1 @hc ?_
 (exact M.n2 AQ (h8:=jE))
theorem Yhh(a:Int)(s:Tm)(ha:0<=a/\a<10000000000)(hs0:s.full<274877906944)(hsi:∀p∈s.vars 0,0<=p.1/\p.1<549755813888):∀(n:Nat) (p:Pf) (v y:Int),p.full<=n->n<10000000000->(0<=v/\v+2*n<=50000000000)->(0<=y/\y+2*n<=50000000000)->p.nd->p.ix 549755813888->
 AC E 169 [.agg p.view,.agg [.i v,.i y],.agg [.fn (.func 185) [] [.ptr 0 0,.ptr 1 0],.fn (.func 187) [] [.ptr 0 0,.ptr 1 0],.nilf]] ⟨2,[(0,.var [.i a]),(1,.var s.view)]⟩ (.agg (p.pt a s v).view) ⟨2,[(0,.var [.i a]),(1,.var s.view)]⟩:=by
 intro n;induction n with
 |zero=>intro p v y hz;have:=p.Ac;omega
 |succ n ih=>
 intro p v y hz hn hv hh hs hix;obtain⟨i1,i2,i3⟩:=(Pf.Bq _ p).1 hix;have hre:=p.D6 a s v;have hsz':=p.Af;have hlen:=zd Pf.full Pf.Ac p.args;have hlen1:=zd Fm.full Fm.Ac p.Aa;have hlen2:=zd Tm.full Tm.Ac p.terms;have hty:=IC _ p.ty (ZB _) dY;have hru:=vg p.kind;obtain⟨⟨nd,n1,n4⟩,hpf⟩:=(Pf.Bt p).1 hs;have hal:p.args.length<=2:=by
  exact j7
 have hpl:=fun(m:Nat) (hm:m<=1000000)=>xf p.kind v y nd n1 m hm dY dY;have e2:Dq p.kind=[.bool nd.index,.bool nd.typ,.i nd.terms,.i nd.Aa,.i nd.args,.i (Au p.kind),.i (Ap p.kind),.i (Ar p.kind)]:=fk
 have b1:0<=Ap p.kind/\Ap p.kind<=2:=eT
 have b2:0<=Ar p.kind/\Ar p.kind<=1:=eV
 have b3:0<=Au p.kind/\Au p.kind<=1:=eW
 rw[n1] at hru;simp only[an] at hru;rw[e2] at hru;simp only[e2] at hpl;refine M.F Tryz.func169 ?_;(repeat' first|refine M.w2 @hru @hty ?_|refine M.gs ?_ ?_<;>intro h|fail);all_goals
  refine M.rt p.terms.length
   (fun m=>([(3,.ptr 2 0),(4,.ptr 3 0),(5,.ptr 4 0),(6,.ptr 5 0),(7,.ptr 6 0),(9,.ptr 7 0),(44,.s .tm p.terms),(45,.i p.terms.length),(46,.i m)],⟨9,[(0,.var [.i a]),(1,.var s.view),(2,.var p.view),(3,.var [.i v,.i y]),(4,.var [.fn (.func 185) [] [.ptr 0 0,.ptr 1 0],.fn (.func 187) [] [.ptr 0 0,.ptr 1 0],.nilf]),(5,.var [.i 0,.i 0,.i 0,.slice .nil (.t .ty []),.slice .nil (.t .tm []),.slice .nil (.t .fm []),.slice .nil (.t .pf [])]),(6,.var [.bool nd.index,.bool nd.typ,.i nd.terms,.i nd.Aa,.i nd.args,.i (Au p.kind),.i (Ap p.kind),.i (Ar p.kind)]),(7,.var [.i p.kind,.i p.index,.i p.ty.kind,.s .ty p.ty.args,.slice (.own 8) (.t .tm ((p.terms.take m).map fun t=>t.re (xt (a+v) s) 0)),.slice .nil (.t .fm []),.slice .nil (.t .pf [])]),(8,.row)]⟩))
   (M.W Qk) ?_ ?_
  .intro m hm _;have hs2:=zc Tm.full (ZA hm);have hc:=Ykp a s dY hs0 hsi p.terms[m] v dY dY (i1 _ (ZA hm));refine M.w1 @hc ?_;exact⟨rfl,trivial,(M.W [some 0,some 1,some 2,some 3,some 4,some 5,some 6,some 7,some 10] (he:=(by(repeat'(first|exact trivial|exact Or.inr ⟨_,U,rfl⟩|refine And.intro ?_ ?_|refine⟨_,U,_,U,_,U,?_⟩|exact Ai.refl _|exact Ai.of_eq eL));done)))⟩
  .intro _;simp only[ZF];refine M.w0 ?_;refine M.rt p.Aa.length
    (fun m=>([(3,.ptr 2 0),(4,.ptr 3 0),(5,.ptr 4 0),(6,.ptr 5 0),(7,.ptr 6 0),(9,.ptr 7 0),(73,.s .fm p.Aa),(74,.i p.Aa.length),(75,.i m)],⟨10,[(0,.var [.i a]),(1,.var s.view),(2,.var p.view),(3,.var [.i v,.i y]),(4,.var [.fn (.func 185) [] [.ptr 0 0,.ptr 1 0],.fn (.func 187) [] [.ptr 0 0,.ptr 1 0],.nilf]),(5,.var [.i 0,.i 0,.i 0,.slice .nil (.t .ty []),.slice .nil (.t .tm []),.slice .nil (.t .fm []),.slice .nil (.t .pf [])]),(6,.var [.bool nd.index,.bool nd.typ,.i nd.terms,.i nd.Aa,.i nd.args,.i (Au p.kind),.i (Ap p.kind),.i (Ar p.kind)]),(7,.var [.i p.kind,.i p.index,.i p.ty.kind,.s .ty p.ty.args,.slice (.own 8) (.t .tm (p.terms.map fun t=>t.re (xt (a+v) s) 0)),.slice (.own 9) (.t .fm ((p.Aa.take m).map fun f=>f.put (a+(v+Au p.kind)) s)),.slice .nil (.t .pf [])]),(8,.row),(9,.row)]⟩))
    (M.W Qn) ?_ ?_
   .intro m hm _;have hs2:=zc Fm.full (ZA hm);have hc:=Ykm a s dY hs0 hsi p.Aa[m] (v+Au p.kind) dY dY (i2 _ (ZA hm));refine M.w1 @hc ?_;exact⟨rfl,trivial,(M.W [some 0,some 1,some 2,some 3,some 4,some 5,some 6,some 7,some 8,some 11] (he:=(by(repeat'(first|exact trivial|exact Or.inr ⟨_,U,rfl⟩|refine And.intro ?_ ?_|refine⟨_,U,_,U,_,U,?_⟩|exact Ai.refl _|exact Ai.of_eq eL));done)))⟩
   .intro _;simp only[ZF];refine M.w0 ?_;refine M.rt p.args.length
     (fun m=>([(3,.ptr 2 0),(4,.ptr 3 0),(5,.ptr 4 0),(6,.ptr 5 0),(7,.ptr 6 0),(9,.ptr 7 0),(105,.s .pf p.args),(106,.i p.args.length),(107,.i m)],⟨11,[(0,.var [.i a]),(1,.var s.view),(2,.var p.view),(3,.var [.i v,.i y]),(4,.var [.fn (.func 185) [] [.ptr 0 0,.ptr 1 0],.fn (.func 187) [] [.ptr 0 0,.ptr 1 0],.nilf]),(5,.var [.i 0,.i 0,.i 0,.slice .nil (.t .ty []),.slice .nil (.t .tm []),.slice .nil (.t .fm []),.slice .nil (.t .pf [])]),(6,.var [.bool nd.index,.bool nd.typ,.i nd.terms,.i nd.Aa,.i nd.args,.i (Au p.kind),.i (Ap p.kind),.i (Ar p.kind)]),(7,.var [.i p.kind,.i p.index,.i p.ty.kind,.s .ty p.ty.args,.slice (.own 8) (.t .tm (p.terms.map fun t=>t.re (xt (a+v) s) 0)),.slice (.own 9) (.t .fm (p.Aa.map fun f=>f.put (a+(v+Au p.kind)) s)),.slice (.own 10) (.t .pf ((Pf.pts a s v (Ap p.kind) p.args).take m))]),(8,.row),(9,.row),(10,.row)]⟩))
     (M.W OD) ?_ ?_
    .intro m hm _;have hs2:=zc Pf.full (ZA hm);have hb:=hpl m dY;have hc:=ih p.args[m] (if m+1=p.args.length then v+Ap p.kind else v) (if(m:Int)=(nd.args:Int)-1 then y+Ar p.kind else y) dY dY ez ez (hpf _ (ZA hm)) (i3 _ (ZA hm));have ev:(if(m:Int)=(nd.args:Int)-1 then v+Ap p.kind else v)=(if m+1=p.args.length then v+Ap p.kind else v):=by
      exact jZ
     rw[ev] at hb;refine M.w2 @hb @hc ?_;exact⟨rfl,trivial,(M.W [some 0,some 1,some 2,some 3,some 4,some 5,some 6,some 7,some 8,some 9,some 12] (he:=(by(repeat'(first|exact trivial|exact Or.inr ⟨_,U,rfl⟩|refine And.intro ?_ ?_|refine⟨_,U,_,U,_,U,?_⟩|exact Ai.refl _|exact Ai.of_eq (by simp[Aj.Aw,XP hm])));done)))⟩
    .intro _;simp only[UP];refine M.w0 ?_;rw[hre]
     (exact M.n2 AQ (h8:=fL))
theorem Yh5(p:Pf)(a:Int)(s:Tm)(ha:0<=a/\a<10000000000)(hs0:s.full<274877906944)(hsi:∀p∈s.vars 0,0<=p.1/\p.1<549755813888)(hp:p.full<5000000000)(hs:p.nd)(hix:p.ix 549755813888):
 PC E 120 [.agg p.view,.i a,.agg s.view] (.agg (p.pt a s 0).view):=by
 have hc:=Yhh a s ha hs0 hsi _ p 0 0 (ZB _) dY dY dY hs hix;generalize p.pt a s 0=P at*;refine M.F Tryz.func120 ?_;(repeat' first|refine M.w0 ?_|refine M.cv (hc) [1,2] 0 ?_|fail);simp[zh,V.wk,V.An,za,Ty.view,Tm.view]
theorem QI(a:Int)(q:Pf)(ha:0<=a/\a<10000000000)(hq:q.full<5000000000)(hqn:q.nd)(v y:Int)(hy:0<=y/\y<100000000000)(p:Pf)(hp:0<=p.index/\p.index<549755813888):
 AC E 193 [.agg p.view,.agg [.i v,.i y],.ptr 0 0,.ptr 1 0] ⟨2,[(0,.var [.i a]),(1,.var q.view)]⟩ (.agg (if p.index-y=a then q.Kj v (a+y) else if p.index-y>a then x8 (p.index-1) else x8 p.index).view) ⟨2,[(0,.var [.i a]),(1,.var q.view)]⟩:=by
 have h1:=OV (p.index-1);have h2:=OV p.index;have h3:=YK q 0 v dY dY hqn;have h4:=Xb (q.uw 0 v 0) 0 (a+y) (by have:=OM 0 v q 0;omega) (Yku 0 v q hqn 0);have e:q.Kj v (a+y)=(q.uw 0 v 0).hw 0 (a+y) 0:=rfl;rw[<-e] at h4;generalize q.Kj v (a+y)=U at*;generalize q.uw 0 v 0=W at*;by_cases h0:p.index-y=a
 .rw[if_pos h0];refine M.F Tryz.func193 ?_;(repeat' first|refine M.v4 @h1 @h2 @h3 @h4 ?_|refine M.cs ?_ ?_<;>intro h|fail);all_goals first|exfalso;simp at h;omega|exfalso;simp_all;done|exact M.n2 AQ (h8:=eG)
 rw[if_neg h0];by_cases h5:p.index-y>a
 .rw[if_pos h5];refine M.F Tryz.func193 ?_;(repeat' first|refine M.o2 @h1 @h2 ?_|refine M.z1 3 ?_|refine M.bl ?_|refine M.cs ?_ ?_<;>intro h|refine M.gk ?_|fail);all_goals first|exfalso;simp at h;omega|exfalso;simp at*;omega|exact M.n2 AQ (h8:=gB)
 .rw[if_neg h5];refine M.F Tryz.func193 ?_;(repeat' first|refine M.o2 @h1 @h2 ?_|refine M.z1 3 ?_|refine M.bl ?_|refine M.cs ?_ ?_<;>intro h|refine M.gk ?_|fail);all_goals first|exfalso;simp at h;omega|exfalso;simp at*;omega|exact M.n2 AQ (h8:=gB)
theorem Yix(a:Int)(q:Pf)(ha:0<=a/\a<10000000000)(hq:q.full<5000000000)(hqn:q.nd):∀(n:Nat) (p:Pf) (v y:Int),p.full<=n->n<10000000000->(0<=v/\v+2*n<=50000000000)->(0<=y/\y+2*n<=50000000000)->p.nd->p.hx 549755813888->
 AC E 169 [.agg p.view,.agg [.i v,.i y],.agg [.nilf,.nilf,.fn (.func 193) [] [.ptr 0 0,.ptr 1 0]]] ⟨2,[(0,.var [.i a]),(1,.var q.view)]⟩ (.agg (Pf.ph a q v y p).view) ⟨2,[(0,.var [.i a]),(1,.var q.view)]⟩:=by
 intro n;induction n with
 |zero=>intro p v y hz;have:=p.Ac;omega
 |succ n ih=>
 intro p v y hz hn hv hh hs hhx;obtain⟨i1,i2⟩:=(Pf.Br _ p).1 hhx;have hre:=Pf.IM a q v y p;by_cases hk:p.kind=1
 .rw[if_pos hk] at hre;rw[hre];have hc:=QI a q ha hq hqn v y dY p (i1 hk);refine M.F Tryz.func169 ?_;(repeat' first|refine M.o1 @hc ?_|refine M.gs ?_ ?_<;>intro h|refine M.z1 3 ?_|refine M.gk ?_|fail);all_goals first|exfalso;simp at h;omega|exfalso;simp_all;done|exact M.n2 AQ (h8:=eG)
 rw[if_neg hk] at hre;have hsz':=p.Af;have hlen:=zd Pf.full Pf.Ac p.args;have hlen1:=zd Fm.full Fm.Ac p.Aa;have hlen2:=zd Tm.full Tm.Ac p.terms;have hty:=IC _ p.ty (ZB _) dY;have hru:=vg p.kind;obtain⟨⟨nd,n1,n4⟩,hpf⟩:=(Pf.Bt p).1 hs;have hal:p.args.length<=2:=by
  exact j7
 have hpl:=fun(m:Nat) (hm:m<=1000000)=>xf p.kind v y nd n1 m hm dY dY;have e2:Dq p.kind=[.bool nd.index,.bool nd.typ,.i nd.terms,.i nd.Aa,.i nd.args,.i (Au p.kind),.i (Ap p.kind),.i (Ar p.kind)]:=fk
 have b1:0<=Ap p.kind/\Ap p.kind<=2:=eT
 have b2:0<=Ar p.kind/\Ar p.kind<=1:=eV
 have b3:0<=Au p.kind/\Au p.kind<=1:=eW
 rw[n1] at hru;simp only[an] at hru;rw[e2] at hru;simp only[e2] at hpl;refine M.F Tryz.func169 ?_;(repeat' first|refine M.o2 @hru @hty ?_|refine M.gs ?_ ?_<;>intro h|refine M.z1 5 ?_|refine M.gk ?_|fail);all_goals first
  |(exfalso;simp at h;omega)
  |skip
 refine M.w0 ?_;all_goals
  refine M.rt p.terms.length
   (fun m=>([(3,.ptr 2 0),(4,.ptr 3 0),(5,.ptr 4 0),(6,.ptr 5 0),(7,.ptr 6 0),(9,.ptr 7 0),(44,.s .tm p.terms),(45,.i p.terms.length),(46,.i m)],⟨9,[(0,.var [.i a]),(1,.var q.view),(2,.var p.view),(3,.var [.i v,.i y]),(4,.var [.nilf,.nilf,.fn (.func 193) [] [.ptr 0 0,.ptr 1 0]]),(5,.var [.i 0,.i 0,.i 0,.slice .nil (.t .ty []),.slice .nil (.t .tm []),.slice .nil (.t .fm []),.slice .nil (.t .pf [])]),(6,.var [.bool nd.index,.bool nd.typ,.i nd.terms,.i nd.Aa,.i nd.args,.i (Au p.kind),.i (Ap p.kind),.i (Ar p.kind)]),(7,.var [.i p.kind,.i p.index,.i p.ty.kind,.s .ty p.ty.args,.slice (.own 8) (.t .tm (p.terms.take m)),.slice .nil (.t .fm []),.slice .nil (.t .pf [])]),(8,.row)]⟩))
   (M.W Qk) ?_ ?_
  .exact kr
  .intro _;simp only[ZF];refine M.w0 ?_;refine M.rt p.Aa.length
    (fun m=>([(3,.ptr 2 0),(4,.ptr 3 0),(5,.ptr 4 0),(6,.ptr 5 0),(7,.ptr 6 0),(9,.ptr 7 0),(73,.s .fm p.Aa),(74,.i p.Aa.length),(75,.i m)],⟨10,[(0,.var [.i a]),(1,.var q.view),(2,.var p.view),(3,.var [.i v,.i y]),(4,.var [.nilf,.nilf,.fn (.func 193) [] [.ptr 0 0,.ptr 1 0]]),(5,.var [.i 0,.i 0,.i 0,.slice .nil (.t .ty []),.slice .nil (.t .tm []),.slice .nil (.t .fm []),.slice .nil (.t .pf [])]),(6,.var [.bool nd.index,.bool nd.typ,.i nd.terms,.i nd.Aa,.i nd.args,.i (Au p.kind),.i (Ap p.kind),.i (Ar p.kind)]),(7,.var [.i p.kind,.i p.index,.i p.ty.kind,.s .ty p.ty.args,.slice (.own 8) (.t .tm (p.terms)),.slice (.own 9) (.t .fm (p.Aa.take m)),.slice .nil (.t .pf [])]),(8,.row),(9,.row)]⟩))
    (M.W Qn) ?_ ?_
   .exact kA
   .intro _;simp only[ZF];refine M.w0 ?_;refine M.rt p.args.length
     (fun m=>([(3,.ptr 2 0),(4,.ptr 3 0),(5,.ptr 4 0),(6,.ptr 5 0),(7,.ptr 6 0),(9,.ptr 7 0),(105,.s .pf p.args),(106,.i p.args.length),(107,.i m)],⟨11,[(0,.var [.i a]),(1,.var q.view),(2,.var p.view),(3,.var [.i v,.i y]),(4,.var [.nilf,.nilf,.fn (.func 193) [] [.ptr 0 0,.ptr 1 0]]),(5,.var [.i 0,.i 0,.i 0,.slice .nil (.t .ty []),.slice .nil (.t .tm []),.slice .nil (.t .fm []),.slice .nil (.t .pf [])]),(6,.var [.bool nd.index,.bool nd.typ,.i nd.terms,.i nd.Aa,.i nd.args,.i (Au p.kind),.i (Ap p.kind),.i (Ar p.kind)]),(7,.var [.i p.kind,.i p.index,.i p.ty.kind,.s .ty p.ty.args,.slice (.own 8) (.t .tm (p.terms)),.slice (.own 9) (.t .fm (p.Aa)),.slice (.own 10) (.t .pf ((Pf.FB a q v y (Ap p.kind) (Ar p.kind) p.args).take m))]),(8,.row),(9,.row),(10,.row)]⟩))
     (M.W OD) ?_ ?_
    .intro m hm _;have hs2:=zc Pf.full (ZA hm);have hb:=hpl m dY;have hc:=ih p.args[m] (if m+1=p.args.length then v+Ap p.kind else v) (if m+1=p.args.length then y+Ar p.kind else y) dY dY ez ez (hpf _ (ZA hm)) (i2 hk _ (ZA hm));have ev:(if(m:Int)=(nd.args:Int)-1 then y+Ar p.kind else y)=(if m+1=p.args.length then y+Ar p.kind else y):=by
      exact jZ
     have ev2:(if(m:Int)=(nd.args:Int)-1 then v+Ap p.kind else v)=(if m+1=p.args.length then v+Ap p.kind else v):=by
      exact jZ
     rw[ev,ev2] at hb;refine M.w2 @hb @hc ?_;exact⟨rfl,trivial,(M.W [some 0,some 1,some 2,some 3,some 4,some 5,some 6,some 7,some 8,some 9,some 12] (he:=(by(repeat'(first|exact trivial|exact Or.inr ⟨_,U,rfl⟩|refine And.intro ?_ ?_|refine⟨_,U,_,U,_,U,?_⟩|exact Ai.refl _|exact Ai.of_eq (by simp[Aj.Aw,Xa hm])));done)))⟩
    .intro _;simp only[XI];refine M.w0 ?_;rw[hre]
     (exact M.n2 AQ (h8:=fL))
theorem Yja(p:Pf)(a:Int)(q:Pf)(ha:0<=a/\a<10000000000)(hq:q.full<5000000000)(hqn:q.nd)(hp:p.full<5000000000)(hs:p.nd)(hx:p.hx 549755813888):
 PC E 127 [.agg p.view,.i a,.agg q.view] (.agg (Pf.ph a q 0 0 p).view):=by
 have hc:=Yix a q ha hq hqn _ p 0 0 (ZB _) dY dY dY hs hx;generalize Pf.ph a q 0 0 p=P at*;refine M.F Tryz.func127 ?_;(repeat' first|refine M.w0 ?_|refine M.cv (hc) [1,2] 0 ?_|fail);simp[zh,V.wk,V.An,za,Ty.view,Tm.view]
end Go.Ab
