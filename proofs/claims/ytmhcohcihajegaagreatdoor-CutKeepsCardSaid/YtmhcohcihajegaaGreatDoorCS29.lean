/- A part of this seat's proofs. No conditions. -/
import Derived.Test.YtmhcohcihajegaaGreatDoorCS24
import Derived.Test.YtmhcohcihajegaaGreatDoorCS25
namespace Go.Ab
open Go Go.Proofs
set_option maxRecDepth 100000
set_option maxHeartbeats 4000000
set_option linter.all false
theorem PV{f:Fm}{g:List Ty}{k:Int}{s:Ty}(hk:k=5\/k=7)(hs:s.small)(h1:f.shape=true)(h2:f.size<=4400)(ho:f.A9 (g++[s]))(hg:g.length<=16):EL ((AL k s f).As 0 1):=by
 have hq:=Gf.qu (g:=g) k kn (uy hs) ⟨h1,h2,ho⟩;have hq2:Gf (g++[]) (AL k s f) (4400+1):=by simpa using hq
 have hl:Gf (g++[Ac]++[]) ((AL k s f).As 0 1) (4400+1):=Gf.As (h:=[]) [Ac] hq2;exact EL.size hl.sh (by have:=hl.sz;omega) hl.ok kC
theorem Ykm(n:Nat)(hn:n<=3)(H:F7 n)(lems:List Fm)(tys:List Ty)(hyps:List Fm)(hc:(Ck.mk lems tys hyps).ok)(hs:Aj tys)(ht:tys.length<10)(hh:hyps.length<10)(d:Dk)(hd:d.ok)(k:Int)(hk:k=(n:Int)+1):
 ∃(p:Pf) (d':Dk),Made (DI (n+1)) p/\d'.ok/\AC E 64 [.ptr 0 0,.s .fm lems,.agg [.s .ty tys,.s .fm hyps],.i k] ⟨1,[(0,.var d.cells)]⟩ (.agg p.view) ⟨1,[(0,.var d'.cells)]⟩:=by
 have hb:=vp n;have hbs:=w7 n;have hbl:=FD (show n<=4 by omega);have hl:=Ga hc;have h1:=(bW d hd tys hyps hs hl.1).1;have mn:=J4 d hs;have ok1:=Dk.Dd 3 d tys Ac hd;generalize Dk.tm 3 d tys Ac=T at*;obtain⟨t,d1⟩:=T;simp only at mn ok1;have ti:=DA.of mn.1.err mn.1.inf kn;have ft:=ye mn.1.err;obtain⟨ee,oe⟩:=Th mn.1.err mn.1.inf kn;have hsz:=((Fm.Aa _).1 ee);have fe:=yh ee;obtain⟨i,d2,ok2,hi,h2⟩:=GC d1 3 ok1 kn;have hnat:=DR;have hbe:=MT tys hyps [Ac] (fun f hf=>hc.hyps f hf) kn ko kn;have hc2:(Ck.mk lems (tys++[Ac]) (hyps.map fun f=>f.As 0 [Ac].length)).ok:=hc.below (l:=[Ac]) l6 (ux (uy zj));have hs2:Aj (tys++[Ac]):=zm hs (zg zj zk);have hm1:=Made.ref ti;have f1:=hm1.full;have hhl:(hyps.map fun f=>f.As 0 [Ac].length).length<10:=by simpa using hh
 generalize hH2:(hyps.map fun f=>f.As 0 [Ac].length)=H2 at*;have q1:=Mr (k:=5) (.inl rfl) zj hsz.1 kn oe kn;have q2:=Mr (k:=7) (.inr rfl) zj hsz.1 kn oe kn;have hU1:=Gx (f:=AL 5 Ac (AV (t.re (zi 0 1) 0) (vT 0))) (g:=tys) (Gf.qu (n:=4096) 5 kn kq ⟨hsz.1,hsz.2,oe⟩).ok q1.1 (by have:=(Gf.qu (g:=tys) (n:=4096) 5 kn (show Ac.err=0 by decide) ⟨hsz.1,hsz.2,oe⟩).sz;omega) kn 0 1 kn kn;have hU2:=Gx (f:=AL 7 Ac (AV (t.re (zi 0 1) 0) (vT 0))) (g:=tys) (Gf.qu (n:=4096) 7 kn kq ⟨hsz.1,hsz.2,oe⟩).ok q2.1 (by have:=(Gf.qu (g:=tys) (n:=4096) 7 kn (show Ac.err=0 by decide) ⟨hsz.1,hsz.2,oe⟩).sz;omega) kn 0 1 kn kn;have l1:=Lw (AL 5 Ac (AV (t.re (zi 0 1) 0) (vT 0))) 0 1;have l2:=Lw (AL 7 Ac (AV (t.re (zi 0 1) 0) (vT 0))) 0 1;have i1:EL ((AL 5 Ac (AV (t.re (zi 0 1) 0) (vT 0))).As 0 1):=PV (.inl rfl) zj hsz.1 kn oe kn;have i2:EL ((AL 7 Ac (AV (t.re (zi 0 1) 0) (vT 0))).As 0 1):=PV (.inr rfl) zj hsz.1 kn oe kn;unfold L9 at h1;generalize t.re (zi 0 1) 0=u at*;have g1:=q1.2.2;have g2:=q2.2.2;have hw:=V0 (tys++[Ac]) H2 (AV u (vT 0)) kn;have hc3:(Ck.mk lems (tys++[Ac]) (H2++[AV u (vT 0)])).ok:=hc2.Ah lq ee oe;obtain⟨p1,d3,m1,ok3,hp1⟩:=H lems (tys++[Ac]) (H2++[AV u (vT 0)]) d2 (k-1) kn ok2 hc3 hs2;have fp1:=m1.full;obtain⟨j,d4,ok4,hj,h4⟩:=GC d3 2 ok3 kn;have hv:=Fg 0;have hy:=Lz 0;have mh:Made 10 (vd 0):=Made.hyp kn;have fh:=mh.full;have tv:DA (vT 0):=JT _ kq kq kq;generalize (AL 5 Ac (AV u (vT 0))).As 0 1=w1 at*;generalize (AL 7 Ac (AV u (vT 0))).As 0 1=w2 at*;have e1:=LK 10 w1 (vT 0) (vd 0) kn kq kn;have e2:=LK 14 w2 (vT 0) (vd 0) kn kq kn;have r1:Made 1000000 (.mk 10 0 (.mk 0 []) [t] [AL 5 Ac (AV u (vT 0))] [xz t]):=(Made.ex (k:=10) kn q1 ti hm1).up kn;have r2:Made 1000000 (.mk 14 0 (.mk 0 []) [t] [AL 7 Ac (AV u (vT 0))] [xz t]):=(Made.ex (k:=14) kn q2 ti hm1).up kn;have s1:Made 700000 (.mk 10 0 (.mk 0 []) [vT 0] [w1] [vd 0]):=(Made.ex (k:=10) kn i1 tv mh).up kn;have s2:Made 700000 (.mk 14 0 (.mk 0 []) [vT 0] [w2] [vd 0]):=(Made.ex (k:=14) kn i2 tv mh).up kn;have a1:=r1.full;have a2:=r2.full;have b1:=s1.full;have b2:=s2.full;by_cases hi0:i=0
 .by_cases hj0:j=0
  .subst hi0 hj0;have hP:=Fi 15 [(.mk 14 0 (.mk 0 []) [t] [AL 7 Ac (AV u (vT 0))] [xz t]),(.mk 14 0 (.mk 0 []) [vT 0] [w2] [vd 0])] ko (JS kn kn);refine⟨_,d4,(Made.two (k:=15) kn r2 s2).up kn,ok4,?_⟩;refine M.F Tryz.func64 ?_;(repeat' first|refine M.w0 ?_|refine M.cb (h1) [0] 1 ?_|refine M.cb (h2) [0] 0 ?_|fail);all_goals first
    |(exfalso;simp at h;omega)
    |skip
   refine L.F4 0 rfl rfl rfl rfl rfl kn rfl ?_;refine M.w0 ?_;refine L.F4 0 rfl rfl rfl rfl rfl kn rfl ?_;(repeat' first|refine M.o5 @hnat @hbe @hw @hp1 @h4 ?_|refine M.z1 11 ?_|refine M.gk ?_|fail);all_goals first
    |(exfalso;simp at h;omega)
    |skip
   refine L.F4 0 rfl rfl rfl rfl rfl kn rfl ?_;(repeat' first|refine M.o4 @hU2 @hv @hy @e2 ?_|refine M.z1 11 ?_|refine M.gk ?_|fail);refine AW.B8 (c:= .fm) 3 1 [AL 7 Ac (AV u (vT 0))] rfl ko (by(repeat'(first|exact trivial|exact fun _=>rfl|exact fun h=>absurd rfl h|exact fun h=>absurd h kq|refine And.intro ?_ ?_|intro _));done) (by(repeat'(first|exact trivial|exact fun _=>rfl|exact fun h=>absurd rfl h|exact fun h=>absurd h kq|refine And.intro ?_ ?_|intro _));done) ?_;refine M.w1 @hP ?_
   (exact M.n2 AJ (h8:=kG))
  .subst hi0;obtain⟨pk,pi,⟨sk,sa⟩,pt,pf,pa⟩:=p1;have hP:=Fi 15 [(.mk 14 0 (.mk 0 []) [t] [AL 7 Ac (AV u (vT 0))] [xz t]),(.mk pk pi (.mk sk sa) pt pf pa)] ko (JS kn kn);refine⟨_,d4,(Made.two (k:=15) kn r2 m1).up kn,ok4,?_⟩;refine M.F Tryz.func64 ?_;(repeat' first|refine M.w0 ?_|refine M.cb (h1) [0] 1 ?_|refine M.cb (h2) [0] 0 ?_|fail);all_goals first
    |(exfalso;simp at h;omega)
    |skip
   refine L.F4 0 rfl rfl rfl rfl rfl kn rfl ?_;refine M.w0 ?_;refine L.F4 0 rfl rfl rfl rfl rfl kn rfl ?_;(repeat' first|refine M.o5 @hnat @hbe @hw @hp1 @h4 ?_|refine M.z1 11 ?_|refine M.cs ?_ ?_<;>intro h|refine M.gk ?_|fail);all_goals first
    |(exfalso;simp at h;omega)
    |skip
   refine AW.B8 (c:= .fm) 3 1 [AL 7 Ac (AV u (vT 0))] rfl ko (by(repeat'(first|exact trivial|exact fun _=>rfl|exact fun h=>absurd rfl h|exact fun h=>absurd h kq|refine And.intro ?_ ?_|intro _));done) (by(repeat'(first|exact trivial|exact fun _=>rfl|exact fun h=>absurd rfl h|exact fun h=>absurd h kq|refine And.intro ?_ ?_|intro _));done) ?_;refine M.w1 @hP ?_
   (exact M.n2 AJ (h8:=kG))
 .by_cases hj0:j=0
  .subst hj0;have hP:=Fi 11 [(.mk 10 0 (.mk 0 []) [t] [AL 5 Ac (AV u (vT 0))] [xz t]),(.mk 10 0 (.mk 0 []) [vT 0] [w1] [vd 0])] ko (JS kn kn);refine⟨_,d4,(Made.two (k:=11) kn r1 s1).up kn,ok4,?_⟩;refine M.F Tryz.func64 ?_;(repeat' first|refine M.w0 ?_|refine M.cb (h1) [0] 1 ?_|refine M.cb (h2) [0] 0 ?_|refine M.cs ?_ ?_<;>intro h|fail);all_goals first
    |(exfalso;simp at h;omega)
    |skip
   refine L.F4 0 rfl rfl rfl rfl rfl kn rfl ?_;(repeat' first|refine M.o5 @hnat @hbe @hw @hp1 @h4 ?_|refine M.z1 11 ?_|refine M.gk ?_|fail);all_goals first
    |(exfalso;simp at h;omega)
    |skip
   refine L.F4 0 rfl rfl rfl rfl rfl kn rfl ?_;(repeat' first|refine M.o4 @hU1 @hv @hy @e1 ?_|refine M.z1 11 ?_|refine M.gk ?_|fail);refine AW.B8 (c:= .fm) 3 1 [AL 5 Ac (AV u (vT 0))] rfl ko (by(repeat'(first|exact trivial|exact fun _=>rfl|exact fun h=>absurd rfl h|exact fun h=>absurd h kq|refine And.intro ?_ ?_|intro _));done) (by(repeat'(first|exact trivial|exact fun _=>rfl|exact fun h=>absurd rfl h|exact fun h=>absurd h kq|refine And.intro ?_ ?_|intro _));done) ?_;refine M.w1 @hP ?_
   (exact M.n2 AJ (h8:=kG))
  .obtain ⟨pk,pi,⟨sk,sa⟩,pt,pf,pa⟩:=p1;have hP:=Fi 11 [(.mk 10 0 (.mk 0 []) [t] [AL 5 Ac (AV u (vT 0))] [xz t]),(.mk pk pi (.mk sk sa) pt pf pa)] ko (JS kn kn);refine⟨_,d4,(Made.two (k:=11) kn r1 m1).up kn,ok4,?_⟩;refine M.F Tryz.func64 ?_;(repeat' first|refine M.w0 ?_|refine M.cb (h1) [0] 1 ?_|refine M.cb (h2) [0] 0 ?_|refine M.cs ?_ ?_<;>intro h|fail);all_goals first
    |(exfalso;simp at h;omega)
    |skip
   refine L.F4 0 rfl rfl rfl rfl rfl kn rfl ?_;(repeat' first|refine M.o5 @hnat @hbe @hw @hp1 @h4 ?_|refine M.z1 11 ?_|refine M.cs ?_ ?_<;>intro h|refine M.gk ?_|fail);all_goals first
    |(exfalso;simp at h;omega)
    |skip
   refine AW.B8 (c:= .fm) 3 1 [AL 5 Ac (AV u (vT 0))] rfl ko (by(repeat'(first|exact trivial|exact fun _=>rfl|exact fun h=>absurd rfl h|exact fun h=>absurd h kq|refine And.intro ?_ ?_|intro _));done) (by(repeat'(first|exact trivial|exact fun _=>rfl|exact fun h=>absurd rfl h|exact fun h=>absurd h kq|refine And.intro ?_ ?_|intro _));done) ?_;refine M.w1 @hP ?_
   (exact M.n2 AJ (h8:=kG))
theorem bI:∀n,n<=4->F7 n
 |0,_=>fun lems tys hyps d k hk hd hc hs=>by
  obtain rfl:k=0:=by simpa using hk
  obtain⟨p,d',hm,ok',hA⟩:=L2 0 lems tys hyps hc hs d hd 0;refine⟨p,d',hm,ok',?_⟩;have hn:=DR;refine M.F Tryz.func20 ?_;(repeat' first|refine M.o1 @hn ?_|refine M.z2 3 61 ?_|refine M.gk ?_|fail);all_goals first
   |exact AW.weak (M.W D9) hA
   |(exfalso;simp at h;omega)
   |trace_state
 |n+1,h4=>fun lems tys hyps d k hk hd hc hs=>by
  have H:=bI n kn;have hn:=DR;by_cases hg:tys.length<10/\hyps.length<10;case neg=>
   obtain⟨p,d',hm,ok',hA⟩:=L2 (n+1) lems tys hyps hc hs d hd k;refine⟨p,d',hm,ok',?_⟩;refine M.F Tryz.func20 ?_;(repeat' first|refine M.o1 @hn ?_|refine M.gs ?_ ?_<;>intro h|refine M.z2 3 61 ?_|refine M.cs ?_ ?_<;>intro h|refine M.gk ?_|fail);all_goals first
    |exact AW.weak (M.W D9) hA
    |(exfalso;apply hg;simp at*;omega)
    |trace_state
  obtain⟨g1,g2⟩:=hg;obtain⟨j,d1,ok1,hj,hx⟩:=GC d 17 hd kn;have key:∃(p:Pf) (d':Dk),Made (DI (n+1)) p/\d'.ok/\AW E Tryz.f20.ntmps 1 (Iv [1,1] (NZ Tryz.f20)) [(0,.ptr 0 0),(1,.s .fm lems),(3,.i k),(6,.ptr 1 0),(8,.ptr 2 0),(9,.ptr 3 0)] ⟨4,[(0,.var d.cells),(1,.var [.s .ty tys,.s .fm hyps]),(2,.var [.i 0,.i 0,.i 0,.slice .nil (.t .ty []),.slice .nil (.t .tm []),.slice .nil (.t .fm []),.slice .nil (.t .pf [])]),(3,.var Ac.view)]⟩ (FT E 1 Tryz.f20.results.toList (.agg p.view) ⟨1,[(0,.var d'.cells)]⟩):=by
   have hk':k=(n:Int)+1:=kn
   rcases(show j=0\/j=1\/j=2\/j=3\/j=4\/j=5\/j=6\/j=7\/j=8\/j=9\/j=10\/j=11\/j=12\/j=13\/j=14\/j=15\/j=16 by omega) with rfl|rfl|rfl|rfl|rfl|rfl|rfl|rfl|rfl|rfl|rfl|rfl|rfl|rfl|rfl|rfl|rfl
   .exact Yny n kn H lems tys hyps hc hs g1 g2 d d1 ok1 k hk' hx
   .exact Ymm n kn H lems tys hyps hc hs g1 g2 d d1 ok1 k hk' hx
   .exact Ylx n kn H lems tys hyps hc hs g1 g2 d d1 ok1 k hk' hx
   .exact Yn0 n kn H lems tys hyps hc hs g1 g2 d d1 ok1 k hk' hx
   .exact Yll n kn H lems tys hyps hc hs g1 g2 d d1 ok1 k hk' hx
   .exact Yk5 n kn H lems tys hyps hc hs g1 g2 d d1 ok1 k hk' hx
   .exact Yk1 n kn H lems tys hyps hc hs g1 g2 d d1 ok1 k hk' hx
   .exact Ymv n kn H lems tys hyps hc hs g1 g2 d d1 ok1 k hk' hx
   .obtain ⟨p,d',hm,ok',hA⟩:=Ykm n kn H lems tys hyps hc hs g1 g2 d1 ok1 k hk';refine⟨p,d',hm,ok',?_⟩;show AW _ _ _ (Code.seq _ _) _ _ _;(repeat' first|refine M.o0 ?_|refine M.gs ?_ ?_<;>intro h|refine M.z1 3 ?_|refine M.cs ?_ ?_<;>intro h|refine M.gk ?_|fail);all_goals first
     |(exfalso;simp at h;omega)
     |skip
    refine M.v2 @hx @hA ?_;all_goals first|exact M.n2 AJ (h8:=kG)
   .exact Yme n kn H lems tys hyps hc hs g1 g2 d d1 ok1 k hk' hx
   .exact Yhe n kn H lems tys hyps hc hs g1 g2 d d1 ok1 k hk' hx
   .exact Yfn n kn H lems tys hyps hc hs g1 g2 d d1 ok1 k hk' hx
   .exact Yg1 n kn H lems tys hyps hc hs g1 g2 d d1 ok1 k hk' hx
   .exact Yiv n kn H lems tys hyps hc hs g1 g2 d d1 ok1 k hk' hx
   .exact Yg5 n kn H lems tys hyps hc hs g1 g2 d d1 ok1 k hk' hx
   .exact Yft n kn H lems tys hyps hc hs g1 g2 d d1 ok1 k hk' hx
   .obtain ⟨p,d',hm,ok',hA⟩:=L2 (n+1) lems tys hyps hc hs d1 ok1 k;refine⟨p,d',hm,ok',?_⟩;show AW _ _ _ (Code.seq _ _) _ _ _;(repeat' first|refine M.o0 ?_|refine M.gs ?_ ?_<;>intro h|refine M.z1 3 ?_|refine M.cs ?_ ?_<;>intro h|refine M.gk ?_|fail);all_goals first
     |(exfalso;simp at h;omega)
     |skip
    (repeat' first|refine M.o1 @hx ?_|refine M.z1 61 ?_|refine M.bl ?_|refine M.gk ?_|fail);all_goals first
     |exact AW.weak (M.W D9) hA
     |trace_state
  obtain⟨p,d',hm,ok',hA⟩:=key;refine⟨p,d',hm,ok',?_⟩;refine M.F Tryz.func20 ?_;(repeat' first|refine M.o1 @hn ?_|refine M.z1 2 ?_|refine M.gk ?_|fail);exact AW.weak (M.W D9) hA
theorem Yts(n:Nat)(hn:n<=4)(lems:List Fm)(tys:List Ty)(hyps:List Fm)(hc:(Ck.mk lems tys hyps).ok)(hs:Aj tys)(d:Dk)(hd:d.ok):
 ∃(pf:Nat->Pf) (dk:Nat->Dk) (xf:Nat->Fm) (us:Nat->List Int) (er:Nat->Int),dk 0=d/\∀m,(dk m).ok/\Made (DI n) (pf m)/\(er m=0->(xf m).err=0/\(xf m).A9 tys)/\
  AC E 20 [.ptr 0 0,.s .fm lems,.agg [.s .ty tys,.s .fm hyps],.i n] ⟨1,[(0,.var (dk m).cells)]⟩ (.agg (pf m).view) ⟨1,[(0,.var (dk (m+1)).cells)]⟩/\
  PC E 14 [.s .fm lems,.agg [.s .ty tys,.s .fm hyps],.agg (pf m).view] (En (xf m) (us m) (er m)):=by
 have H:∀x:{d:Dk // d.ok},∃q:Pf×{d:Dk // d.ok},Made (DI n) q.1/\AC E 20 [.ptr 0 0,.s .fm lems,.agg [.s .ty tys,.s .fm hyps],.i n] ⟨1,[(0,.var x.1.cells)]⟩ (.agg q.1.view) ⟨1,[(0,.var q.2.1.cells)]⟩:=fun x=>by
  obtain⟨p,d',hm,ok',hA⟩:=bI n hn lems tys hyps x.1 n rfl x.2 hc hs;exact⟨(p,⟨d',ok'⟩),hm,hA⟩
 have G:∀x:{d:Dk // d.ok},∃q:Fm×List Int×Int,(q.2.2=0->q.1.err=0/\q.1.A9 tys)/\PC E 14 [.s .fm lems,.agg [.s .ty tys,.s .fm hyps],.agg (Classical.choose (H x)).1.view] (En q.1 q.2.1 q.2.2):=fun x=>by
  obtain⟨x,us,e,h1,h2⟩:=Oc hc hs (iI (H x)).1 (by have:=FD hn;omega);exact⟨(x,us,e),h1,h2⟩
 obtain⟨D,D0,DS⟩:∃D:Nat->{d:Dk // d.ok},D 0=⟨d,hd⟩/\∀m,D (m+1)=(Classical.choose (H (D m))).2:=⟨fun m=>Nat.rec ⟨d,hd⟩ (fun _ x=>(Classical.choose (H x)).2) m,rfl,fun m=>rfl⟩;refine⟨fun m=>(Classical.choose (H (D m))).1,fun m=>(D m).1,fun m=>(Classical.choose (G (D m))).1,fun m=>(Classical.choose (G (D m))).2.1,fun m=>(Classical.choose (G (D m))).2.2,by simp only[D0],
  fun m=>⟨(D m).2,(iI (H (D m))).1,(iI (G (D m))).1,?_,(iI (G (D m))).2⟩⟩
 simp only[DS m];exact(iI (H (D m))).2
theorem Yfg(n:Nat)(lems:List Fm)(tys:List Ty)(hyps:List Fm)(pf:Nat->Pf)(dk:Nat->Dk)(xf:Nat->Fm)(us:Nat->List Int)(er:Nat->Int)(Mx:Nat)(hM:Mx<4)(h0:er Mx=0)(hl:∀m,m<Mx->er m≠0)
 (hA:∀m,AC E 20 [.ptr 0 0,.s .fm lems,.agg [.s .ty tys,.s .fm hyps],.i n] ⟨1,[(0,.var (dk m).cells)]⟩ (.agg (pf m).view) ⟨1,[(0,.var (dk (m+1)).cells)]⟩)
 (hI:∀m,PC E 14 [.s .fm lems,.agg [.s .ty tys,.s .fm hyps],.agg (pf m).view] (En (xf m) (us m) (er m))):
 AC E 13 [.ptr 0 0,.s .fm lems,.agg [.s .ty tys,.s .fm hyps],.i n] ⟨1,[(0,.var (dk 0).cells)]⟩ (.AP [.agg (pf Mx).view,.agg ((xf Mx).view++[.s .int (us Mx)])]) ⟨1,[(0,.var (dk (Mx+1)).cells)]⟩:=by
 refine M.F Tryz.func13 ?_;refine M.w0 ?_;refine AW.block (AW.loop (ι:={m:Nat // m<=Mx})
  (fun m=>([(0,.ptr 0 0),(1,.s .fm lems),(3,.i n),(6,.ptr 1 0),(8,.ptr 2 0),(9,.ptr 3 0),(16,.i m.1)],⟨4,[(0,.var (dk m.1).cells),(1,.var [.s .ty tys,.s .fm hyps]),
   (2,.var [.i 0,.i 0,.i 0,.slice .nil (.t .ty []),.slice .nil (.t .tm []),.slice .nil (.t .fm []),.slice .nil (.t .pf [])]),
   (3,.var [.i 0,.i 0,.slice .nil (.t .ty []),.slice .nil (.t .tm []),.slice .nil (.t .fm []),.slice .nil (.t .int [])])]⟩))
  (fun m=>Mx-m.1) ⟨0,iH _⟩ (M.W D9) fun x=> ?_)
 obtain⟨m,hm⟩:∃m,m=x.1:=⟨_,rfl⟩;have hmM:x.1<=Mx:=x.2;have hA1:=hA x.1;have hI1:=hI x.1;by_cases e:er x.1=0
 .have hx:x.1=Mx:=by
   refine Nat.le_antisymm hmM (Nat.le_of_not_lt fun hc=>hl _ hc e)
  rw[e] at hI1;rw[show pf Mx=pf x.1 by rw[hx],show xf Mx=xf x.1 by rw[hx],show us Mx=us x.1 by rw[hx],show dk (Mx+1)=dk (x.1+1) by rw[hx]];(repeat' first|refine M.w2 @hA1 @hI1 ?_|refine M.zb ?_|refine M.ks ?_ ?_<;>intro h|fail);all_goals first|exfalso;simp at h;omega|exact M.n2 AJ (h8:=oK)
 .have hx:x.1<Mx:=by
   refine Nat.lt_of_le_of_ne hmM fun hc=>e (by rw[hc];exact h0)
  (repeat' first|refine M.w2 @hA1 @hI1 ?_|refine M.zb ?_|refine M.ks ?_ ?_<;>intro h|refine M.cs ?_ ?_<;>intro h|fail);all_goals first
   |(exfalso;simp at h;omega)
   |(exfalso;simp at h;exact e h)
   |skip
  refine⟨⟨x.1+1,hx⟩,lq,?_⟩;exact(M.W D9)
end Go.Ab
