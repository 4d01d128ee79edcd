/- A part of the proofs of this seat. No conditions. -/
import Derived.Test.YtpnbmjgblakifaaGreatDoorST5
namespace Go.Ab
open Go Go.Proofs
set_option maxRecDepth 100000
set_option maxHeartbeats 4000000
set_option linter.all false
theorem Mg{f:Fm}{g:List Ty}{k:Int}{s:Ty}(hk:k=5\/k=7)(hs:s.small)(h1:f.shape=true)(h2:f.size<=4400)(ho:f.Bl (g++[s]))(hg:g.length<=16):DY ((Bo k s f).AV 0 1):=by
 have hq:=Gf.qu (g:=g) k (by omega) (w7 hs) ⟨h1,h2,ho⟩;have hq2:Gf (g++[]) (Bo k s f) (4400+1):=by simpa using hq
 have hl:Gf (g++[Af]++[]) ((Bo k s f).AV 0 1) (4400+1):=Gf.AV (h:=[]) [Af] hq2;exact DY.size hl.sh (by have:=hl.sz;omega) hl.ok (by simp;omega)
theorem Yfy(n:Nat)(hn:n<=3)(H:EP n)(lems:List Fm)(tys:List Ty)(hyps:List Fm)(hc:(Ck.mk lems tys hyps).ok)(hs:Al tys)(ht:tys.length<10)(hh:hyps.length<10)(d:Dk)(hd:d.ok)(k:Int)(hk:k=(n:Int)+1):
 ∃(p:Pf) (d':Dk),Made (C1 (n+1)) p/\d'.ok/\AC E 67 [.ptr 0 0,.s .fm lems,.agg [.s .ty tys,.s .fm hyps],.i k] ⟨1,[(0,.var d.cells)]⟩ (.agg p.view) ⟨1,[(0,.var d'.cells)]⟩:=by
 have hb:=wd n;have hbs:=xu n;have hbl:=uc (show n<=4 by omega);have hl:=u5 hc;have h1:=(WR d hd tys hyps hs hl.1).1;have mn:=HS d hs;have ok1:=Dk.CA 3 d tys Af hd;generalize Dk.tm 3 d tys Af=T at*;obtain⟨t,d1⟩:=T;simp only at mn ok1;have ti:=C2.of mn.1.err mn.1.inf (by omega);have ft:=z9 mn.1.err;obtain⟨ee,oe⟩:=SS mn.1.err mn.1.inf (by omega);have hsz:=((Fm.Ae _).1 ee);have fe:=yf ee;obtain⟨i,d2,ok2,hi,h2⟩:=FT d1 3 ok1 (by omega);have hnat:=v8;have hbe:=J4 tys hyps [Af] (fun f hf=>hc.hyps f hf) (by omega) (by simp) (by omega);have hc2:(Ck.mk lems (tys++[Af]) (hyps.map fun f=>f.AV 0 [Af].length)).ok:=hc.below (l:=[Af]) (by simp only[List.length_singleton];omega) (w9 (w7 zg));have hs2:Al (tys++[Af]):=zp hs (zi zg zm);have hm1:=Made.ref ti;have f1:=hm1.full;have hhl:(hyps.map fun f=>f.AV 0 [Af].length).length<10:=by simpa using hh
 generalize hH2:(hyps.map fun f=>f.AV 0 [Af].length)=H2 at*;have q1:=JS (k:=5) (.inl rfl) zg hsz.1 (by omega) oe (by omega);have q2:=JS (k:=7) (.inr rfl) zg hsz.1 (by omega) oe (by omega);have hU1:=Ff (f:=Bo 5 Af (AP (t.re (zl 0 1) 0) (vT 0))) (g:=tys) (Gf.qu (n:=4096) 5 (by omega) (by decide) ⟨hsz.1,hsz.2,oe⟩).ok q1.1 (by have:=(Gf.qu (g:=tys) (n:=4096) 5 (by omega) (show Af.err=0 by decide) ⟨hsz.1,hsz.2,oe⟩).sz;omega) (by omega) 0 1 (by omega) (by omega);have hU2:=Ff (f:=Bo 7 Af (AP (t.re (zl 0 1) 0) (vT 0))) (g:=tys) (Gf.qu (n:=4096) 7 (by omega) (by decide) ⟨hsz.1,hsz.2,oe⟩).ok q2.1 (by have:=(Gf.qu (g:=tys) (n:=4096) 7 (by omega) (show Af.err=0 by decide) ⟨hsz.1,hsz.2,oe⟩).sz;omega) (by omega) 0 1 (by omega) (by omega);have l1:=Je (Bo 5 Af (AP (t.re (zl 0 1) 0) (vT 0))) 0 1;have l2:=Je (Bo 7 Af (AP (t.re (zl 0 1) 0) (vT 0))) 0 1;have i1:DY ((Bo 5 Af (AP (t.re (zl 0 1) 0) (vT 0))).AV 0 1):=Mg (.inl rfl) zg hsz.1 (by omega) oe (by omega);have i2:DY ((Bo 7 Af (AP (t.re (zl 0 1) 0) (vT 0))).AV 0 1):=Mg (.inr rfl) zg hsz.1 (by omega) oe (by omega);unfold IX at h1;generalize t.re (zl 0 1) 0=u at*;have g1:=q1.2.2;have g2:=q2.2.2;have hw:=QN (tys++[Af]) H2 (AP u (vT 0)) (by omega);have hc3:(Ck.mk lems (tys++[Af]) (H2++[AP u (vT 0)])).ok:=hc2.AA (by simp only;omega) ee oe;obtain⟨p1,d3,m1,ok3,hp1⟩:=H lems (tys++[Af]) (H2++[AP u (vT 0)]) d2 (k-1) (by omega) ok2 hc3 hs2;have fp1:=m1.full;obtain⟨j,d4,ok4,hj,h4⟩:=FT d3 2 ok3 (by omega);have hv:=Ex 0;have hy:=Jm 0;have mh:Made 10 (xo 0):=Made.hyp (by omega);have fh:=mh.full;have tv:C2 (vT 0):=Hh _ (by decide) (by decide) (by decide);generalize (Bo 5 Af (AP u (vT 0))).AV 0 1=w1 at*;generalize (Bo 7 Af (AP u (vT 0))).AV 0 1=w2 at*;have e1:=JK 10 w1 (vT 0) (xo 0) (by omega) (by decide) (by omega);have e2:=JK 14 w2 (vT 0) (xo 0) (by omega) (by decide) (by omega);have r1:Made 1000000 (.mk 10 0 (.mk 0 []) [t] [Bo 5 Af (AP u (vT 0))] [xe t]):=(Made.ex (k:=10) (by omega) q1 ti hm1).up (by omega);have r2:Made 1000000 (.mk 14 0 (.mk 0 []) [t] [Bo 7 Af (AP u (vT 0))] [xe t]):=(Made.ex (k:=14) (by omega) q2 ti hm1).up (by omega);have s1:Made 700000 (.mk 10 0 (.mk 0 []) [vT 0] [w1] [xo 0]):=(Made.ex (k:=10) (by omega) i1 tv mh).up (by omega);have s2:Made 700000 (.mk 14 0 (.mk 0 []) [vT 0] [w2] [xo 0]):=(Made.ex (k:=14) (by omega) i2 tv mh).up (by omega);have a1:=r1.full;have a2:=r2.full;have b1:=s1.full;have b2:=s2.full;by_cases hi0:i=0
 ·by_cases hj0:j=0
  ·subst hi0 hj0;have hP:=w8 15 [(.mk 14 0 (.mk 0 []) [t] [Bo 7 Af (AP u (vT 0))] [xe t]),(.mk 14 0 (.mk 0 []) [vT 0] [w2] [xo 0])] (by simp) (Hx (by omega) (by omega));refine⟨_,d4,(Made.two (k:=15) (by omega) r2 s2).up (by omega),ok4,?_⟩;refine M.F Tryz.func67 ?_;(repeat' first|refine M.gw ?_|refine M.cb (h1) [0] 1 ?_|refine M.cb (h2) [0] 0 ?_|fail);all_goals first
    |(exfalso;simp at h;omega)
    |skip
   refine L.DB 0 rfl rfl rfl rfl rfl (by omega) rfl ?_;(repeat' first|refine M.gw ?_|fail);refine L.DB 0 rfl rfl rfl rfl rfl (by omega) rfl ?_;(repeat' first|refine M.go ?_|refine M.c2 (hnat) ?_|refine M.c2 (hbe) ?_|refine M.c2 (hw) ?_|refine M.cb (hp1) [0] 0 ?_|refine M.cb (h4) [0] 0 ?_|refine M.z1 11 ?_|refine M.gk ?_|fail);all_goals first
    |(exfalso;simp at h;omega)
    |skip
   refine L.DB 0 rfl rfl rfl rfl rfl (by omega) rfl ?_;(repeat' first|refine M.go ?_|refine M.c2 (hU2) ?_|refine M.c2 (hv) ?_|refine M.c2 (hy) ?_|refine M.c2 (e2) ?_|refine M.z1 11 ?_|refine M.gk ?_|fail);refine AW.BP (c:= .fm) 3 1 [Bo 7 Af (AP u (vT 0))] U (by simp) (by(repeat'(first|exact trivial|exact fun _=>rfl|exact fun h=>absurd U h|exact fun h=>absurd h (by decide)|refine And.intro ?_ ?_|intro _));done) (by(repeat'(first|exact trivial|exact fun _=>rfl|exact fun h=>absurd U h|exact fun h=>absurd h (by decide)|refine And.intro ?_ ?_|intro _));done) ?_;(repeat' first|refine M.gw ?_|refine M.c2 (hP) ?_|fail)
   (exact M.n2 [some 0] (h8:=(by simp[zj,V.wk,V.Ap,za,Ty.view,Tm.view,Pf.view])))
  ·subst hi0;obtain⟨pk,pi,⟨sk,sa⟩,pt,pf,pa⟩:=p1;have hP:=w8 15 [(.mk 14 0 (.mk 0 []) [t] [Bo 7 Af (AP u (vT 0))] [xe t]),(.mk pk pi (.mk sk sa) pt pf pa)] (by simp) (Hx (by omega) (by omega));refine⟨_,d4,(Made.two (k:=15) (by omega) r2 m1).up (by omega),ok4,?_⟩;refine M.F Tryz.func67 ?_;(repeat' first|refine M.gw ?_|refine M.cb (h1) [0] 1 ?_|refine M.cb (h2) [0] 0 ?_|fail);all_goals first
    |(exfalso;simp at h;omega)
    |skip
   refine L.DB 0 rfl rfl rfl rfl rfl (by omega) rfl ?_;(repeat' first|refine M.gw ?_|fail);refine L.DB 0 rfl rfl rfl rfl rfl (by omega) rfl ?_;(repeat' first|refine M.go ?_|refine M.c2 (hnat) ?_|refine M.c2 (hbe) ?_|refine M.c2 (hw) ?_|refine M.cb (hp1) [0] 0 ?_|refine M.cb (h4) [0] 0 ?_|refine M.z1 11 ?_|refine M.cs ?_ ?_<;>intro h|refine M.gk ?_|fail);all_goals first
    |(exfalso;simp at h;omega)
    |skip
   refine AW.BP (c:= .fm) 3 1 [Bo 7 Af (AP u (vT 0))] U (by simp) (by(repeat'(first|exact trivial|exact fun _=>rfl|exact fun h=>absurd U h|exact fun h=>absurd h (by decide)|refine And.intro ?_ ?_|intro _));done) (by(repeat'(first|exact trivial|exact fun _=>rfl|exact fun h=>absurd U h|exact fun h=>absurd h (by decide)|refine And.intro ?_ ?_|intro _));done) ?_;(repeat' first|refine M.gw ?_|refine M.c2 (hP) ?_|fail)
   (exact M.n2 [some 0] (h8:=(by simp[zj,V.wk,V.Ap,za,Ty.view,Tm.view,Pf.view])))
 ·by_cases hj0:j=0
  ·subst hj0;have hP:=w8 11 [(.mk 10 0 (.mk 0 []) [t] [Bo 5 Af (AP u (vT 0))] [xe t]),(.mk 10 0 (.mk 0 []) [vT 0] [w1] [xo 0])] (by simp) (Hx (by omega) (by omega));refine⟨_,d4,(Made.two (k:=11) (by omega) r1 s1).up (by omega),ok4,?_⟩;refine M.F Tryz.func67 ?_;(repeat' first|refine M.gw ?_|refine M.cb (h1) [0] 1 ?_|refine M.cb (h2) [0] 0 ?_|refine M.cs ?_ ?_<;>intro h|fail);all_goals first
    |(exfalso;simp at h;omega)
    |skip
   refine L.DB 0 rfl rfl rfl rfl rfl (by omega) rfl ?_;(repeat' first|refine M.go ?_|refine M.c2 (hnat) ?_|refine M.c2 (hbe) ?_|refine M.c2 (hw) ?_|refine M.cb (hp1) [0] 0 ?_|refine M.cb (h4) [0] 0 ?_|refine M.z1 11 ?_|refine M.gk ?_|fail);all_goals first
    |(exfalso;simp at h;omega)
    |skip
   refine L.DB 0 rfl rfl rfl rfl rfl (by omega) rfl ?_;(repeat' first|refine M.go ?_|refine M.c2 (hU1) ?_|refine M.c2 (hv) ?_|refine M.c2 (hy) ?_|refine M.c2 (e1) ?_|refine M.z1 11 ?_|refine M.gk ?_|fail);refine AW.BP (c:= .fm) 3 1 [Bo 5 Af (AP u (vT 0))] U (by simp) (by(repeat'(first|exact trivial|exact fun _=>rfl|exact fun h=>absurd U h|exact fun h=>absurd h (by decide)|refine And.intro ?_ ?_|intro _));done) (by(repeat'(first|exact trivial|exact fun _=>rfl|exact fun h=>absurd U h|exact fun h=>absurd h (by decide)|refine And.intro ?_ ?_|intro _));done) ?_;(repeat' first|refine M.gw ?_|refine M.c2 (hP) ?_|fail)
   (exact M.n2 [some 0] (h8:=(by simp[zj,V.wk,V.Ap,za,Ty.view,Tm.view,Pf.view])))
  ·obtain ⟨pk,pi,⟨sk,sa⟩,pt,pf,pa⟩:=p1;have hP:=w8 11 [(.mk 10 0 (.mk 0 []) [t] [Bo 5 Af (AP u (vT 0))] [xe t]),(.mk pk pi (.mk sk sa) pt pf pa)] (by simp) (Hx (by omega) (by omega));refine⟨_,d4,(Made.two (k:=11) (by omega) r1 m1).up (by omega),ok4,?_⟩;refine M.F Tryz.func67 ?_;(repeat' first|refine M.gw ?_|refine M.cb (h1) [0] 1 ?_|refine M.cb (h2) [0] 0 ?_|refine M.cs ?_ ?_<;>intro h|fail);all_goals first
    |(exfalso;simp at h;omega)
    |skip
   refine L.DB 0 rfl rfl rfl rfl rfl (by omega) rfl ?_;(repeat' first|refine M.go ?_|refine M.c2 (hnat) ?_|refine M.c2 (hbe) ?_|refine M.c2 (hw) ?_|refine M.cb (hp1) [0] 0 ?_|refine M.cb (h4) [0] 0 ?_|refine M.z1 11 ?_|refine M.cs ?_ ?_<;>intro h|refine M.gk ?_|fail);all_goals first
    |(exfalso;simp at h;omega)
    |skip
   refine AW.BP (c:= .fm) 3 1 [Bo 5 Af (AP u (vT 0))] U (by simp) (by(repeat'(first|exact trivial|exact fun _=>rfl|exact fun h=>absurd U h|exact fun h=>absurd h (by decide)|refine And.intro ?_ ?_|intro _));done) (by(repeat'(first|exact trivial|exact fun _=>rfl|exact fun h=>absurd U h|exact fun h=>absurd h (by decide)|refine And.intro ?_ ?_|intro _));done) ?_;(repeat' first|refine M.gw ?_|refine M.c2 (hP) ?_|fail)
   (exact M.n2 [some 0] (h8:=(by simp[zj,V.wk,V.Ap,za,Ty.view,Tm.view,Pf.view])))
theorem Ov:∀n,n<=4->EP n
 |0,_=>fun lems tys hyps d k hk hd hc hs=>by
  obtain rfl:k=0:=by simpa using hk
  obtain⟨p,d',hm,ok',hA⟩:=Jv 0 lems tys hyps hc hs d hd 0;refine⟨p,d',hm,ok',?_⟩;have hn:=v8;refine M.F Tryz.func19 ?_;(repeat' first|refine M.go ?_|refine M.c2 (hn) ?_|refine M.z2 3 61 ?_|refine M.gk ?_|fail);all_goals first
   |exact AW.weak (M.W [some 0,some 1,some 2,some 3]) hA
   |(exfalso;simp at h;omega)
   |trace_state
 |n+1,h4=>fun lems tys hyps d k hk hd hc hs=>by
  have H:=Ov n (by omega);have hn:=v8;by_cases hg:tys.length<10/\hyps.length<10;case neg=>
   obtain⟨p,d',hm,ok',hA⟩:=Jv (n+1) lems tys hyps hc hs d hd k;refine⟨p,d',hm,ok',?_⟩;refine M.F Tryz.func19 ?_;(repeat' first|refine M.go ?_|refine M.c2 (hn) ?_|refine M.gs ?_ ?_<;>intro h|refine M.z2 3 61 ?_|refine M.cs ?_ ?_<;>intro h|refine M.gk ?_|fail);all_goals first
    |exact AW.weak (M.W [some 0,some 1,some 2,some 3]) hA
    |(exfalso;apply hg;simp at*;omega)
    |trace_state
  obtain⟨g1,g2⟩:=hg;obtain⟨j,d1,ok1,hj,hx⟩:=FT d 17 hd (by omega);have key:∃(p:Pf) (d':Dk),Made (C1 (n+1)) p/\d'.ok/\AW E Tryz.f19.ntmps 1 (Gy [1,1] (Mv Tryz.f19)) [(0,.ptr 0 0),(1,.s .fm lems),(3,.i k),(6,.ptr 1 0),(8,.ptr 2 0),(9,.ptr 3 0)] ⟨4,[(0,.var d.cells),(1,.var [.s .ty tys,.s .fm hyps]),(2,.var [.i 0,.i 0,.i 0,.slice .nil (.t .ty []),.slice .nil (.t .tm []),.slice .nil (.t .fm []),.slice .nil (.t .pf [])]),(3,.var Af.view)]⟩ (Fh E 1 Tryz.f19.results.toList (.agg p.view) ⟨1,[(0,.var d'.cells)]⟩):=by
   have hk':k=(n:Int)+1:=by omega
   rcases(show j=0\/j=1\/j=2\/j=3\/j=4\/j=5\/j=6\/j=7\/j=8\/j=9\/j=10\/j=11\/j=12\/j=13\/j=14\/j=15\/j=16 by omega) with rfl|rfl|rfl|rfl|rfl|rfl|rfl|rfl|rfl|rfl|rfl|rfl|rfl|rfl|rfl|rfl|rfl
   ·exact Ye6 n (by omega) H lems tys hyps hc hs g1 g2 d d1 ok1 k hk' hx
   ·exact Yel n (by omega) H lems tys hyps hc hs g1 g2 d d1 ok1 k hk' hx
   ·exact Yff n (by omega) H lems tys hyps hc hs g1 g2 d d1 ok1 k hk' hx
   ·exact Yga n (by omega) H lems tys hyps hc hs g1 g2 d d1 ok1 k hk' hx
   ·exact Yfv n (by omega) H lems tys hyps hc hs g1 g2 d d1 ok1 k hk' hx
   ·exact Yfl n (by omega) H lems tys hyps hc hs g1 g2 d d1 ok1 k hk' hx
   ·exact Ye5 n (by omega) H lems tys hyps hc hs g1 g2 d d1 ok1 k hk' hx
   ·exact Ygj n (by omega) H lems tys hyps hc hs g1 g2 d d1 ok1 k hk' hx
   ·obtain ⟨p,d',hm,ok',hA⟩:=Yfy n (by omega) H lems tys hyps hc hs g1 g2 d1 ok1 k hk';refine⟨p,d',hm,ok',?_⟩;show AW _ _ _ (Code.seq _ _) _ _ _;(repeat' first|refine M.go ?_|refine M.gs ?_ ?_<;>intro h|refine M.z1 3 ?_|refine M.cs ?_ ?_<;>intro h|refine M.gk ?_|fail);all_goals first
     |(exfalso;simp at h;omega)
     |skip
    (repeat' first|refine M.gw ?_|refine M.cb (hx) [0] 0 ?_|refine M.cb (hA) [0] 0 ?_|refine M.bl ?_|fail);all_goals first|exact M.n2 [some 0] (h8:=(by simp[zj,V.wk,V.Ap,za,Ty.view,Tm.view,Pf.view]))
   ·exact Yem n (by omega) H lems tys hyps hc hs g1 g2 d d1 ok1 k hk' hx
   ·exact Ybk n (by omega) H lems tys hyps hc hs g1 g2 d d1 ok1 k hk' hx
   ·exact Yb2 n (by omega) H lems tys hyps hc hs g1 g2 d d1 ok1 k hk' hx
   ·exact Yag n (by omega) H lems tys hyps hc hs g1 g2 d d1 ok1 k hk' hx
   ·exact Yap n (by omega) H lems tys hyps hc hs g1 g2 d d1 ok1 k hk' hx
   ·exact Yb7 n (by omega) H lems tys hyps hc hs g1 g2 d d1 ok1 k hk' hx
   ·exact Ybd n (by omega) H lems tys hyps hc hs g1 g2 d d1 ok1 k hk' hx
   ·obtain ⟨p,d',hm,ok',hA⟩:=Jv (n+1) lems tys hyps hc hs d1 ok1 k;refine⟨p,d',hm,ok',?_⟩;show AW _ _ _ (Code.seq _ _) _ _ _;(repeat' first|refine M.go ?_|refine M.gs ?_ ?_<;>intro h|refine M.z1 3 ?_|refine M.cs ?_ ?_<;>intro h|refine M.gk ?_|fail);all_goals first
     |(exfalso;simp at h;omega)
     |skip
    (repeat' first|refine M.go ?_|refine M.cb (hx) [0] 0 ?_|refine M.z1 61 ?_|refine M.bl ?_|refine M.gk ?_|fail);all_goals first
     |exact AW.weak (M.W [some 0,some 1,some 2,some 3]) hA
     |trace_state
  obtain⟨p,d',hm,ok',hA⟩:=key;refine⟨p,d',hm,ok',?_⟩;refine M.F Tryz.func19 ?_;(repeat' first|refine M.go ?_|refine M.c2 (hn) ?_|refine M.z1 2 ?_|refine M.gk ?_|fail);exact AW.weak (M.W [some 0,some 1,some 2,some 3]) hA
theorem K2:∀(n:Nat) (p:Pf),p.full<=n->n<1099511627776->PC E 15 [.agg p.view,.agg p.view] (.bool true):=by
 intro n;induction n with
 |zero=>intro p h;have:=p.Aa;omega
 |succ n ih=>
 intro p hsz hn;have hsz':=p.Ag;have hlen:=zd Pf.full Pf.Aa p.args;have h1:=VQ p.ty (by omega);have h2:=Wb p.terms (by omega);have h3:=Zp1 p.Ac (by omega);refine M.F Tryz.func15 ?_;(repeat' first|refine M.gw ?_|refine M.c2 (h1) ?_|refine M.c2 (h2) ?_|refine M.c2 (h3) ?_|refine M.gs ?_ ?_<;>intro h|refine M.cs ?_ ?_<;>intro h|fail);all_goals first
  |(exfalso;simp at h;done)
  |skip
 refine AW.range p.args.length (fun m=>True) (fun m=>([(2,.ptr 0 0),(3,.ptr 1 0),(52,.s .pf p.args),(53,.i p.args.length),(54,.i m)],⟨2,[(0,.var p.view),(1,.var p.view)]⟩))
  (by omega) (fun m=>rfl) (fun m=>rfl) rfl trivial (M.W [some 0,some 1]) ?_ ?_
 ·intro m hm _;have hs2:=zc Pf.full (List.getElem_mem hm);have hc:=ih p.args[m] (by omega) (by omega);(repeat' first|refine M.gw ?_|refine M.c2 (hc) ?_|fail);exact⟨rfl,trivial,(M.W [some 0,some 1])⟩
 ·intro _;(repeat' first|refine M.gw ?_|fail)
  rfl
def Hg(i:Int):Pf:= .mk 6 0 (.mk 0 []) [] [CG] [xo i]
theorem Sn(d:Dk):(Ck.mk d.lm.1 d.lm.2.ctx.1 d.lm.2.FO).ok:=by
 have h:=d.lm.2.JP;exact⟨h.ctx,h.nh,by have:=d.JH;simp only;omega,h.hyps,fun f hf=>Dk.DV _ _ _ zm f hf⟩
end Go.Ab
