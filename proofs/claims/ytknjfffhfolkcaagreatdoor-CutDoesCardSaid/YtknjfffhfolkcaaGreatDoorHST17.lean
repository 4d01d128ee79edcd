/- A part of this seat's proofs. No conditions. -/
import Derived.Test.YtknjfffhfolkcaaGreatDoorHST16
namespace Go.Ab
open Go Go.Proofs
set_option maxRecDepth 100000
set_option maxHeartbeats 4000000
set_option linter.all false
theorem Lx{f:Fm}{g:List Ty}{k:Int}{s:Ty}(hk:k=5\/k=7)(hs:s.small)(h1:f.shape=true)(h2:f.size<=4400)(ho:f.Bg (g++[s]))(hg:g.length<=16):DU ((Br k s f).A9 0 1):=by
 have hq:=Gf.qu (g:=g) k (by omega) (wn hs) ⟨h1,h2,ho⟩;have hq2:Gf (g++[]) (Br k s f) (4400+1):=by simpa using hq
 have hl:Gf (g++[Ag]++[]) ((Br k s f).A9 0 1) (4400+1):=Gf.A9 (h:=[]) [Ag] hq2;exact DU.size hl.sh (by have:=hl.sz;omega) hl.ok (by simp;omega)
theorem Yes(n:Nat)(hn:n<=3)(H:EL n)(lems:List Fm)(tys:List Ty)(hyps:List Fm)(hc:(Ck.mk lems tys hyps).ok)(hs:Am tys)(ht:tys.length<10)(hh:hyps.length<10)(d:Dk)(hd:d.ok)(k:Int)(hk:k=(n:Int)+1):
 ∃(p:Pf) (d':Dk),Made (C8 (n+1)) p/\d'.ok/\AC E 42 [.ptr 0 0,.s .fm lems,.agg [.s .ty tys,.s .fm hyps],.i k] ⟨1,[(0,.var d.cells)]⟩ (.agg p.view) ⟨1,[(0,.var d'.cells)]⟩:=by
 have hb:=xv n;have hbs:=xj n;have hbl:=vn (show n<=4 by omega);have hl:=v8 hc;have h1:=(Ue d hd tys hyps hs hl.1).1;have mn:=un d hs;have ok1:=Dk.CG 3 d tys Ag hd;generalize Dk.tm 3 d tys Ag=T at*;obtain⟨t,d1⟩:=T;simp only at mn ok1;have ti:=C5.of mn.1.err mn.1.inf (by omega);have ft:=z6 mn.1.err;obtain⟨ee,oe⟩:=Ol mn.1.err mn.1.inf (by omega);have hsz:=((Fm.Ad _).1 ee);have fe:=ye ee;obtain⟨i,d2,ok2,hi,h2⟩:=FB d1 3 ok1 (by omega);have hnat:=vk;have hbe:=JV tys hyps [Ag] (fun f hf=>hc.hyps f hf) (by omega) (by simp) (by omega);have hc2:(Ck.mk lems (tys++[Ag]) (hyps.map fun f=>f.A9 0 [Ag].length)).ok:=hc.below (l:=[Ag]) (by simp only[XH];omega) (wo (wn zh));have hs2:Am (tys++[Ag]):=zo hs (zi zh zn);have hm1:=Made.ref ti;have f1:=hm1.full;have hhl:(hyps.map fun f=>f.A9 0 [Ag].length).length<10:=by simpa using hh
 generalize hH2:(hyps.map fun f=>f.A9 0 [Ag].length)=H2 at*;have q1:=Iz (k:=5) (.inl rfl) zh hsz.1 (by omega) oe (by omega);have q2:=Iz (k:=7) (.inr rfl) zh hsz.1 (by omega) oe (by omega);have hU1:=E1 (f:=Br 5 Ag (Bf (t.re (zx 0 1) 0) (vT 0))) (g:=tys) (Gf.qu (n:=4096) 5 (by omega) (by decide) ⟨hsz.1,hsz.2,oe⟩).ok q1.1 (by have:=(Gf.qu (g:=tys) (n:=4096) 5 (by omega) (show Ag.err=0 by decide) ⟨hsz.1,hsz.2,oe⟩).sz;omega) (by omega) 0 1 (by omega) (by omega);have hU2:=E1 (f:=Br 7 Ag (Bf (t.re (zx 0 1) 0) (vT 0))) (g:=tys) (Gf.qu (n:=4096) 7 (by omega) (by decide) ⟨hsz.1,hsz.2,oe⟩).ok q2.1 (by have:=(Gf.qu (g:=tys) (n:=4096) 7 (by omega) (show Ag.err=0 by decide) ⟨hsz.1,hsz.2,oe⟩).sz;omega) (by omega) 0 1 (by omega) (by omega);have l1:=Ix (Br 5 Ag (Bf (t.re (zx 0 1) 0) (vT 0))) 0 1;have l2:=Ix (Br 7 Ag (Bf (t.re (zx 0 1) 0) (vT 0))) 0 1;have i1:DU ((Br 5 Ag (Bf (t.re (zx 0 1) 0) (vT 0))).A9 0 1):=Lx (.inl rfl) zh hsz.1 (by omega) oe (by omega);have i2:DU ((Br 7 Ag (Bf (t.re (zx 0 1) 0) (vT 0))).A9 0 1):=Lx (.inr rfl) zh hsz.1 (by omega) oe (by omega);unfold Jd at h1;generalize t.re (zx 0 1) 0=u at*;have g1:=q1.2.2;have g2:=q2.2.2;have hw:=Q3 (tys++[Ag]) H2 (Bf u (vT 0)) (by omega);have hc3:(Ck.mk lems (tys++[Ag]) (H2++[Bf u (vT 0)])).ok:=hc2.AA (by simp only;omega) ee oe;obtain⟨p1,d3,m1,ok3,hp1⟩:=H lems (tys++[Ag]) (H2++[Bf u (vT 0)]) d2 (k-1) (by omega) ok2 hc3 hs2;have fp1:=m1.full;obtain⟨j,d4,ok4,hj,h4⟩:=FB d3 2 ok3 (by omega);have hv:=Ek 0;have hy:=Ih 0;have mh:Made 10 (va 0):=Made.hyp (by omega);have fh:=mh.full;have tv:C5 (vT 0):=GU _ (by decide) (by decide) (by decide);generalize (Br 5 Ag (Bf u (vT 0))).A9 0 1=w1 at*;generalize (Br 7 Ag (Bf u (vT 0))).A9 0 1=w2 at*;have e1:=Iy 10 w1 (vT 0) (va 0) (by omega) (by decide) (by omega);have e2:=Iy 14 w2 (vT 0) (va 0) (by omega) (by decide) (by omega);have r1:Made 1000000 (.mk 10 0 (.mk 0 []) [t] [Br 5 Ag (Bf u (vT 0))] [wm t]):=(Made.ex (k:=10) (by omega) q1 ti hm1).up (by omega);have r2:Made 1000000 (.mk 14 0 (.mk 0 []) [t] [Br 7 Ag (Bf u (vT 0))] [wm t]):=(Made.ex (k:=14) (by omega) q2 ti hm1).up (by omega);have s1:Made 700000 (.mk 10 0 (.mk 0 []) [vT 0] [w1] [va 0]):=(Made.ex (k:=10) (by omega) i1 tv mh).up (by omega);have s2:Made 700000 (.mk 14 0 (.mk 0 []) [vT 0] [w2] [va 0]):=(Made.ex (k:=14) (by omega) i2 tv mh).up (by omega);have a1:=r1.full;have a2:=r2.full;have b1:=s1.full;have b2:=s2.full;by_cases hi0:i=0
 .by_cases hj0:j=0
  .subst hi0 hj0;have hP:=w7 15 [(.mk 14 0 (.mk 0 []) [t] [Br 7 Ag (Bf u (vT 0))] [wm t]),(.mk 14 0 (.mk 0 []) [vT 0] [w2] [va 0])] (by simp) (GO (by omega) (by omega));refine⟨_,d4,(Made.two (k:=15) (by omega) r2 s2).up (by omega),ok4,?_⟩;refine M.F Tryz.func42 ?_;(repeat' first|refine M.gw ?_|refine M.cb (h1) [0] 1 ?_|refine M.cb (h2) [0] 0 ?_|fail);all_goals first
    |(exfalso;simp at h;omega)
    |skip
   refine L.Ev 0 rfl rfl rfl rfl rfl (by omega) rfl ?_;(repeat' first|refine M.gw ?_|fail);refine L.Ev 0 rfl rfl rfl rfl rfl (by omega) rfl ?_;(repeat' first|refine M.go ?_|refine M.c2 (hnat) ?_|refine M.c2 (hbe) ?_|refine M.c2 (hw) ?_|refine M.cb (hp1) [0] 0 ?_|refine M.cb (h4) [0] 0 ?_|refine M.z1 11 ?_|refine M.gk ?_|fail);all_goals first
    |(exfalso;simp at h;omega)
    |skip
   refine L.Ev 0 rfl rfl rfl rfl rfl (by omega) rfl ?_;(repeat' first|refine M.go ?_|refine M.c2 (hU2) ?_|refine M.c2 (hv) ?_|refine M.c2 (hy) ?_|refine M.c2 (e2) ?_|refine M.z1 11 ?_|refine M.gk ?_|fail);refine AW.BQ (c:= .fm) 3 1 [Br 7 Ag (Bf u (vT 0))] rfl (by simp) (by(repeat'(first|exact trivial|exact fun _=>rfl|exact fun h=>absurd rfl h|exact fun h=>absurd h (by decide)|refine And.intro ?_ ?_|intro _));done) (by(repeat'(first|exact trivial|exact fun _=>rfl|exact fun h=>absurd rfl h|exact fun h=>absurd h (by decide)|refine And.intro ?_ ?_|intro _));done) ?_;(repeat' first|refine M.gw ?_|refine M.c2 (hP) ?_|fail)
   (exact M.n2 [some 0] (h8:=(by simp[zk,V.wk,V.Ap,zc,Ty.view,Tm.view,Pf.view])))
  .subst hi0;obtain⟨pk,pi,⟨sk,sa⟩,pt,pf,pa⟩:=p1;have hP:=w7 15 [(.mk 14 0 (.mk 0 []) [t] [Br 7 Ag (Bf u (vT 0))] [wm t]),(.mk pk pi (.mk sk sa) pt pf pa)] (by simp) (GO (by omega) (by omega));refine⟨_,d4,(Made.two (k:=15) (by omega) r2 m1).up (by omega),ok4,?_⟩;refine M.F Tryz.func42 ?_;(repeat' first|refine M.gw ?_|refine M.cb (h1) [0] 1 ?_|refine M.cb (h2) [0] 0 ?_|fail);all_goals first
    |(exfalso;simp at h;omega)
    |skip
   refine L.Ev 0 rfl rfl rfl rfl rfl (by omega) rfl ?_;(repeat' first|refine M.gw ?_|fail);refine L.Ev 0 rfl rfl rfl rfl rfl (by omega) rfl ?_;(repeat' first|refine M.go ?_|refine M.c2 (hnat) ?_|refine M.c2 (hbe) ?_|refine M.c2 (hw) ?_|refine M.cb (hp1) [0] 0 ?_|refine M.cb (h4) [0] 0 ?_|refine M.z1 11 ?_|refine M.cs ?_ ?_<;>intro h|refine M.gk ?_|fail);all_goals first
    |(exfalso;simp at h;omega)
    |skip
   refine AW.BQ (c:= .fm) 3 1 [Br 7 Ag (Bf u (vT 0))] rfl (by simp) (by(repeat'(first|exact trivial|exact fun _=>rfl|exact fun h=>absurd rfl h|exact fun h=>absurd h (by decide)|refine And.intro ?_ ?_|intro _));done) (by(repeat'(first|exact trivial|exact fun _=>rfl|exact fun h=>absurd rfl h|exact fun h=>absurd h (by decide)|refine And.intro ?_ ?_|intro _));done) ?_;(repeat' first|refine M.gw ?_|refine M.c2 (hP) ?_|fail)
   (exact M.n2 [some 0] (h8:=(by simp[zk,V.wk,V.Ap,zc,Ty.view,Tm.view,Pf.view])))
 .by_cases hj0:j=0
  .subst hj0;have hP:=w7 11 [(.mk 10 0 (.mk 0 []) [t] [Br 5 Ag (Bf u (vT 0))] [wm t]),(.mk 10 0 (.mk 0 []) [vT 0] [w1] [va 0])] (by simp) (GO (by omega) (by omega));refine⟨_,d4,(Made.two (k:=11) (by omega) r1 s1).up (by omega),ok4,?_⟩;refine M.F Tryz.func42 ?_;(repeat' first|refine M.gw ?_|refine M.cb (h1) [0] 1 ?_|refine M.cb (h2) [0] 0 ?_|refine M.cs ?_ ?_<;>intro h|fail);all_goals first
    |(exfalso;simp at h;omega)
    |skip
   refine L.Ev 0 rfl rfl rfl rfl rfl (by omega) rfl ?_;(repeat' first|refine M.go ?_|refine M.c2 (hnat) ?_|refine M.c2 (hbe) ?_|refine M.c2 (hw) ?_|refine M.cb (hp1) [0] 0 ?_|refine M.cb (h4) [0] 0 ?_|refine M.z1 11 ?_|refine M.gk ?_|fail);all_goals first
    |(exfalso;simp at h;omega)
    |skip
   refine L.Ev 0 rfl rfl rfl rfl rfl (by omega) rfl ?_;(repeat' first|refine M.go ?_|refine M.c2 (hU1) ?_|refine M.c2 (hv) ?_|refine M.c2 (hy) ?_|refine M.c2 (e1) ?_|refine M.z1 11 ?_|refine M.gk ?_|fail);refine AW.BQ (c:= .fm) 3 1 [Br 5 Ag (Bf u (vT 0))] rfl (by simp) (by(repeat'(first|exact trivial|exact fun _=>rfl|exact fun h=>absurd rfl h|exact fun h=>absurd h (by decide)|refine And.intro ?_ ?_|intro _));done) (by(repeat'(first|exact trivial|exact fun _=>rfl|exact fun h=>absurd rfl h|exact fun h=>absurd h (by decide)|refine And.intro ?_ ?_|intro _));done) ?_;(repeat' first|refine M.gw ?_|refine M.c2 (hP) ?_|fail)
   (exact M.n2 [some 0] (h8:=(by simp[zk,V.wk,V.Ap,zc,Ty.view,Tm.view,Pf.view])))
  .obtain ⟨pk,pi,⟨sk,sa⟩,pt,pf,pa⟩:=p1;have hP:=w7 11 [(.mk 10 0 (.mk 0 []) [t] [Br 5 Ag (Bf u (vT 0))] [wm t]),(.mk pk pi (.mk sk sa) pt pf pa)] (by simp) (GO (by omega) (by omega));refine⟨_,d4,(Made.two (k:=11) (by omega) r1 m1).up (by omega),ok4,?_⟩;refine M.F Tryz.func42 ?_;(repeat' first|refine M.gw ?_|refine M.cb (h1) [0] 1 ?_|refine M.cb (h2) [0] 0 ?_|refine M.cs ?_ ?_<;>intro h|fail);all_goals first
    |(exfalso;simp at h;omega)
    |skip
   refine L.Ev 0 rfl rfl rfl rfl rfl (by omega) rfl ?_;(repeat' first|refine M.go ?_|refine M.c2 (hnat) ?_|refine M.c2 (hbe) ?_|refine M.c2 (hw) ?_|refine M.cb (hp1) [0] 0 ?_|refine M.cb (h4) [0] 0 ?_|refine M.z1 11 ?_|refine M.cs ?_ ?_<;>intro h|refine M.gk ?_|fail);all_goals first
    |(exfalso;simp at h;omega)
    |skip
   refine AW.BQ (c:= .fm) 3 1 [Br 5 Ag (Bf u (vT 0))] rfl (by simp) (by(repeat'(first|exact trivial|exact fun _=>rfl|exact fun h=>absurd rfl h|exact fun h=>absurd h (by decide)|refine And.intro ?_ ?_|intro _));done) (by(repeat'(first|exact trivial|exact fun _=>rfl|exact fun h=>absurd rfl h|exact fun h=>absurd h (by decide)|refine And.intro ?_ ?_|intro _));done) ?_;(repeat' first|refine M.gw ?_|refine M.c2 (hP) ?_|fail)
   (exact M.n2 [some 0] (h8:=(by simp[zk,V.wk,V.Ap,zc,Ty.view,Tm.view,Pf.view])))
theorem OD:∀n,n<=4->EL n
 |0,_=>fun lems tys hyps d k hk hd hc hs=>by
  obtain rfl:k=0:=by simpa using hk
  obtain⟨p,d',hm,ok',hA⟩:=Iu 0 lems tys hyps hc hs d hd 0;refine⟨p,d',hm,ok',?_⟩;have hn:=vk;refine M.F Tryz.func10 ?_;(repeat' first|refine M.go ?_|refine M.c2 (hn) ?_|refine M.z2 3 61 ?_|refine M.gk ?_|fail);all_goals first
   |exact AW.weak (M.W [some 0,some 1,some 2,some 3]) hA
   |(exfalso;simp at h;omega)
   |trace_state
 |n+1,h4=>fun lems tys hyps d k hk hd hc hs=>by
  have H:=OD n (by omega);have hn:=vk;by_cases hg:tys.length<10/\hyps.length<10;case neg=>
   obtain⟨p,d',hm,ok',hA⟩:=Iu (n+1) lems tys hyps hc hs d hd k;refine⟨p,d',hm,ok',?_⟩;refine M.F Tryz.func10 ?_;(repeat' first|refine M.go ?_|refine M.c2 (hn) ?_|refine M.gs ?_ ?_<;>intro h|refine M.z2 3 61 ?_|refine M.cs ?_ ?_<;>intro h|refine M.gk ?_|fail);all_goals first
    |exact AW.weak (M.W [some 0,some 1,some 2,some 3]) hA
    |(exfalso;apply hg;simp at*;omega)
    |trace_state
  obtain⟨g1,g2⟩:=hg;obtain⟨j,d1,ok1,hj,hx⟩:=FB d 17 hd (by omega);have key:∃(p:Pf) (d':Dk),Made (C8 (n+1)) p/\d'.ok/\AW E Tryz.f10.ntmps 1 (F8 [1,1] (J9 Tryz.f10)) [(0,.ptr 0 0),(1,.s .fm lems),(3,.i k),(6,.ptr 1 0),(8,.ptr 2 0),(9,.ptr 3 0)] ⟨4,[(0,.var d.cells),(1,.var [.s .ty tys,.s .fm hyps]),(2,.var [.i 0,.i 0,.i 0,.slice .nil (.t .ty []),.slice .nil (.t .tm []),.slice .nil (.t .fm []),.slice .nil (.t .pf [])]),(3,.var Ag.view)]⟩ (Fk E 1 Tryz.f10.results.toList (.agg p.view) ⟨1,[(0,.var d'.cells)]⟩):=by
   have hk':k=(n:Int)+1:=by omega
   rcases(show j=0\/j=1\/j=2\/j=3\/j=4\/j=5\/j=6\/j=7\/j=8\/j=9\/j=10\/j=11\/j=12\/j=13\/j=14\/j=15\/j=16 by omega) with rfl|rfl|rfl|rfl|rfl|rfl|rfl|rfl|rfl|rfl|rfl|rfl|rfl|rfl|rfl|rfl|rfl
   .exact Ycn n (by omega) H lems tys hyps hc hs g1 g2 d d1 ok1 k hk' hx
   .exact Ydi n (by omega) H lems tys hyps hc hs g1 g2 d d1 ok1 k hk' hx
   .exact Ycm n (by omega) H lems tys hyps hc hs g1 g2 d d1 ok1 k hk' hx
   .exact Yds n (by omega) H lems tys hyps hc hs g1 g2 d d1 ok1 k hk' hx
   .exact Yeq n (by omega) H lems tys hyps hc hs g1 g2 d d1 ok1 k hk' hx
   .exact Yc7 n (by omega) H lems tys hyps hc hs g1 g2 d d1 ok1 k hk' hx
   .exact Ydc n (by omega) H lems tys hyps hc hs g1 g2 d d1 ok1 k hk' hx
   .exact Yeg n (by omega) H lems tys hyps hc hs g1 g2 d d1 ok1 k hk' hx
   .obtain ⟨p,d',hm,ok',hA⟩:=Yes n (by omega) H lems tys hyps hc hs g1 g2 d1 ok1 k hk';refine⟨p,d',hm,ok',?_⟩;show AW _ _ _ (Code.seq _ _) _ _ _;(repeat' first|refine M.go ?_|refine M.gs ?_ ?_<;>intro h|refine M.z1 3 ?_|refine M.cs ?_ ?_<;>intro h|refine M.gk ?_|fail);all_goals first
     |(exfalso;simp at h;omega)
     |skip
    (repeat' first|refine M.gw ?_|refine M.cb (hx) [0] 0 ?_|refine M.cb (hA) [0] 0 ?_|refine M.bl ?_|fail);all_goals first|exact M.n2 [some 0] (h8:=(by simp[zk,V.wk,V.Ap,zc,Ty.view,Tm.view,Pf.view]))
   .exact Ydl n (by omega) H lems tys hyps hc hs g1 g2 d d1 ok1 k hk' hx
   .exact Yat n (by omega) H lems tys hyps hc hs g1 g2 d d1 ok1 k hk' hx
   .exact Yal n (by omega) H lems tys hyps hc hs g1 g2 d d1 ok1 k hk' hx
   .exact Yav n (by omega) H lems tys hyps hc hs g1 g2 d d1 ok1 k hk' hx
   .exact Yag n (by omega) H lems tys hyps hc hs g1 g2 d d1 ok1 k hk' hx
   .exact Ybl n (by omega) H lems tys hyps hc hs g1 g2 d d1 ok1 k hk' hx
   .exact Zyt n (by omega) H lems tys hyps hc hs g1 g2 d d1 ok1 k hk' hx
   .obtain ⟨p,d',hm,ok',hA⟩:=Iu (n+1) lems tys hyps hc hs d1 ok1 k;refine⟨p,d',hm,ok',?_⟩;show AW _ _ _ (Code.seq _ _) _ _ _;(repeat' first|refine M.go ?_|refine M.gs ?_ ?_<;>intro h|refine M.z1 3 ?_|refine M.cs ?_ ?_<;>intro h|refine M.gk ?_|fail);all_goals first
     |(exfalso;simp at h;omega)
     |skip
    (repeat' first|refine M.go ?_|refine M.cb (hx) [0] 0 ?_|refine M.z1 61 ?_|refine M.bl ?_|refine M.gk ?_|fail);all_goals first
     |exact AW.weak (M.W [some 0,some 1,some 2,some 3]) hA
     |trace_state
  obtain⟨p,d',hm,ok',hA⟩:=key;refine⟨p,d',hm,ok',?_⟩;refine M.F Tryz.func10 ?_;(repeat' first|refine M.go ?_|refine M.c2 (hn) ?_|refine M.z1 2 ?_|refine M.gk ?_|fail);exact AW.weak (M.W [some 0,some 1,some 2,some 3]) hA
theorem Ok:∀(n:Nat) (p:Pf),p.full<=n->n<1099511627776->PC E 16 [.agg p.view,.agg p.view] (.bool true):=by
 intro n;induction n with
 |zero=>intro p h;have:=p.Aa;omega
 |succ n ih=>
 intro p hsz hn;have hsz':=p.Af;have hlen:=zd Pf.full Pf.Aa p.args;have h1:=TX p.ty (by omega);have h2:=Tt p.terms (by omega);have h3:=Zos p.Ac (by omega);refine M.F Tryz.func16 ?_;(repeat' first|refine M.gw ?_|refine M.c2 (h1) ?_|refine M.c2 (h2) ?_|refine M.c2 (h3) ?_|refine M.gs ?_ ?_<;>intro h|refine M.cs ?_ ?_<;>intro h|fail);all_goals first
  |(exfalso;simp at h;done)
  |skip
 refine AW.range p.args.length (fun m=>True) (fun m=>([(2,.ptr 0 0),(3,.ptr 1 0),(52,.s .pf p.args),(53,.i p.args.length),(54,.i m)],⟨2,[(0,.var p.view),(1,.var p.view)]⟩))
  (by omega) (fun m=>rfl) (fun m=>rfl) rfl trivial (M.W [some 0,some 1]) ?_ ?_
 .intro m hm _;have hs2:=za Pf.full (Wi hm);have hc:=ih p.args[m] (by omega) (by omega);(repeat' first|refine M.gw ?_|refine M.c2 (hc) ?_|fail);exact⟨rfl,trivial,(M.W [some 0,some 1])⟩
 .intro _;(repeat' first|refine M.gw ?_|fail)
  rfl
def GM:Pf:= .mk 18 0 (.mk 0 []) [xy 0] [] []
def NO:Pf:= .mk 18 0 (.mk 0 []) [xy 1] [] []
def GR:Pf:= .mk 4 0 (.mk 0 []) [] [] [.mk 3 0 (.mk 0 []) [] [] [GM,NO]]
theorem Ybb:FJ GR=(GM,true,0):=by
 have r:xl GR=true:=by decide+kernel
 have c:zj GR=(GM,0):=by unfold zj;rw[show z7 GR=(4,3) from rfl];rfl
 have n:GR.nx=(GM,true,0):=by rw[Pf.CF,if_pos r,c]
 have a:GM.err=0:=by decide+kernel
 have d:GR.err=0:=by decide+kernel
 have w:GR.BB=true:=by decide+kernel
 have s:yn GR=(GM,true,0):=by unfold yn;rw[n,if_neg (by simp[a])]
 unfold FJ;rw[if_neg (by simp[d]),if_neg (by simp[w]),s]
 rfl
theorem Yan:PC E 4 [] (.bool true):=by
 have n0:=GS 0;have n1:=GS 1;have a0:=xt (xy 0) (by decide);have a1:=xt (xy 1) (by decide);have b1:=w7 3 [GM,NO] (by simp) (by intro x hx;simp only[WE,WS,or_false] at hx;rcases hx with rfl|rfl<;>decide);have b2:=w7 4 [.mk 3 0 (.mk 0 []) [] [] [GM,NO]] (by simp) (by intro x hx;simp only[WE,WS,or_false] at hx;subst hx;decide);have c1:=Sc GR (by decide);rw[Ybb] at c1;have s1:=Ok _ GM (Wj _) (by decide);unfold GR at c1;unfold GM NO at*;generalize xy 0=N0 at*;generalize xy 1=N1 at*;refine M.F Tryz.func4 ?_;(repeat' first|refine M.gw ?_|refine M.c2 (n0) ?_|refine M.c2 (n1) ?_|refine M.c2 (a0) ?_|refine M.c2 (a1) ?_|refine M.c2 (b1) ?_|refine M.c2 (b2) ?_|refine M.c2 (c1) ?_|refine M.c2 (s1) ?_|fail)
 rfl
theorem Yix(n:Nat)(hn:n<=4)(lems:List Fm)(tys:List Ty)(hyps:List Fm)(hc:(Ck.mk lems tys hyps).ok)(hs:Am tys)(d:Dk)(hd:d.ok):
 ∃(pf:Nat->Pf) (dk:Nat->Dk) (xf:Nat->Fm) (us:Nat->List Int) (er:Nat->Int),dk 0=d/\∀m,(dk m).ok/\Made (C8 n) (pf m)/\(er m=0->(xf m).err=0/\(xf m).Bg tys)/\
  AC E 10 [.ptr 0 0,.s .fm lems,.agg [.s .ty tys,.s .fm hyps],.i n] ⟨1,[(0,.var (dk m).cells)]⟩ (.agg (pf m).view) ⟨1,[(0,.var (dk (m+1)).cells)]⟩/\
  PC E 30 [.s .fm lems,.agg [.s .ty tys,.s .fm hyps],.agg (pf m).view] (DF (xf m) (us m) (er m)):=by
 have H:∀x:{d:Dk // d.ok},∃q:Pf×{d:Dk // d.ok},Made (C8 n) q.1/\AC E 10 [.ptr 0 0,.s .fm lems,.agg [.s .ty tys,.s .fm hyps],.i n] ⟨1,[(0,.var x.1.cells)]⟩ (.agg q.1.view) ⟨1,[(0,.var q.2.1.cells)]⟩:=fun x=>by
  obtain⟨p,d',hm,ok',hA⟩:=OD n hn lems tys hyps x.1 n rfl x.2 hc hs;exact⟨(p,⟨d',ok'⟩),hm,hA⟩
 have G:∀x:{d:Dk // d.ok},∃q:Fm×List Int×Int,(q.2.2=0->q.1.err=0/\q.1.Bg tys)/\PC E 30 [.s .fm lems,.agg [.s .ty tys,.s .fm hyps],.agg (Classical.choose (H x)).1.view] (DF q.1 q.2.1 q.2.2):=fun x=>by
  obtain⟨x,us,e,h1,h2⟩:=J6 hc hs (XW (H x)).1 (by have:=vn hn;omega);exact⟨(x,us,e),h1,h2⟩
 obtain⟨D,D0,DS⟩:∃D:Nat->{d:Dk // d.ok},D 0=⟨d,hd⟩/\∀m,D (m+1)=(Classical.choose (H (D m))).2:=⟨fun m=>Nat.rec ⟨d,hd⟩ (fun _ x=>(Classical.choose (H x)).2) m,rfl,fun m=>rfl⟩;refine⟨fun m=>(Classical.choose (H (D m))).1,fun m=>(D m).1,fun m=>(Classical.choose (G (D m))).1,fun m=>(Classical.choose (G (D m))).2.1,fun m=>(Classical.choose (G (D m))).2.2,by simp only[D0],
  fun m=>⟨(D m).2,(XW (H (D m))).1,(XW (G (D m))).1,?_,(XW (G (D m))).2⟩⟩
 simp only[DS m];exact(XW (H (D m))).2
theorem Zyr(n:Nat)(lems:List Fm)(tys:List Ty)(hyps:List Fm)(pf:Nat->Pf)(dk:Nat->Dk)(xf:Nat->Fm)(us:Nat->List Int)(er:Nat->Int)(Mx:Nat)(hM:Mx<4)(h0:er Mx=0)(hl:∀m,m<Mx->er m≠0)
 (hA:∀m,AC E 10 [.ptr 0 0,.s .fm lems,.agg [.s .ty tys,.s .fm hyps],.i n] ⟨1,[(0,.var (dk m).cells)]⟩ (.agg (pf m).view) ⟨1,[(0,.var (dk (m+1)).cells)]⟩)
 (hI:∀m,PC E 30 [.s .fm lems,.agg [.s .ty tys,.s .fm hyps],.agg (pf m).view] (DF (xf m) (us m) (er m))):
 AC E 49 [.ptr 0 0,.s .fm lems,.agg [.s .ty tys,.s .fm hyps],.i n] ⟨1,[(0,.var (dk 0).cells)]⟩ (.AD [.agg (pf Mx).view,.agg ((xf Mx).view++[.s .int (us Mx)])]) ⟨1,[(0,.var (dk (Mx+1)).cells)]⟩:=by
 refine M.F Tryz.func49 ?_;(repeat' first|refine M.gw ?_|fail);refine AW.block (AW.loop (ι:={m:Nat // m<=Mx})
  (fun m=>([(0,.ptr 0 0),(1,.s .fm lems),(3,.i n),(6,.ptr 1 0),(8,.ptr 2 0),(9,.ptr 3 0),(16,.i m.1)],⟨4,[(0,.var (dk m.1).cells),(1,.var [.s .ty tys,.s .fm hyps]),
   (2,.var [.i 0,.i 0,.i 0,.slice .nil (.t .ty []),.slice .nil (.t .tm []),.slice .nil (.t .fm []),.slice .nil (.t .pf [])]),
   (3,.var [.i 0,.i 0,.slice .nil (.t .ty []),.slice .nil (.t .tm []),.slice .nil (.t .fm []),.slice .nil (.t .int [])])]⟩))
  (fun m=>Mx-m.1) ⟨0,XE _⟩ (M.W [some 0,some 1,some 2,some 3]) fun x=> ?_)
 obtain⟨m,hm⟩:∃m,m=x.1:=⟨_,rfl⟩;have hmM:x.1<=Mx:=x.2;have hA1:=hA x.1;have hI1:=hI x.1;by_cases e:er x.1=0
 .have hx:x.1=Mx:=by
   refine Nat.le_antisymm hmM (Nat.le_of_not_lt fun hc=>hl _ hc e)
  rw[e] at hI1;rw[show pf Mx=pf x.1 by rw[hx],show xf Mx=xf x.1 by rw[hx],show us Mx=us x.1 by rw[hx],show dk (Mx+1)=dk (x.1+1) by rw[hx]];(repeat' first|refine M.gw ?_|refine M.cb (hA1) [0] 0 ?_|refine M.c2 (hI1) ?_|refine M.zb ?_|refine M.ks ?_ ?_<;>intro h|fail);all_goals first|exfalso;simp at h;omega|exact M.n2 [some 0] (h8:=(by simp[zk,V.wk,V.Ap,zc,Ty.view,Tm.view,Pf.view,Fm.view]))
 .have hx:x.1<Mx:=by
   refine Nat.lt_of_le_of_ne hmM fun hc=>e (by rw[hc];exact h0)
  (repeat' first|refine M.gw ?_|refine M.cb (hA1) [0] 0 ?_|refine M.c2 (hI1) ?_|refine M.zb ?_|refine M.ks ?_ ?_<;>intro h|refine M.cs ?_ ?_<;>intro h|fail);all_goals first
   |(exfalso;simp at h;omega)
   |(exfalso;simp at h;exact e h)
   |skip
  refine⟨⟨x.1+1,hx⟩,by simp only;omega,?_⟩;exact(M.W [some 0,some 1,some 2,some 3])
theorem Zt1(n:Nat)(lems:List Fm)(tys:List Ty)(hyps:List Fm)(pf:Nat->Pf)(dk:Nat->Dk)(xf:Nat->Fm)(us:Nat->List Int)(er:Nat->Int)(hl:∀m,m<4->er m≠0)
 (hA:∀m,AC E 10 [.ptr 0 0,.s .fm lems,.agg [.s .ty tys,.s .fm hyps],.i n] ⟨1,[(0,.var (dk m).cells)]⟩ (.agg (pf m).view) ⟨1,[(0,.var (dk (m+1)).cells)]⟩)
 (hI:∀m,PC E 30 [.s .fm lems,.agg [.s .ty tys,.s .fm hyps],.agg (pf m).view] (DF (xf m) (us m) (er m)))
 {d':Dk} {i:Int} {p:Pf} {x:Fm} {u:List Int} {e:Int} (h1:AC E 24 [.ptr 0 0,.i 4] ⟨1,[(0,.var (dk 4).cells)]⟩ (.i i) ⟨1,[(0,.var d'.cells)]⟩)
 (h2:PC E 21 [.i i] (.agg (xy i).view)) (h3:PC E 20 [.agg (xy i).view] (.agg p.view))
 (h4:PC E 30 [.s .fm lems,.agg [.s .ty tys,.s .fm hyps],.agg p.view] (DF x u e)):
 AC E 49 [.ptr 0 0,.s .fm lems,.agg [.s .ty tys,.s .fm hyps],.i n] ⟨1,[(0,.var (dk 0).cells)]⟩ (.AD [.agg p.view,.agg (x.view++[.s .int u])]) ⟨1,[(0,.var d'.cells)]⟩:=by
 generalize xy i=N at*;refine M.F Tryz.func49 ?_;(repeat' first|refine M.gw ?_|fail);refine AW.block (AW.loop (ι:={m:Nat // m<=4})
  (fun m=>([(0,.ptr 0 0),(1,.s .fm lems),(3,.i n),(6,.ptr 1 0),(8,.ptr 2 0),(9,.ptr 3 0),(16,.i m.1)],⟨4,[(0,.var (dk m.1).cells),(1,.var [.s .ty tys,.s .fm hyps]),
   (2,.var [.i 0,.i 0,.i 0,.slice .nil (.t .ty []),.slice .nil (.t .tm []),.slice .nil (.t .fm []),.slice .nil (.t .pf [])]),
   (3,.var [.i 0,.i 0,.slice .nil (.t .ty []),.slice .nil (.t .tm []),.slice .nil (.t .fm []),.slice .nil (.t .int [])])]⟩))
  (fun m=>4-m.1) ⟨0,XE _⟩ (M.W [some 0,some 1,some 2,some 3]) fun y=> ?_)
 have hmM:y.1<=4:=y.2;have hA1:=hA y.1;have hI1:=hI y.1;by_cases hy:y.1<4
 .have e:=hl _ hy;(repeat' first|refine M.gw ?_|refine M.cb (hA1) [0] 0 ?_|refine M.c2 (hI1) ?_|refine M.zb ?_|refine M.ks ?_ ?_<;>intro h|refine M.cs ?_ ?_<;>intro h|fail);all_goals first
   |(exfalso;simp at h;omega)
   |(exfalso;simp at h;exact e h)
   |skip
  refine⟨⟨y.1+1,hy⟩,by simp only;omega,?_⟩;exact(M.W [some 0,some 1,some 2,some 3])
 .rw[show dk 4=dk y.1 by rw[show y.1=4 by omega]] at h1;(repeat' first|refine M.gw ?_|refine M.cb (h1) [0] 0 ?_|refine M.c2 (h2) ?_|refine M.c2 (h3) ?_|refine M.c2 (h4) ?_|refine M.zb ?_|refine M.ks ?_ ?_<;>intro h|fail);all_goals first|exfalso;simp at h;omega|exact M.n2 [some 0] (h8:=(by simp[zk,V.wk,V.Ap,zc,Ty.view,Tm.view,Pf.view,Fm.view]))
theorem NR(g:List Ty){i:Int}(hi:0<=i/\i<4):C9 g (xy i):=by
 obtain⟨m,rfl⟩:∃m:Nat,i=m:=⟨i.toNat,by omega⟩;have h4:m=0\/m=1\/m=2\/m=3:=by omega
 refine⟨?_,?_,?_⟩
 .rcases h4 with rfl|rfl|rfl|rfl<;>decide
 .rcases h4 with rfl|rfl|rfl|rfl<;>exact MV g _
 .rcases h4 with rfl|rfl|rfl|rfl<;>decide
theorem Rh(n:Nat)(hn:n<=4)(lems:List Fm)(tys:List Ty)(hyps:List Fm)(hc:(Ck.mk lems tys hyps).ok)(hs:Am tys)(d:Dk)(hd:d.ok):
 ∃(p:Pf) (x:Fm) (u:List Int) (d':Dk),Made (C8 n) p/\x.err=0/\x.Bg tys/\d'.ok/\
  AC E 49 [.ptr 0 0,.s .fm lems,.agg [.s .ty tys,.s .fm hyps],.i n] ⟨1,[(0,.var d.cells)]⟩ (.AD [.agg p.view,.agg (x.view++[.s .int u])]) ⟨1,[(0,.var d'.cells)]⟩:=by
 obtain⟨pf,dk,xf,us,er,rfl,hT⟩:=Yix n hn lems tys hyps hc hs d hd;have hA:=fun m=>(hT m).2.2.2.1;have hI:=fun m=>(hT m).2.2.2.2;have hit:∀M,M<4->er M=0->(∀m,m<M->er m≠0)->∃(p:Pf) (x:Fm) (u:List Int) (d':Dk),Made (C8 n) p/\x.err=0/\x.Bg tys/\d'.ok/\
  AC E 49 [.ptr 0 0,.s .fm lems,.agg [.s .ty tys,.s .fm hyps],.i n] ⟨1,[(0,.var (dk 0).cells)]⟩ (.AD [.agg p.view,.agg (x.view++[.s .int u])]) ⟨1,[(0,.var d'.cells)]⟩:=fun M hM h0 hl=>
  ⟨pf M,xf M,us M,dk (M+1),(hT M).2.1,((hT M).2.2.1 h0).1,((hT M).2.2.1 h0).2,(hT (M+1)).1,Zyr n lems tys hyps pf dk xf us er M hM h0 hl hA hI⟩
 by_cases e0:er 0=0
 .exact hit 0 (by omega) e0 (fun m h=>by omega)
 by_cases e1:er 1=0
 .exact hit 1 (by omega) e1 (fun m h=>by obtain rfl:m=0:=by omega
                                         exact e0)
 by_cases e2:er 2=0
 .exact hit 2 (by omega) e2 (fun m h=>by
   rcases(show m=0\/m=1 by omega) with rfl|rfl
   .exact e0
   .exact e1)
 by_cases e3:er 3=0
 .exact hit 3 (by omega) e3 (fun m h=>by
   rcases(show m=0\/m=1\/m=2 by omega) with rfl|rfl|rfl
   .exact e0
   .exact e1
   .exact e2)
 have h1:=v6 (dk 4) 4 (hT 4).1 (by omega);have hb:=Dk.Bv (dk 4) 4 (by omega);have no:=NR tys (i:=((dk 4).next 4).1) (by omega);have ti:=C5.of no.err no.inf (by have:=hc.len;simp only at this;omega);have hm:=(Made.ref ti).up (show 300010<=C8 n by have:=xv n;omega);have fN:=z6 no.err;have h3:=xt (xy ((dk 4).next 4).1) (by omega);have h0:=hc.sum;have h4:=SA lems hyps tys (wm (xy ((dk 4).next 4).1)) (fun f hf=>by have:=ye (hc.lems f hf).1;omega) (fun f hf=>by have:=ye (hc.hyps f hf).1;omega) (by simp only at h0;omega) (by have:=hc.nl;simp only at this;omega) (by have:=hc.nh;simp only at this;omega)
  (by have:=hm.full;have:=vn hn;show(Pf.mk 18 0 (.mk 0 []) [xy ((dk 4).next 4).1] [] []).full<_;omega)
 have hr:IK lems tys hyps (wm (xy ((dk 4).next 4).1))=(Bf (xy ((dk 4).next 4).1) (xy ((dk 4).next 4).1),[],0):=by
  unfold IK;rw[if_neg (by rw[show GH lems tys hyps=0 from VN hc];simp),if_neg (by rw[Uz no.err];simp)];exact Rw (Vj hc no.err no.inf) ((RP no.shape no.shape (by have:=no.size;omega)))
 rw[hr] at h4;exact⟨_,_,_,_,hm,(RP no.shape no.shape (by have:=no.size;omega)),CI.2 ⟨no.inf,no.inf⟩,Dk.AH (hT 4).1 4,
  Zt1 n lems tys hyps pf dk xf us er (fun m hm4=>by
   rcases(show m=0\/m=1\/m=2\/m=3 by omega) with rfl|rfl|rfl|rfl
   .exact e0
   .exact e1
   .exact e2
   .exact e3) hA hI h1 (GS _) h3 h4⟩
def J1(lems:List Fm)(tys:List Ty)(hyps:List Fm)(d:Dk):Prop:=∃(p:Pf) (d':Dk),Made 400000000 p/\d'.ok/\
 AC E 11 [.ptr 0 0,.s .fm lems,.agg [.s .ty tys,.s .fm hyps]] ⟨1,[(0,.var d.cells)]⟩ (.agg p.view) ⟨1,[(0,.var d'.cells)]⟩
theorem Yjd(lems:List Fm)(tys:List Ty)(hyps:List Fm)(hc:(Ck.mk lems tys hyps).ok)(hs:Am tys)(d d1 d2:Dk)(ok2:d2.ok){p:Pf}{x:Fm}{u:List Int}(mp:Made (C8 2) p)
 (h1:AC E 49 [.ptr 0 0,.s .fm lems,.agg [.s .ty tys,.s .fm hyps],.i 2] ⟨1,[(0,.var d.cells)]⟩ (.AD [.agg p.view,.agg (x.view++[.s .int u])]) ⟨1,[(0,.var d1.cells)]⟩)
 (h2:AC E 24 [.ptr 0 0,.i 5] ⟨1,[(0,.var d1.cells)]⟩ (.i 0) ⟨1,[(0,.var d2.cells)]⟩):J1 lems tys hyps d:=by
 obtain⟨r,y,w,d3,mr,_,_,ok3,h3⟩:=Rh 2 (by omega) lems tys hyps hc hs d2 ok2;obtain⟨i,d4,ok4,hi,h4⟩:=FB d3 2 ok3 (by omega);have b2:C8 2=36000000:=by decide
 have fp:=mp.full;have fr:=mr.full;have m1:=mp.two (k:=3) (by omega) mr;have q1:=w7 3 [p,r] (by simp) (by intro x hx;simp only[WE,WS,or_false] at hx;rcases hx with rfl|rfl<;>omega);have q2:=w7 (4+i) [.mk 3 0 (.mk 0 []) [] [] [p,r]] (by simp) (by intro x hx;simp only[WE,WS,or_false] at hx;subst hx;have:=m1.full;omega);refine⟨_,d4,(m1.one (k:=4+i) (by omega)).up (by omega),ok4,?_⟩;refine M.F Tryz.func11 ?_;(repeat' first|refine M.gw ?_|refine M.cb (h1) [0] 0 ?_|refine M.cb (h2) [0] 0 ?_|refine M.cb (h3) [0] 0 ?_|refine M.cb (h4) [0] 0 ?_|refine M.c2 (q1) ?_|refine M.c2 (q2) ?_|refine M.bl ?_|fail)
 (exact M.n2 [some 0] (h8:=(by simp[zk,V.wk,V.Ap,zc,Ty.view,Tm.view,Pf.view])))
theorem Yiy(lems:List Fm)(tys:List Ty)(hyps:List Fm)(hc:(Ck.mk lems tys hyps).ok)(hs:Am tys)(d d1 d2:Dk)(ok2:d2.ok){p:Pf}{x:Fm}{u:List Int}(mp:Made (C8 2) p)
 (h1:AC E 49 [.ptr 0 0,.s .fm lems,.agg [.s .ty tys,.s .fm hyps],.i 2] ⟨1,[(0,.var d.cells)]⟩ (.AD [.agg p.view,.agg (x.view++[.s .int u])]) ⟨1,[(0,.var d1.cells)]⟩)
 (h2:AC E 24 [.ptr 0 0,.i 5] ⟨1,[(0,.var d1.cells)]⟩ (.i 3) ⟨1,[(0,.var d2.cells)]⟩)
 (mz:∀t:Tm,t.err=0->t.inf tys=(Ag,0)->Made 2000000 (Io t)):J1 lems tys hyps d:=by
 obtain⟨i,d4,ok4,hi,h4⟩:=FB d2 4 ok2 (by omega);have no:=NR tys (i:=i) (by omega);have fN:=z6 no.err;have h5:=GS i;have h6:=Ro (xy i) (by omega);refine⟨_,d4,(mz _ no.err no.inf).up (by omega),ok4,?_⟩;generalize Io (xy i)=Z at*;generalize xy i=N at*;refine M.F Tryz.func11 ?_;(repeat' first|refine M.gw ?_|refine M.cb (h1) [0] 0 ?_|refine M.cb (h2) [0] 0 ?_|refine M.cb (h4) [0] 0 ?_|refine M.c2 (h5) ?_|refine M.c2 (h6) ?_|refine M.bl ?_|fail)
 (exact M.n2 [some 0] (h8:=(by simp[zk,V.wk,V.Ap,zc,Ty.view,Tm.view,Pf.view])))
theorem Yj7(lems:List Fm)(tys:List Ty)(hyps:List Fm)(hc:(Ck.mk lems tys hyps).ok)(hh:hyps.length<=10)(hs:Am tys)(d d1 d2:Dk)(ok2:d2.ok){p:Pf}{x:Fm}{u:List Int}(mp:Made (C8 2) p)(ex:x.err=0)(ox:x.Bg tys)
 (h1:AC E 49 [.ptr 0 0,.s .fm lems,.agg [.s .ty tys,.s .fm hyps],.i 2] ⟨1,[(0,.var d.cells)]⟩ (.AD [.agg p.view,.agg (x.view++[.s .int u])]) ⟨1,[(0,.var d1.cells)]⟩)
 (h2:AC E 24 [.ptr 0 0,.i 5] ⟨1,[(0,.var d1.cells)]⟩ (.i 1) ⟨1,[(0,.var d2.cells)]⟩):J1 lems tys hyps d:=by
 have hc2:(Ck.mk lems tys (hyps++[x])).ok:=⟨hc.ctx,by simp;omega,hc.nl,fun f hf=>by
  rcases WH.1 hf with h|h
  .exact hc.hyps f h
  .simp only[WN] at h;subst h;exact⟨ex,ox⟩,hc.lems⟩
 obtain⟨r,y,w,d3,mr,_,_,ok3,h3⟩:=Rh 2 (by omega) lems tys (hyps++[x]) hc2 hs d2 ok2;have b2:C8 2=36000000:=by decide
 have fp:=mp.full;have fr:=mr.full;have fx:=ye ex;have xi:=DU.of ex ox (by have:=hc.len;simp only at this;omega);have m1:=Made.imp xi mr;have q1:=Oz x r (by omega) (by omega);have q2:=w7 7 [.mk 6 0 (.mk 0 []) [] [x] [r],p] (by simp) (by intro z hz;simp only[WE,WS,or_false] at hz;have:=m1.full;rcases hz with rfl|rfl<;>omega);refine⟨_,d3,(m1.two (k:=7) (by omega) mp).up (by omega),ok3,?_⟩;refine M.F Tryz.func11 ?_;(repeat' first|refine M.gw ?_|refine M.cb (h1) [0] 0 ?_|refine M.cb (h2) [0] 0 ?_|refine M.cb (h3) [0] 0 ?_|refine M.c2 (q1) ?_|refine M.c2 (q2) ?_|refine M.bl ?_|fail)
 (exact M.n2 [some 0] (h8:=(by simp[zk,V.wk,V.Ap,zc,Ty.view,Tm.view,Pf.view])))
theorem Yiu(lems:List Fm)(tys:List Ty)(hyps:List Fm)(hc:(Ck.mk lems tys hyps).ok)(hs:Am tys)(d d1 d2:Dk)(ok2:d2.ok){p:Pf}{x:Fm}{u:List Int}(mp:Made (C8 2) p)(ex:x.err=0)(ox:x.Bg tys)
 (h1:AC E 49 [.ptr 0 0,.s .fm lems,.agg [.s .ty tys,.s .fm hyps],.i 2] ⟨1,[(0,.var d.cells)]⟩ (.AD [.agg p.view,.agg (x.view++[.s .int u])]) ⟨1,[(0,.var d1.cells)]⟩)
 (h2:AC E 24 [.ptr 0 0,.i 5] ⟨1,[(0,.var d1.cells)]⟩ (.i 2) ⟨1,[(0,.var d2.cells)]⟩):J1 lems tys hyps d:=by
 obtain⟨i,d4,ok4,hi,h4⟩:=FB d2 4 ok2 (by omega);have hl:tys.length<=16:=by have:=hc.len;simpa using this
 have no:=NR tys (i:=i) (by omega);have ti:=C5.of no.err no.inf (by omega);have fN:=z6 no.err;have h5:=GS i;have fx:=ye ex;have hU:=E1 ox ((Fm.Ad _).1 ex).1 (by have:=((Fm.Ad _).1 ex).2;omega) (by omega) 0 1 (by omega) (by omega);have fl:=Ix x 0 1;have hf:=MO ex ox Ag (by omega);have hy:=Ih 0;have mh:Made 10 (va 0):=Made.hyp (by omega);have fh:=mh.full;have fp:=mp.full;have b2:C8 2=36000000:=by decide
 have h9:=IG 16 (x.A9 0 1) (xy i) p (va 0) (by omega) (by omega) (by omega) (by omega);have m9:=Made.ind (k:=16) (Or.inl rfl) hf ti mp mh;have m8:=m9.up (show C8 2+10+600002<=400000000 by rw[b2];decide);refine⟨_,d4,m8,ok4,?_⟩;clear m8 m9 ti no hf mh;generalize x.A9 0 1=y at*;generalize xy i=N at*;refine M.F Tryz.func11 ?_;(repeat' first|refine M.gw ?_|refine M.cb (h1) [0] 0 ?_|refine M.cb (h2) [0] 0 ?_|refine M.cb (h4) [0] 0 ?_|refine M.c2 (h5) ?_|refine M.c2 (hU) ?_|refine M.c2 (hy) ?_|refine M.c2 (h9) ?_|refine M.bl ?_|fail)
 (exact M.n2 [some 0] (h8:=(by simp[zk,V.wk,V.Ap,zc,Ty.view,Tm.view,Pf.view])))
end Go.Ab
