/- A part of this seat's proofs. No conditions. -/
import Derived.Test.YtgjekifepogehaaGreatDoorPA3
import Derived.Test.YtgjekifepogehaaGreatDoorPST11
import Derived.Test.YtgjekifepogehaaGreatDoorPST12
import Derived.Test.YtgjekifepogehaaGreatDoorPST5
namespace Go.Ab
open Go Go.Proofs
set_option maxRecDepth 100000
set_option maxHeartbeats 4000000
set_option linter.all false
theorem Oq{f:Fm}{g:List Ty}{k:Int}{s:Ty}(hk:k=5\/k=7)(hs:s.small)(h1:f.shape=true)(h2:f.size<=4400)(ho:f.BF (g++[s]))(hg:g.length<=16):ES ((BK k s f).Bi 0 1):=by
 have hq:=Gf.qu (g:=g) k dY (vb hs) ⟨h1,h2,ho⟩;have hq2:Gf (g++[]) (BK k s f) (4400+1):=by simpa using hq
 have hl:Gf (g++[Ae]++[]) ((BK k s f).Bi 0 1) (4400+1):=Gf.Bi (h:=[]) [Ae] hq2;exact ES.size hl.sh (by have:=hl.sz;omega) hl.ok eB
theorem Ygi(n:Nat)(hn:n<=3)(H:FM n)(lems:List Fm)(tys:List Ty)(hyps:List Fm)(hc:(Ck.mk lems tys hyps).ok)(hs:Am tys)(ht:tys.length<10)(hh:hyps.length<10)(d:Dk)(hd:d.ok)(k:Int)(hk:k=(n:Int)+1):
 ∃(p:Pf) (d':Dk),Made (GI (n+1)) p/\d'.ok/\AC E 59 [.ptr 0 0,.s .fm lems,.agg [.s .ty tys,.s .fm hyps],.i k] ⟨1,[(0,.var d.cells)]⟩ (.agg p.view) ⟨1,[(0,.var d'.cells)]⟩:=by
 have hb:=wr n;have hbs:=x6 n;have hbl:=F7 (show n<=4 by omega);have hl:=FX hc;have h1:=(Wa d hd tys hyps hs hl.1).1;have mn:=JR d hs;have ok1:=Dk.C5 3 d tys Ae hd;generalize Dk.tm 3 d tys Ae=T at*;obtain⟨t,d1⟩:=T;simp only at mn ok1;have ti:=Ec.of mn.1.err mn.1.inf dY;have ft:=yd mn.1.err;obtain⟨ee,oe⟩:=Ui mn.1.err mn.1.inf dY;have hsz:=((Fm.Ad _).1 ee);have fe:=yw ee;obtain⟨i,d2,ok2,hi,h2⟩:=JA d1 3 ok1 dY;have hnat:=uq;have hbe:=Mm tys hyps [Ae] (fun f hf=>hc.hyps f hf) dY dZ dY;have hc2:(Ck.mk lems (tys++[Ae]) (hyps.map fun f=>f.Bi 0 [Ae].length)).ok:=hc.below (l:=[Ae]) gp (ve (vb zi));have hs2:Am (tys++[Ae]):=zo hs (zj zi zn);have hm1:=Made.ref ti;have f1:=hm1.full;have hhl:(hyps.map fun f=>f.Bi 0 [Ae].length).length<10:=by simpa using hh
 generalize hH2:(hyps.map fun f=>f.Bi 0 [Ae].length)=H2 at*;have q1:=KI (k:=5) (.inl rfl) zi hsz.1 dY oe dY;have q2:=KI (k:=7) (.inr rfl) zi hsz.1 dY oe dY;have hU1:=GZ (f:=BK 5 Ae (Bv (t.re (z8 0 1) 0) (vT 0))) (g:=tys) (Gf.qu (n:=4096) 5 dY ej ⟨hsz.1,hsz.2,oe⟩).ok q1.1 (by have:=(Gf.qu (g:=tys) (n:=4096) 5 dY (show Ae.err=0 by decide) ⟨hsz.1,hsz.2,oe⟩).sz;omega) dY 0 1 dY dY;have hU2:=GZ (f:=BK 7 Ae (Bv (t.re (z8 0 1) 0) (vT 0))) (g:=tys) (Gf.qu (n:=4096) 7 dY ej ⟨hsz.1,hsz.2,oe⟩).ok q2.1 (by have:=(Gf.qu (g:=tys) (n:=4096) 7 dY (show Ae.err=0 by decide) ⟨hsz.1,hsz.2,oe⟩).sz;omega) dY 0 1 dY dY;have l1:=Ob (BK 5 Ae (Bv (t.re (z8 0 1) 0) (vT 0))) 0 1;have l2:=Ob (BK 7 Ae (Bv (t.re (z8 0 1) 0) (vT 0))) 0 1;have i1:ES ((BK 5 Ae (Bv (t.re (z8 0 1) 0) (vT 0))).Bi 0 1):=Oq (.inl rfl) zi hsz.1 dY oe dY;have i2:ES ((BK 7 Ae (Bv (t.re (z8 0 1) 0) (vT 0))).Bi 0 1):=Oq (.inr rfl) zi hsz.1 dY oe dY;unfold KM at h1;generalize t.re (z8 0 1) 0=u at*;have g1:=q1.2.2;have g2:=q2.2.2;have hw:=Sn (tys++[Ae]) H2 (Bv u (vT 0)) dY;have hc3:(Ck.mk lems (tys++[Ae]) (H2++[Bv u (vT 0)])).ok:=hc2.AH fT ee oe;obtain⟨p1,d3,m1,ok3,hp1⟩:=H lems (tys++[Ae]) (H2++[Bv u (vT 0)]) d2 (k-1) dY ok2 hc3 hs2;have fp1:=m1.full;obtain⟨j,d4,ok4,hj,h4⟩:=JA d3 2 ok3 dY;have hv:=E7 0;have hy:=Ow 0;have mh:Made 10 (x8 0):=Made.hyp dY;have fh:=mh.full;have tv:Ec (vT 0):=MY _ ej ej ej;generalize (BK 5 Ae (Bv u (vT 0))).Bi 0 1=w1 at*;generalize (BK 7 Ae (Bv u (vT 0))).Bi 0 1=w2 at*;have e1:=Ln 10 w1 (vT 0) (x8 0) dY ej dY;have e2:=Ln 14 w2 (vT 0) (x8 0) dY ej dY;have r1:Made 1000000 (.mk 10 0 (.mk 0 []) [t] [BK 5 Ae (Bv u (vT 0))] [ub t]):=(Made.ex (k:=10) dY q1 ti hm1).up dY;have r2:Made 1000000 (.mk 14 0 (.mk 0 []) [t] [BK 7 Ae (Bv u (vT 0))] [ub t]):=(Made.ex (k:=14) dY q2 ti hm1).up dY;have s1:Made 700000 (.mk 10 0 (.mk 0 []) [vT 0] [w1] [x8 0]):=(Made.ex (k:=10) dY i1 tv mh).up dY;have s2:Made 700000 (.mk 14 0 (.mk 0 []) [vT 0] [w2] [x8 0]):=(Made.ex (k:=14) dY i2 tv mh).up dY;have a1:=r1.full;have a2:=r2.full;have b1:=s1.full;have b2:=s2.full;by_cases hi0:i=0
 .by_cases hj0:j=0
  .subst hi0 hj0;have hP:=G3 15 [(.mk 14 0 (.mk 0 []) [t] [BK 7 Ae (Bv u (vT 0))] [ub t]),(.mk 14 0 (.mk 0 []) [vT 0] [w2] [x8 0])] dZ (I3 dY dY);refine⟨_,d4,(Made.two (k:=15) dY r2 s2).up dY,ok4,?_⟩;refine M.F Tryz.func59 ?_;(repeat' first|refine M.w0 ?_|refine M.cb (h1) [0] 1 ?_|refine M.cb (h2) [0] 0 ?_|fail);all_goals first
    |(exfalso;simp at h;omega)
    |skip
   refine L.B7 0 rfl rfl rfl rfl rfl dY rfl ?_;refine M.w0 ?_;refine L.B7 0 rfl rfl rfl rfl rfl dY rfl ?_;(repeat' first|refine M.o5 @hnat @hbe @hw @hp1 @h4 ?_|refine M.z1 11 ?_|refine M.gk ?_|fail);all_goals first
    |(exfalso;simp at h;omega)
    |skip
   refine L.B7 0 rfl rfl rfl rfl rfl dY rfl ?_;(repeat' first|refine M.o4 @hU2 @hv @hy @e2 ?_|refine M.z1 11 ?_|refine M.gk ?_|fail);refine AW.B1 (c:= .fm) 3 1 [BK 7 Ae (Bv u (vT 0))] rfl dZ (by(repeat'(first|exact trivial|exact fun _=>rfl|exact fun h=>absurd rfl h|exact fun h=>absurd h ej|refine And.intro ?_ ?_|intro _));done) (by(repeat'(first|exact trivial|exact fun _=>rfl|exact fun h=>absurd rfl h|exact fun h=>absurd h ej|refine And.intro ?_ ?_|intro _));done) ?_;refine M.w1 @hP ?_
   (exact M.n2 Ay (h8:=eG))
  .subst hi0;obtain⟨pk,pi,⟨sk,sa⟩,pt,pf,pa⟩:=p1;have hP:=G3 15 [(.mk 14 0 (.mk 0 []) [t] [BK 7 Ae (Bv u (vT 0))] [ub t]),(.mk pk pi (.mk sk sa) pt pf pa)] dZ (I3 dY dY);refine⟨_,d4,(Made.two (k:=15) dY r2 m1).up dY,ok4,?_⟩;refine M.F Tryz.func59 ?_;(repeat' first|refine M.w0 ?_|refine M.cb (h1) [0] 1 ?_|refine M.cb (h2) [0] 0 ?_|fail);all_goals first
    |(exfalso;simp at h;omega)
    |skip
   refine L.B7 0 rfl rfl rfl rfl rfl dY rfl ?_;refine M.w0 ?_;refine L.B7 0 rfl rfl rfl rfl rfl dY rfl ?_;(repeat' first|refine M.o5 @hnat @hbe @hw @hp1 @h4 ?_|refine M.z1 11 ?_|refine M.cs ?_ ?_<;>intro h|refine M.gk ?_|fail);all_goals first
    |(exfalso;simp at h;omega)
    |skip
   refine AW.B1 (c:= .fm) 3 1 [BK 7 Ae (Bv u (vT 0))] rfl dZ (by(repeat'(first|exact trivial|exact fun _=>rfl|exact fun h=>absurd rfl h|exact fun h=>absurd h ej|refine And.intro ?_ ?_|intro _));done) (by(repeat'(first|exact trivial|exact fun _=>rfl|exact fun h=>absurd rfl h|exact fun h=>absurd h ej|refine And.intro ?_ ?_|intro _));done) ?_;refine M.w1 @hP ?_
   (exact M.n2 Ay (h8:=eG))
 .by_cases hj0:j=0
  .subst hj0;have hP:=G3 11 [(.mk 10 0 (.mk 0 []) [t] [BK 5 Ae (Bv u (vT 0))] [ub t]),(.mk 10 0 (.mk 0 []) [vT 0] [w1] [x8 0])] dZ (I3 dY dY);refine⟨_,d4,(Made.two (k:=11) dY r1 s1).up dY,ok4,?_⟩;refine M.F Tryz.func59 ?_;(repeat' first|refine M.w0 ?_|refine M.cb (h1) [0] 1 ?_|refine M.cb (h2) [0] 0 ?_|refine M.cs ?_ ?_<;>intro h|fail);all_goals first
    |(exfalso;simp at h;omega)
    |skip
   refine L.B7 0 rfl rfl rfl rfl rfl dY rfl ?_;(repeat' first|refine M.o5 @hnat @hbe @hw @hp1 @h4 ?_|refine M.z1 11 ?_|refine M.gk ?_|fail);all_goals first
    |(exfalso;simp at h;omega)
    |skip
   refine L.B7 0 rfl rfl rfl rfl rfl dY rfl ?_;(repeat' first|refine M.o4 @hU1 @hv @hy @e1 ?_|refine M.z1 11 ?_|refine M.gk ?_|fail);refine AW.B1 (c:= .fm) 3 1 [BK 5 Ae (Bv u (vT 0))] rfl dZ (by(repeat'(first|exact trivial|exact fun _=>rfl|exact fun h=>absurd rfl h|exact fun h=>absurd h ej|refine And.intro ?_ ?_|intro _));done) (by(repeat'(first|exact trivial|exact fun _=>rfl|exact fun h=>absurd rfl h|exact fun h=>absurd h ej|refine And.intro ?_ ?_|intro _));done) ?_;refine M.w1 @hP ?_
   (exact M.n2 Ay (h8:=eG))
  .obtain ⟨pk,pi,⟨sk,sa⟩,pt,pf,pa⟩:=p1;have hP:=G3 11 [(.mk 10 0 (.mk 0 []) [t] [BK 5 Ae (Bv u (vT 0))] [ub t]),(.mk pk pi (.mk sk sa) pt pf pa)] dZ (I3 dY dY);refine⟨_,d4,(Made.two (k:=11) dY r1 m1).up dY,ok4,?_⟩;refine M.F Tryz.func59 ?_;(repeat' first|refine M.w0 ?_|refine M.cb (h1) [0] 1 ?_|refine M.cb (h2) [0] 0 ?_|refine M.cs ?_ ?_<;>intro h|fail);all_goals first
    |(exfalso;simp at h;omega)
    |skip
   refine L.B7 0 rfl rfl rfl rfl rfl dY rfl ?_;(repeat' first|refine M.o5 @hnat @hbe @hw @hp1 @h4 ?_|refine M.z1 11 ?_|refine M.cs ?_ ?_<;>intro h|refine M.gk ?_|fail);all_goals first
    |(exfalso;simp at h;omega)
    |skip
   refine AW.B1 (c:= .fm) 3 1 [BK 5 Ae (Bv u (vT 0))] rfl dZ (by(repeat'(first|exact trivial|exact fun _=>rfl|exact fun h=>absurd rfl h|exact fun h=>absurd h ej|refine And.intro ?_ ?_|intro _));done) (by(repeat'(first|exact trivial|exact fun _=>rfl|exact fun h=>absurd rfl h|exact fun h=>absurd h ej|refine And.intro ?_ ?_|intro _));done) ?_;refine M.w1 @hP ?_
   (exact M.n2 Ay (h8:=eG))
theorem Tj:∀n,n<=4->FM n
 |0,_=>fun lems tys hyps d k hk hd hc hs=>by
  obtain rfl:k=0:=by simpa using hk
  obtain⟨p,d',hm,ok',hA⟩:=Ku 0 lems tys hyps hc hs d hd 0;refine⟨p,d',hm,ok',?_⟩;have hn:=uq;refine M.F Tryz.func11 ?_;(repeat' first|refine M.o1 @hn ?_|refine M.z2 3 61 ?_|refine M.gk ?_|fail);all_goals first
   |exact AW.weak (M.W EV) hA
   |(exfalso;simp at h;omega)
   |trace_state
 |n+1,h4=>fun lems tys hyps d k hk hd hc hs=>by
  have H:=Tj n dY;have hn:=uq;by_cases hg:tys.length<10/\hyps.length<10;case neg=>
   obtain⟨p,d',hm,ok',hA⟩:=Ku (n+1) lems tys hyps hc hs d hd k;refine⟨p,d',hm,ok',?_⟩;refine M.F Tryz.func11 ?_;(repeat' first|refine M.o1 @hn ?_|refine M.gs ?_ ?_<;>intro h|refine M.z2 3 61 ?_|refine M.cs ?_ ?_<;>intro h|refine M.gk ?_|fail);all_goals first
    |exact AW.weak (M.W EV) hA
    |(exfalso;apply hg;simp at*;omega)
    |trace_state
  obtain⟨g1,g2⟩:=hg;obtain⟨j,d1,ok1,hj,hx⟩:=JA d 17 hd dY;have key:∃(p:Pf) (d':Dk),Made (GI (n+1)) p/\d'.ok/\AW E Tryz.f11.ntmps 1 (HE [1,1] (Of Tryz.f11)) [(0,.ptr 0 0),(1,.s .fm lems),(3,.i k),(6,.ptr 1 0),(8,.ptr 2 0),(9,.ptr 3 0)] ⟨4,[(0,.var d.cells),(1,.var [.s .ty tys,.s .fm hyps]),(2,.var [.i 0,.i 0,.i 0,.slice .nil (.t .ty []),.slice .nil (.t .tm []),.slice .nil (.t .fm []),.slice .nil (.t .pf [])]),(3,.var Ae.view)]⟩ (FV E 1 Tryz.f11.results.toList (.agg p.view) ⟨1,[(0,.var d'.cells)]⟩):=by
   have hk':k=(n:Int)+1:=dY
   rcases(show j=0\/j=1\/j=2\/j=3\/j=4\/j=5\/j=6\/j=7\/j=8\/j=9\/j=10\/j=11\/j=12\/j=13\/j=14\/j=15\/j=16 by omega) with rfl|rfl|rfl|rfl|rfl|rfl|rfl|rfl|rfl|rfl|rfl|rfl|rfl|rfl|rfl|rfl|rfl
   .exact Yfu n dY H lems tys hyps hc hs g1 g2 d d1 ok1 k hk' hx
   .exact Yfa n dY H lems tys hyps hc hs g1 g2 d d1 ok1 k hk' hx
   .exact Yeg n dY H lems tys hyps hc hs g1 g2 d d1 ok1 k hk' hx
   .exact Yga n dY H lems tys hyps hc hs g1 g2 d d1 ok1 k hk' hx
   .exact Yg2 n dY H lems tys hyps hc hs g1 g2 d d1 ok1 k hk' hx
   .exact Ygv n dY H lems tys hyps hc hs g1 g2 d d1 ok1 k hk' hx
   .exact Yg6 n dY H lems tys hyps hc hs g1 g2 d d1 ok1 k hk' hx
   .exact Yen n dY H lems tys hyps hc hs g1 g2 d d1 ok1 k hk' hx
   .obtain ⟨p,d',hm,ok',hA⟩:=Ygi n dY H lems tys hyps hc hs g1 g2 d1 ok1 k hk';refine⟨p,d',hm,ok',?_⟩;show AW _ _ _ (Code.seq _ _) _ _ _;(repeat' first|refine M.o0 ?_|refine M.gs ?_ ?_<;>intro h|refine M.z1 3 ?_|refine M.cs ?_ ?_<;>intro h|refine M.gk ?_|fail);all_goals first
     |(exfalso;simp at h;omega)
     |skip
    refine M.v2 @hx @hA ?_;all_goals first|exact M.n2 Ay (h8:=eG)
   .exact Yfr n dY H lems tys hyps hc hs g1 g2 d d1 ok1 k hk' hx
   .exact Zzp n dY H lems tys hyps hc hs g1 g2 d d1 ok1 k hk' hx
   .exact Ybg n dY H lems tys hyps hc hs g1 g2 d d1 ok1 k hk' hx
   .exact Ybk n dY H lems tys hyps hc hs g1 g2 d d1 ok1 k hk' hx
   .exact Yb3 n dY H lems tys hyps hc hs g1 g2 d d1 ok1 k hk' hx
   .exact Ycs n dY H lems tys hyps hc hs g1 g2 d d1 ok1 k hk' hx
   .exact Ycj n dY H lems tys hyps hc hs g1 g2 d d1 ok1 k hk' hx
   .obtain ⟨p,d',hm,ok',hA⟩:=Ku (n+1) lems tys hyps hc hs d1 ok1 k;refine⟨p,d',hm,ok',?_⟩;show AW _ _ _ (Code.seq _ _) _ _ _;(repeat' first|refine M.o0 ?_|refine M.gs ?_ ?_<;>intro h|refine M.z1 3 ?_|refine M.cs ?_ ?_<;>intro h|refine M.gk ?_|fail);all_goals first
     |(exfalso;simp at h;omega)
     |skip
    (repeat' first|refine M.o1 @hx ?_|refine M.z1 61 ?_|refine M.bl ?_|refine M.gk ?_|fail);all_goals first
     |exact AW.weak (M.W EV) hA
     |trace_state
  obtain⟨p,d',hm,ok',hA⟩:=key;refine⟨p,d',hm,ok',?_⟩;refine M.F Tryz.func11 ?_;(repeat' first|refine M.o1 @hn ?_|refine M.z1 2 ?_|refine M.gk ?_|fail);exact AW.weak (M.W EV) hA
theorem O2:∀(n:Nat) (p:Pf),p.full<=n->n<1099511627776->PC E 27 [.agg p.view,.agg p.view] (.bool true):=by
 intro n;induction n with
 |zero=>intro p h;have:=p.Ac;omega
 |succ n ih=>
 intro p hsz hn;have hsz':=p.Af;have hlen:=zd Pf.full Pf.Ac p.args;have h1:=XV p.ty dY;have h2:=VY p.terms dY;have h3:=Zow p.Aa dY;refine M.F Tryz.func27 ?_;(repeat' first|refine M.w3 @h1 @h2 @h3 ?_|refine M.gs ?_ ?_<;>intro h|refine M.cs ?_ ?_<;>intro h|fail);all_goals first
  |(exfalso;simp at h;done)
  |skip
 refine M.rt p.args.length (fun m=>([(2,.ptr 0 0),(3,.ptr 1 0),(52,.s .pf p.args),(53,.i p.args.length),(54,.i m)],⟨2,[(0,.var p.view),(1,.var p.view)]⟩))
  (M.W AQ) ?_ ?_
 .intro m hm _;have hs2:=zc Pf.full (ZA hm);have hc:=ih p.args[m] dY dY;refine M.w1 @hc ?_;exact⟨rfl,trivial,(M.W AQ)⟩
 .exact kR
theorem Yp(p:Pf):PC E 6 [.agg p.view] (.i (p.cn 20000)):=by
 have h:=Yfy _ p 20000 (ZB _) dY;refine M.F Tryz.func6 ?_;refine M.w1 @h ?_
 rfl
def Jd(i:Int):Pf:= .mk 6 0 (.mk 0 []) [] [A3] [x8 i]
theorem Vj(i:Int)(h:0<=i/\i<9223372036854775808):(Jd i).hx 9223372036854775808:=(Pf.Br _ _).2 ⟨fun h=>absurd h (show ¬(6:Int)=1 by decide),fun _ x hx=>by
 obtain rfl:x=x8 i:=ah.1 hx;exact Yid h⟩
theorem Ybu:PC E 4 [] (.bool true):=by
 have h0:=R4 0;have h3:=R4 3;have i0:=Qb A3 (x8 0) ej ej;have i3:=Qb A3 (x8 3) ej ej;have p0:=S7 (Jd 0) ej (fun _=>Vj _ dY);have p3:=S7 (Jd 3) ej (fun _=>Vj _ dY);rw[show(if(Jd 0).err=0 then G8 (Jd 0) else [])=[] by decide+kernel,show(Jd 0).err=0 by decide+kernel] at p0;rw[show(if(Jd 3).err=0 then G8 (Jd 3) else [])=[2] by decide+kernel,show(Jd 3).err=0 by decide+kernel] at p3;unfold Jd at p0 p3;refine M.F Tryz.func4 ?_;(repeat' first|refine M.w6 @Zf @h0 @h3 @i0 @i3 @p0 ?_|refine M.c2 (p3) ?_|fail)
 rfl
theorem Q9(n:Nat)(hn:n<=5)(hn1:2<=n)(k:Int)(hk:k+2=n)(d:Dk)(g:List Ty)(s:Ty)(hd:d.ok)(hg:Am g)(hs:s.small)(hl:g.length<=16):∃(t:Tm) (d':Dk),d'.ok/\t.err=0/\t.near=true/\t.inf g=(s,0)/\
 AC E 12 [.ptr 0 0,.s .ty g,.agg s.view,.i k] ⟨1,[(0,.var d.cells)]⟩ (.agg t.view) ⟨1,[(0,.var d'.cells)]⟩:=by
 have hm:=Dk.De n d g s hg hs dY dY;exact⟨_,_,Dk.C5 n d g s hd,hm.err hg hs dY,hm.near hg hs hn dY,hm.inf hg hs,JV n dY d g s k dY hd hg hs dY dY dY⟩
theorem Yk5(d:Dk):(Ck.mk d.lm.1 d.lm.2.ctx.1 d.lm.2.JZ).ok:=by
 have h:=d.lm.2.KU;exact⟨h.ctx,h.nh,by have:=d.KB;simp only;omega,h.hyps,fun f hf=>Dk.Et _ _ _ zn f hf⟩
theorem Yi8(p:Pf)(a:Int)(t:Tm)(hp:p.full<=400000000)(ht:t.full<274877906944):PC E 33 [.agg p.view,.i a,.agg t.view] (.AM [.agg (Gb p a t).view,.i (Eb p a t)]):=Yiq p a t dY ht
theorem SI(l:List Int)(hl:l.length<1099511627776):PC E 25 [.s .int l,.s .int l] (.bool true):=by
 refine M.F Tryz.func25 ?_;(repeat' first|refine M.w0 ?_|refine M.cs ?_ ?_<;>intro h|fail);all_goals first
  |(exfalso;simp at h;done)
  |skip
 refine M.rt l.length (fun m=>([(0,.s .int l),(1,.s .int l),(11,.s .int l),(12,.i l.length),(13,.i m)],⟨0,[]⟩))
  (M.W []) ?_ ?_
 .intro m hm _;(repeat' first|refine M.w0 ?_|refine M.cs ?_ ?_<;>intro h|fail)
  .exfalso;simp at h
  .exact ⟨rfl,trivial,(M.W [])⟩
 .exact kR
theorem VF(t:Tm):t.wf->∀b,∀p∈t.vars b,p.1<9223372036854775808:=by
 induction t using Tm.ind with
 |h t ih=>
  intro hw b p hp;obtain⟨h1,h2⟩:=(Tm.DF t).1 hw;rw[Tm.AU,ZU] at hp;rcases hp with hp|hp
  .split at hp
   .simp only[ah] at hp;subst hp;simp only;omega
   .cases hp
  .obtain ⟨x,hx,hq⟩:=ZZ.1 hp;exact ih x hx (h2 x hx) _ p hq
theorem Ygm(f:Fm):f.wf->∀b,∀p∈f.AZ b,p.1.wf:=by
 induction f using Fm.ind with
 |h f ih=>
  intro h b p hp;rw[f.AY b] at hp;obtain⟨k,ty,ts,zs⟩:=f;obtain⟨h1,h2⟩:(∀t∈ts,t.wf)/\Fm.FA zs:=h;rw[Fm.Cx] at h2;rcases ZU.1 hp with hp|hp
  .obtain ⟨t,ht,rfl⟩:=ZQ.1 hp;exact h1 t ht
  .obtain ⟨a,ha,hp⟩:=ZZ.1 hp;exact ih a ha (h2 a ha) _ p hp
theorem Zx9(t:Tm):PC E 7 [.agg t.view] (.i (t.cn 20000)):=by
 have h1:=Q6 _ t 20000 (ZB _) dY;refine M.F Tryz.func7 ?_;refine M.w1 @h1 ?_
 rfl
theorem Zz5(d:Dk)(hd:d.ok)(t:Pf)(ht:t.full<=200000000)(hx:t.gx):(EJ d t).1.full<=200001000/\(EJ d t).1.gx/\(EJ d t).2.ok:=by
 have hs:=El.GN t.full t.full d (fun x=>x) t (fun x=>Nat.add_comm _ _);have ho:=El.GQ t.full d (fun x=>x) t hd;obtain⟨hg1,hg2⟩:=El.FL Pf.gx Zti (fun x hx a ha=>((Pf.Cg x).1 hx).2.2.2 a ha) t.full d (fun x=>x) t (fun x h=>h) hx;unfold EJ;generalize El.walk t.full d (fun x=>x) t=w at hs ho hg1 hg2;obtain⟨F,s,D⟩:=w;have hs:∀x:Pf,(F x).full+s.full=t.full+x.full:=hs;have hg1:∀x:Pf,x.gx->(F x).gx:=hg1;have hg2:s.gx:=hg2;have h5:(D.next 6).2.ok:=Dk.AG ho 6;have hsf:=Pf.Af s;have key:∀x:Pf,x.full<=s.full+1000->(F x).full<=200001000:=fun x hx=>by have:=hs x;omega
 obtain⟨q1,q2,q3,q4⟩:=(Pf.Cg s).1 hg2;simp only[vq];split
 .refine ⟨key _ ?_,hg1 _ ((Pf.Cg _).2 ⟨q1,q2,q3,q4⟩),Dk.AG h5 22⟩;rw[Pf.Af];simp only[Pf.ty,Pf.terms,Pf.Aa,Pf.args] at*;omega
 .split
  .have hb:=Dk.Bh (D.next 6).2 5 dY;refine⟨key _ ?_,hg1 _ ((Pf.Cg _).2 ⟨?_,q2,q3,q4⟩),Dk.AG h5 5⟩
   .rw[Pf.Af];simp only[Pf.ty,Pf.terms,Pf.Aa,Pf.args] at*;omega
   .show ((D.next 6).2.next 5).1-1<_;omega
  .split
   .have:=(Dk.type1 (D.next 6).2).2;refine⟨key _ ?_,hg1 _ ((Pf.Cg _).2 ⟨q1,q2,q3,q4⟩),Dk.BC 1 _ h5⟩;rw[Pf.Af];simp only[Pf.ty,Pf.terms,Pf.Aa,Pf.args] at*;omega
   .split
    .refine ⟨key _ ?_,hg1 _ ((Pf.Cg _).2 ⟨q1,fun t ht=> ?_,q3,q4⟩),h5⟩
     .have e:(vT 0).full=2:=ej
      rw[Pf.Af];simp only[Pf.ty,Pf.terms,Pf.Aa,Pf.args,aZ,cC,ZJ,Z2,ZW,aN,e] at*;omega
     .rcases ZU.1 ht with ht|ht
      .exact q2 t ht
      .rw[ah.1 ht];exact Yik dY
    .split
     .refine ⟨key _ ?_,hg1 _ ((Pf.Cg _).2 ⟨q1,q2,fun f hf=> ?_,q4⟩),h5⟩
      .have e:A3.full<=20:=ej
       rw[Pf.Af];simp only[Pf.ty,Pf.terms,Pf.Aa,Pf.args,aZ,cC,ZJ,Z2,ZW,aN] at*;omega
      .rcases ZU.1 hf with hf|hf
       .exact q3 f hf
       .rw[ah.1 hf];exact W8 ej
     .refine ⟨key _ ?_,hg1 _ ((Pf.Cg _).2 ⟨q1,q2,q3,fun x hx=> ?_⟩),h5⟩
      .have e:(x8 0).full<=20:=ej
       rw[Pf.Af];simp only[Pf.ty,Pf.terms,Pf.Aa,Pf.args,aZ,cC,ZJ,Z2,ZW,aN] at*;omega
      .rcases ZU.1 hx with hx|hx
       .exact q4 x hx
       .rw[ah.1 hx];simp[x8,Pf.gx,Pf.LG]
theorem Yie(p:Pf):p.wf->p.shape=true->p.gx:=by
 induction p using Pf.ind with
 |h p ih=>
  intro hw hs;obtain⟨w1,w2,w3,w4⟩:=(Pf.DF p).1 hw;obtain⟨s1,s2,s3,s4⟩:=zk hs;refine(Pf.Cg p).2 ⟨dY,fun t ht=>Tm.Ep fun q hq=>⟨t.AJ (s2 t ht) 0 q hq,VF t (w2 t ht) 0 q hq⟩,fun f hf=>W8 fun q hq r hr=>⟨q.1.AJ (LC f (s3 f hf) 0 q hq) 0 r hr,VF q.1 (Ygm f (w3 f hf) 0 q hq) 0 r hr⟩,fun x hx=>ih x hx (w4 x hx) (s4 x hx)⟩
theorem Zws(p:Pf)(hf:p.full<=100000000000):(Jm p).length<1099511627776:=by
 have e:(Jm p).length=(Az [] (p.CD 0)).length:=M5 _;have h1:=IE (p.CD 0) [];have h2:=Q7 p 0;simp at h1;omega
theorem Zxn(p:Pf)(hf:p.full<=100000000000):(G8 p).length<1099511627776:=Yb1 p hf
theorem Zxv(p:Pf)(hf:p.full<=100000000000):(H7 p).length<1099511627776:=Yab p hf
theorem TA(p:Pf)(a:Int)(q:Pf):(Kp p a q).full<1099511627776:=by
 unfold Kp;by_cases h:Fu p a q=0
 .rw[if_pos h];by_cases he:p.err=0
  .by_cases ha:0<=a/\a<=16384
   .by_cases es:q.err=0
    .obtain ⟨_,_,g3,_,g5,_⟩:=vo he;obtain⟨_,_,_,_,s5,_⟩:=vo es;have h1:=Zj a q p 0 0;have h2:p.size*q.full<=16384*1064960:=bh g3 s5;omega
    .rw[Q4 he ha es] at h;exact absurd h es
   .rw[Q8 he ha] at h;exact absurd h ej
  .rw[RM he] at h;exact absurd h he
 .rw[if_neg h];decide
theorem Zpn(l:List Int)(raw more:Pf)(s:Tm)(fr by_:Int)(hraw:raw.wf):PC E 3 [.s .int l,.agg raw.view,.agg more.view,.agg s.view,.i fr,.i by_] (.bool true):=by
 have br:=raw.BX 20000;have bm:=more.BX 20000;have bs:=s.BX 20000;have hn1:=Yp raw;have hn2:=Yp more;have hn3:=Zx9 s;have hsane:=Ybu;by_cases hl:l.length<=500;case neg=>
  have hf:=Ykq l hl;refine M.F Tryz.func3 ?_;(repeat' first|refine M.o2 @hsane @hf ?_|refine M.z1 5 ?_|refine M.gk ?_|fail);all_goals first
   |rfl
   |(exfalso;simp at h;done)
 have hf:=Yk7 l hl;by_cases hsm:raw.cn 20000<=900/\more.cn 20000<=900/\s.cn 20000<=500;case neg=>
  refine M.F Tryz.func3 ?_;(repeat' first|refine M.o5 @hsane @hf @hn1 @hn2 @hn3 ?_|refine M.gs ?_ ?_<;>intro h|refine M.z1 5 ?_|refine M.cs ?_ ?_<;>intro h|refine M.gk ?_|fail);all_goals first
   |rfl
   |(exfalso;simp at h;done)
   |(exfalso;apply hsm;simp at*;omega)
 obtain⟨hs1,hs2,hs3⟩:=hsm;have fraw:raw.full<=900:=by have:=br.2.2 dY;omega
 have fm:more.full<=900:=by have:=bm.2.2 dY;omega
 have fs:s.full<=500:=by have:=bs.2.2 dY;omega
 have h1:(raw.cn 20000>900)=False:=eB
 have h2:(more.cn 20000>900)=False:=eB
 have h3:(s.cn 20000>500)=False:=eB
 clear br bm bs;have hnew:=Ykv l;have hd:(Dk.mk l 0).ok:=Yf9 hl;obtain⟨d,hde⟩:∃d,d=Dk.mk l 0:=⟨_,rfl⟩;rw[<-hde] at hnew hd;have hlm:=Yas d hd;have hsq:=Yd6 d.lm.2 (Dk.J8 hd);have hd2:=Dk.KF (Dk.J8 hd);have hc:=Yk5 d;have hg:=d.lm.2.C3;have hgl:=d.lm.2.Fq;generalize d.lm.2.On=d2 at*;generalize d.lm.2.JZ=hyps at*;generalize d.lm.2.ctx.1=tys at*;generalize d.lm.1=lems at*;generalize d.lm.2=d1 at*;obtain⟨x,d3,hx,ok3,hA⟩:=Tj 3 dY lems tys hyps d2 3 rfl hd2 hc hg;obtain⟨z,d4,hz,ok4,hB⟩:=Tj 2 dY lems tys hyps d3 2 rfl ok3 hc hg;obtain⟨st,d5,ok5,hst,hT⟩:=Ma d4 ok4;obtain⟨u,d6,ok6,te,tn,ti,hU⟩:=Q9 4 dY dY 2 dY d5 tys st ok5 hg hst dY;have b3:GI 3=108000000:=ej
 have b2:GI 2=36000000:=ej
 have fu:=yd te;have fx:=hx.full;have fz:=hz.full;have gx:=hx.gx;have hY:=Yc0 d6 ok6 x dY;obtain⟨fy,gy,ok7⟩:=Zz5 d6 ok6 x dY gx;generalize (EJ d6 x).1=y at*;generalize (EJ d6 x).2=d7 at*;have oz:∀p∈[raw,x,y],p.full<=200001000/\(p.err=0->p.B7):=by
  intro p hp;simp only[Z4,aP,or_false] at hp;rcases hp with rfl|rfl|rfl
  .exact ⟨dY,fun he=>TV _ ((Pf.Ad _).1 he).1 (Yie _ hraw ((Pf.Ad _).1 he).1)⟩
  .exact ⟨dY,fun he=>TV _ ((Pf.Ad _).1 he).1 gx⟩
  .exact ⟨dY,fun he=>TV _ ((Pf.Ad _).1 he).1 gy⟩
 have ot:∀c∈[s,u],c.full<1000000:=by
  exact m6
 have om:∀c∈[more,z],c.full<=200000000:=by
  exact m6
 have hmf:=QX fr 4 dY;have hmb:=QX by_ 4 dY;refine M.F Tryz.func3 ?_;(repeat' first|refine M.o5 @hsane @hf @hn1 @hn2 @hn3 ?_|refine M.gs ?_ ?_<;>intro h|refine M.z1 5 ?_|refine M.cs ?_ ?_<;>intro h|refine M.gk ?_|fail);all_goals first
  |(exfalso;simp at h;omega)
  |(exfalso;simp at h;done)
  |skip
 (repeat' first|refine M.o0 ?_|refine M.cb (hnew) [] 1 ?_|refine M.cb (hlm) [3] 0 ?_|refine M.cb (hsq) [3] 0 ?_|refine M.cb (hA) [3] 0 ?_|refine M.cb (hB) [3] 0 ?_|refine M.cb (hT) [3] 0 ?_|refine M.cb (hU) [3] 0 ?_|refine M.cb (hY) [3] 0 ?_|refine M.z1 10 ?_|refine M.gk ?_|fail);refine M.rt 3
  (fun m=>([(4,.i fr),(5,.i by_),(8,.ptr 0 0),(9,.ptr 1 0),(16,.ptr 2 0),(17,.ptr 3 0),(18,.ptr 4 0),(104,.s .pf [raw,x,y]),(105,.i 3),(106,.i m)],⟨5,[(0,.var more.view),(1,.var s.view),(2,.var x.view),(3,.var z.view),(4,.var u.view)]⟩))
  (M.W [some 1,some 2,some 5,some 6,some 7]) ?_ ?_
 .intro m hm _;have hzm:m<[raw,x,y].length:=hm;obtain⟨hzf,hzi⟩:=oz [raw,x,y][m] (ZA hzm);generalize hzz:[raw,x,y][m]=p at*;clear hsane hf hn1 hn2 hn3 hnew hlm hsq hA hB hT hU hY oz hde hd hd2 hc hg hgl ok3 ok4 ok5 ok6 ok7 gy gx h1 h2 h3;have c1:=P4 p dY;have c2:=Ycz p dY;have c3:=Yg3 p dY hzi;have c4:=Yeo p dY hzi;have c5:=S7 p dY (fun he=>Ykf p (hzi he));have c6:=Yep p dY hzi;have c7:=Zw9 p dY (fun he=>Yht p (hzi he));have c8:=Zzj p dY;have c9:=vv p dY;have c10:=we p dY;have c11:=Ygh p x dY;have c12:=Zuu _ p x (ZB _) dY;have i1:=SI (if p.err=0 then Jm p else []) (by split;exact Zws p dY;simp);have i2:=SI (if p.err=0 then G8 p else []) (by split;exact Zxn p dY;simp);have i3:=SI (if p.err=0 then H7 p else []) (by split;exact Zxv p dY;simp);(repeat' first|refine M.o0 ?_|refine M.z1 12 ?_|refine M.gk ?_|fail);simp only[hzz];(repeat' first|refine M.o6 @c1 @c2 @c3 @c4 @c5 @c6 ?_|refine M.c2 (c7) ?_|refine M.c2 (c8) ?_|refine M.c2 (c9) ?_|refine M.c2 (c10) ?_|refine M.c2 (c11) ?_|refine M.c2 (c12) ?_|refine M.c2 (i1) ?_|refine M.c2 (i2) ?_|refine M.c2 (i3) ?_|refine M.gs ?_ ?_<;>intro h|refine M.z2 21 22 ?_|refine M.cs ?_ ?_<;>intro h|refine M.gk ?_|fail);all_goals first
   |(exfalso;simp at h;done)
   |skip
  clear c1 c2 c3 c4 c5 c6 c7 c8 c9 c10 c11 c12 i1 i2 i3;(repeat' first|refine M.o2 @hmf @hmb ?_|refine M.z1 23 ?_|refine M.gk ?_|fail);refine M.rt 2
   (fun m'=>([(4,.i fr),(5,.i by_),(8,.ptr 0 0),(9,.ptr 1 0),(16,.ptr 2 0),(17,.ptr 3 0),(18,.ptr 4 0),(20,.ptr 5 0),(104,.s .pf [raw,x,y]),(105,.i 3),(106,.i m),(215,.slice .any (.u 2 [[.i fr,.i by_],[.i (Fx fr 4),.i (Fx by_ 4)]])),(216,.i 2),(217,.i m')],⟨6,[(0,.var more.view),(1,.var s.view),(2,.var x.view),(3,.var z.view),(4,.var u.view),(5,.var p.view)]⟩))
   (M.W CZ) ?_ ?_
  .intro m' hm' _;skip;refine K.sq (AW.GA (ι:=Int×Int) (fun q=>([(4,.i fr),(5,.i by_),(8,.ptr 0 0),(9,.ptr 1 0),(16,.ptr 2 0),(17,.ptr 3 0),(18,.ptr 4 0),(20,.ptr 5 0),(104,.s .pf [raw,x,y]),(105,.i 3),(106,.i m),(215,.slice .any (.u 2 [[.i fr,.i by_],[.i (Fx fr 4),.i (Fx by_ 4)]])),(216,.i 2),(217,.i m'),(38,.ptr 6 0)],⟨7,[(0,.var more.view),(1,.var s.view),(2,.var x.view),(3,.var z.view),(4,.var u.view),(5,.var p.view),(6,.var [.i q.1,.i q.2])]⟩)) ?_ ?_)
   .match m',hm' with
    |0,_=>
     refine M.w0 ?_;exact⟨(fr,by_),(M.W Fg)⟩
    |1,_=>
     refine M.w0 ?_;exact⟨(Fx fr 4,Fx by_ 4),(M.W Fg)⟩
   rintro⟨q1,q2⟩;simp only;have c1:=Ye2 p q1 q2 dY;have c2:=Ya3 p q1 q2 dY;have c3:=Ycr p q1 q2 dY;have c4:=Zv7 p q1 q2 dY;have c5:=O2 _ (if Ip p q1 q2=0 then p.uw q1 q2 0 else C4) (ZB _) (by have:=OM q1 q2 p 0;split;omega;decide);have c6:=O2 _ (if H6 p q1 q2=0 then p.hw q1 q2 0 else C4) (ZB _) (by have:=R3 q1 q2 p 0;split;omega;decide);(repeat' first|refine M.o6 @c1 @c2 @c3 @c4 @c5 @c6 ?_|refine M.gs ?_ ?_<;>intro h|refine M.z2 30 31 ?_|refine M.gk ?_|fail);all_goals first
    |(exfalso;simp at h;done)
    |skip
   clear c1 c2 c3 c4 c5 c6;(repeat' first|refine M.o0 ?_|refine M.z1 32 ?_|refine M.gk ?_|fail);refine AW.GA (ι:=Unit) (fun _=>([(4,.i fr),(5,.i by_),(8,.ptr 0 0),(9,.ptr 1 0),(16,.ptr 2 0),(17,.ptr 3 0),(18,.ptr 4 0),(20,.ptr 5 0),(104,.s .pf [raw,x,y]),(105,.i 3),(106,.i m),(215,.slice .any (.u 2 [[.i fr,.i by_],[.i (Fx fr 4),.i (Fx by_ 4)]])),(216,.i 2),(217,.i m'),(38,.ptr 6 0)],⟨7,[(0,.var more.view),(1,.var s.view),(2,.var x.view),(3,.var z.view),(4,.var u.view),(5,.var p.view),(6,.var [.i q1,.i q2])]⟩)) ?_ ?_
   .refine M.rt 2
     (fun m''=>([(4,.i fr),(5,.i by_),(8,.ptr 0 0),(9,.ptr 1 0),(16,.ptr 2 0),(17,.ptr 3 0),(18,.ptr 4 0),(20,.ptr 5 0),(104,.s .pf [raw,x,y]),(105,.i 3),(106,.i m),(215,.slice .any (.u 2 [[.i fr,.i by_],[.i (Fx fr 4),.i (Fx by_ 4)]])),(216,.i 2),(217,.i m'),(38,.ptr 6 0),(279,.s .tm [s,u]),(280,.i 2),(281,.i m'')],⟨7,[(0,.var more.view),(1,.var s.view),(2,.var x.view),(3,.var z.view),(4,.var u.view),(5,.var p.view),(6,.var [.i q1,.i q2])]⟩))
     (M.W Fg) ?_ ?_
    .intro m'' hm'' _;have hwm:m''<[s,u].length:=hm'';have hwf:=ot [s,u][m''] (ZA hwm);generalize hww:[s,u][m'']=w at*;have c1:=Yi8 p q1 w dY dY;have c2:=Ybx p q1 w dY dY;have c3:=O2 _ (Gb p q1 w) (ZB _) (by have:=Zu9 p q1 w;omega);(repeat' first|refine M.o0 ?_|refine M.z1 34 ?_|refine M.gk ?_|fail);simp only[hww];(repeat' first|refine M.o3 @c1 @c2 @c3 ?_|refine M.gs ?_ ?_<;>intro h|refine M.z1 37 ?_|refine M.gk ?_|fail);all_goals first
      |(exfalso;simp at h;done)
      |skip
     exact⟨rfl,trivial,(M.W Fg)⟩
    .intro _;exact⟨(),(M.W Fg)⟩
   intro _;(repeat' first|refine M.o0 ?_|refine M.z1 40 ?_|refine M.gk ?_|fail);refine M.rt 2
    (fun m''=>([(4,.i fr),(5,.i by_),(8,.ptr 0 0),(9,.ptr 1 0),(16,.ptr 2 0),(17,.ptr 3 0),(18,.ptr 4 0),(20,.ptr 5 0),(104,.s .pf [raw,x,y]),(105,.i 3),(106,.i m),(215,.slice .any (.u 2 [[.i fr,.i by_],[.i (Fx fr 4),.i (Fx by_ 4)]])),(216,.i 2),(217,.i m'),(38,.ptr 6 0),(313,.s .pf [more,z]),(314,.i 2),(315,.i m'')],⟨7,[(0,.var more.view),(1,.var s.view),(2,.var x.view),(3,.var z.view),(4,.var u.view),(5,.var p.view),(6,.var [.i q1,.i q2])]⟩))
    (M.W Fg) ?_ ?_
   .intro m'' hm'' _;have hwm:m''<[more,z].length:=hm'';have hwf:=om [more,z][m''] (ZA hwm);generalize hww:[more,z][m'']=w at*;have c1:PC E 35 [.agg p.view,.i q1,.agg w.view] (.AM [.agg (Kp p q1 w).view,.i (Fu p q1 w)]):=Yeq p q1 w dY dY;have c2:=Zxb p q1 w dY dY;have c3:=O2 _ (Kp p q1 w) (ZB _) (TA p q1 w);(repeat' first|refine M.o0 ?_|refine M.z1 42 ?_|refine M.gk ?_|fail);simp only[hww];(repeat' first|refine M.o3 @c1 @c2 @c3 ?_|refine M.gs ?_ ?_<;>intro h|refine M.z1 45 ?_|refine M.gk ?_|fail);all_goals first
     |(exfalso;simp at h;done)
     |skip
    exact⟨rfl,trivial,(M.W Fg)⟩
   .intro _;repeat'(first|with_reducible refine K.bN ?_)
    exact⟨rfl,trivial,(M.W CZ)⟩
  .intro _;repeat'(first|with_reducible refine K.bN ?_)
   exact⟨rfl,trivial,(M.W DT)⟩
 .exact kR
end Go.Ab
