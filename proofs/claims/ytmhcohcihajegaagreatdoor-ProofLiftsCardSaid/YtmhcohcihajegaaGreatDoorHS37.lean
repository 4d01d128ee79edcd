/- A part of this seat's proofs. No conditions. -/
import Derived.Test.YtmhcohcihajegaaGreatDoorHS27
import Derived.Test.YtmhcohcihajegaaGreatDoorHS30
namespace Go.Ab
open Go Go.Proofs
set_option maxRecDepth 100000
set_option maxHeartbeats 4000000
set_option linter.all false
theorem Yce(n:Nat)(hn:n<=3)(H:Znt n)(lems:List Fm)(tys:List Ty)(hyps:List Fm)(hc:(Ck.mk lems tys hyps).ok)(hs:smalls tys)(ht:tys.length<10)(hh:hyps.length<10)(d:Dk)(hd:d.ok)(k:Int)(hk:k=(n:Int)+1):
 ∃(p:Pf) (d':Dk),(Made (bdP (n+1)) p/\MkQ (n+1) ⟨lems,tys,hyps⟩ p)/\d'.ok/\AC E 64 [.ptr 0 0,.s .fm lems,.agg [.s .ty tys,.s .fm hyps],.i k] ⟨1,[(0,.var d.cells)]⟩ (.agg p.view) ⟨1,[(0,.var d'.cells)]⟩:=by
 have hb:=vm n;have hbs:=wi n;have hbl:=Za4 (show n<=4 by omega);have hl:=Zav hc;have h1:=(Zwn d hd tys hyps hs hl.1).1;have mn:=Zak d hs;have ok1:=Dk.tm_ok 3 d tys natT hd;have mt:=Dk.tm_mk 3 d tys natT hs zh (by omega) (by omega);generalize Dk.tm 3 d tys natT=T at*;obtain⟨t,d1⟩:=T;simp only at mn ok1 mt;have ti:=TmI.of mn.1.err mn.1.inf (by omega);have Q5:∀p,MkQ n ⟨lems,tys++[natT],(hyps.map fun f=>f.lft 0 [natT].length)++[eqF (t.re (zk 0 1) 0) (vT 0)]⟩ p->MkQ (n+1) ⟨lems,tys,hyps⟩ (.mk 11 0 (.mk 0 []) [] [] [.mk 10 0 (.mk 0 []) [t] [quF 5 natT (eqF (t.re (zk 0 1) 0) (vT 0))] [y8 t],p]):=fun p h=>MkQ.opn (k:=5) (.inl rfl) mt h;have Q5':MkQ (n+1) ⟨lems,tys,hyps⟩ (.mk 11 0 (.mk 0 []) [] [] [.mk 10 0 (.mk 0 []) [t] [quF 5 natT (eqF (t.re (zk 0 1) 0) (vT 0))] [y8 t],.mk 10 0 (.mk 0 []) [vT 0] [(quF 5 natT (eqF (t.re (zk 0 1) 0) (vT 0))).lft 0 1] [va 0]]):=MkQ.opn2 (k:=5) (.inl rfl) mt;have Q7:∀p,MkQ n ⟨lems,tys++[natT],(hyps.map fun f=>f.lft 0 [natT].length)++[eqF (t.re (zk 0 1) 0) (vT 0)]⟩ p->MkQ (n+1) ⟨lems,tys,hyps⟩ (.mk 15 0 (.mk 0 []) [] [] [.mk 14 0 (.mk 0 []) [t] [quF 7 natT (eqF (t.re (zk 0 1) 0) (vT 0))] [y8 t],p]):=fun p h=>MkQ.opn (k:=7) (.inr rfl) mt h;have Q7':MkQ (n+1) ⟨lems,tys,hyps⟩ (.mk 15 0 (.mk 0 []) [] [] [.mk 14 0 (.mk 0 []) [t] [quF 7 natT (eqF (t.re (zk 0 1) 0) (vT 0))] [y8 t],.mk 14 0 (.mk 0 []) [vT 0] [(quF 7 natT (eqF (t.re (zk 0 1) 0) (vT 0))).lft 0 1] [va 0]]):=MkQ.opn2 (k:=7) (.inr rfl) mt;have ft:=yt mn.1.err;obtain⟨ee,oe⟩:=Zz8 mn.1.err mn.1.inf (by omega);have hsz:=((Fm.err_iff _).1 ee);have fe:=xg ee;obtain⟨i,d2,ok2,hi,h2⟩:=mNx d1 3 ok1 (by omega);have hnat:=u6;have hbe:=Zc2 tys hyps [natT] (fun f hf=>hc.hyps f hf) (by omega) (by simp) (by omega);have hc2:(Ck.mk lems (tys++[natT]) (hyps.map fun f=>f.lft 0 [natT].length)).ok:=hc.below (l:=[natT]) (by simp only[List.length_singleton];omega) (v8 (ud zh));have hs2:smalls (tys++[natT]):=zj hs (ze zh zi);have hm1:=Made.ref ti;have f1:=hm1.full;have hhl:(hyps.map fun f=>f.lft 0 [natT].length).length<10:=by simpa using hh
 generalize hH2:(hyps.map fun f=>f.lft 0 [natT].length)=H2 at*;have q1:=quI (k:=5) (.inl rfl) zh hsz.1 (by omega) oe (by omega);have q2:=quI (k:=7) (.inr rfl) zh hsz.1 (by omega) oe (by omega);have hU1:=Zf7 (f:=quF 5 natT (eqF (t.re (zk 0 1) 0) (vT 0))) (g:=tys) (Gf.qu (n:=4096) 5 (by omega) (by decide) ⟨hsz.1,hsz.2,oe⟩).ok q1.1 (by have:=(Gf.qu (g:=tys) (n:=4096) 5 (by omega) (show natT.err=0 by decide) ⟨hsz.1,hsz.2,oe⟩).sz;omega) (by omega) 0 1 (by omega) (by omega);have hU2:=Zf7 (f:=quF 7 natT (eqF (t.re (zk 0 1) 0) (vT 0))) (g:=tys) (Gf.qu (n:=4096) 7 (by omega) (by decide) ⟨hsz.1,hsz.2,oe⟩).ok q2.1 (by have:=(Gf.qu (g:=tys) (n:=4096) 7 (by omega) (show natT.err=0 by decide) ⟨hsz.1,hsz.2,oe⟩).sz;omega) (by omega) 0 1 (by omega) (by omega);have l1:=Zns (quF 5 natT (eqF (t.re (zk 0 1) 0) (vT 0))) 0 1;have l2:=Zns (quF 7 natT (eqF (t.re (zk 0 1) 0) (vT 0))) 0 1;have i1:FmI ((quF 5 natT (eqF (t.re (zk 0 1) 0) (vT 0))).lft 0 1):=quUp (.inl rfl) zh hsz.1 (by omega) oe (by omega);have i2:FmI ((quF 7 natT (eqF (t.re (zk 0 1) 0) (vT 0))).lft 0 1):=quUp (.inr rfl) zh hsz.1 (by omega) oe (by omega);unfold Zos at h1;generalize t.re (zk 0 1) 0=u at*;have g1:=q1.2.2;have g2:=q2.2.2;have hw:=Zmc (tys++[natT]) H2 (eqF u (vT 0)) (by omega);have hc3:(Ck.mk lems (tys++[natT]) (H2++[eqF u (vT 0)])).ok:=hc2.with_ (by simp only;omega) ee oe;obtain⟨p1,d3,⟨m1,qm⟩,ok3,hp1⟩:=H lems (tys++[natT]) (H2++[eqF u (vT 0)]) d2 (k-1) (by omega) ok2 hc3 hs2;have fp1:=m1.full;obtain⟨j,d4,ok4,hj,h4⟩:=mNx d3 2 ok3 (by omega);have hv:=Zdf 0;have hy:=Zeb 0;have mh:Made 10 (va 0):=Made.hyp (by omega);have fh:=mh.full;have tv:TmI (vT 0):=Zpw _ (by decide) (by decide) (by decide);generalize (quF 5 natT (eqF u (vT 0))).lft 0 1=w1 at*;generalize (quF 7 natT (eqF u (vT 0))).lft 0 1=w2 at*;have e1:=Ze3 10 w1 (vT 0) (va 0) (by omega) (by decide) (by omega);have e2:=Ze3 14 w2 (vT 0) (va 0) (by omega) (by decide) (by omega);have r1:Made 1000000 (.mk 10 0 (.mk 0 []) [t] [quF 5 natT (eqF u (vT 0))] [y8 t]):=(Made.ex (k:=10) (by omega) q1 ti hm1).up (by omega);have r2:Made 1000000 (.mk 14 0 (.mk 0 []) [t] [quF 7 natT (eqF u (vT 0))] [y8 t]):=(Made.ex (k:=14) (by omega) q2 ti hm1).up (by omega);have s1:Made 700000 (.mk 10 0 (.mk 0 []) [vT 0] [w1] [va 0]):=(Made.ex (k:=10) (by omega) i1 tv mh).up (by omega);have s2:Made 700000 (.mk 14 0 (.mk 0 []) [vT 0] [w2] [va 0]):=(Made.ex (k:=14) (by omega) i2 tv mh).up (by omega);have a1:=r1.full;have a2:=r2.full;have b1:=s1.full;have b2:=s2.full;by_cases hi0:i=0
 ·by_cases hj0:j=0
  ·subst hi0 hj0;have hP:=Zb6 15 [(.mk 14 0 (.mk 0 []) [t] [quF 7 natT (eqF u (vT 0))] [y8 t]),(.mk 14 0 (.mk 0 []) [vT 0] [w2] [va 0])] (by simp) (Zew (by omega) (by omega));refine⟨_,d4,⟨(Made.two (k:=15) (by omega) r2 s2).up (by omega),Q7'⟩,ok4,?_⟩;clear Q5 Q7 Q5' Q7';refine M.F Tryz.func64 ?_;(repeat' first|refine M.w0 ?_|refine M.cb (h1) [0] 1 ?_|refine M.cb (h2) [0] 0 ?_|fail);all_goals first
    |(exfalso;simp at h;omega)
    |skip
   refine L.ixr 0 rfl rfl rfl rfl rfl (by omega) rfl ?_;refine M.w0 ?_;refine L.ixr 0 rfl rfl rfl rfl rfl (by omega) rfl ?_;(repeat' first|refine M.o5 @hnat @hbe @hw @hp1 @h4 ?_|refine M.z1 11 ?_|refine M.gk ?_|fail);all_goals first
    |(exfalso;simp at h;omega)
    |skip
   refine L.ixr 0 rfl rfl rfl rfl rfl (by omega) rfl ?_;(repeat' first|refine M.o4 @hU2 @hv @hy @e2 ?_|refine M.z1 11 ?_|refine M.gk ?_|fail);refine AW.frz (c:= .fm) 3 1 [quF 7 natT (eqF u (vT 0))] rfl (by simp) (by(repeat'(first|exact trivial|exact fun _=>rfl|exact fun h=>absurd rfl h|exact fun h=>absurd h (by decide)|refine And.intro ?_ ?_|intro _));done) (by(repeat'(first|exact trivial|exact fun _=>rfl|exact fun h=>absurd rfl h|exact fun h=>absurd h (by decide)|refine And.intro ?_ ?_|intro _));done) ?_;refine M.w1 @hP ?_
   (exact M.n2 rh1 (h8:=(by simp[zn,V.wk,V.wks,za,Ty.view,Tm.view,Pf.view])))
  ·subst hi0;obtain⟨pk,pi,⟨sk,sa⟩,pt,pf,pa⟩:=p1;have hP:=Zb6 15 [(.mk 14 0 (.mk 0 []) [t] [quF 7 natT (eqF u (vT 0))] [y8 t]),(.mk pk pi (.mk sk sa) pt pf pa)] (by simp) (Zew (by omega) (by omega));refine⟨_,d4,⟨(Made.two (k:=15) (by omega) r2 m1).up (by omega),Q7 _ qm⟩,ok4,?_⟩;clear Q5 Q7 Q5' Q7';refine M.F Tryz.func64 ?_;(repeat' first|refine M.w0 ?_|refine M.cb (h1) [0] 1 ?_|refine M.cb (h2) [0] 0 ?_|fail);all_goals first
    |(exfalso;simp at h;omega)
    |skip
   refine L.ixr 0 rfl rfl rfl rfl rfl (by omega) rfl ?_;refine M.w0 ?_;refine L.ixr 0 rfl rfl rfl rfl rfl (by omega) rfl ?_;(repeat' first|refine M.o5 @hnat @hbe @hw @hp1 @h4 ?_|refine M.z1 11 ?_|refine M.cs ?_ ?_<;>intro h|refine M.gk ?_|fail);all_goals first
    |(exfalso;simp at h;omega)
    |skip
   refine AW.frz (c:= .fm) 3 1 [quF 7 natT (eqF u (vT 0))] rfl (by simp) (by(repeat'(first|exact trivial|exact fun _=>rfl|exact fun h=>absurd rfl h|exact fun h=>absurd h (by decide)|refine And.intro ?_ ?_|intro _));done) (by(repeat'(first|exact trivial|exact fun _=>rfl|exact fun h=>absurd rfl h|exact fun h=>absurd h (by decide)|refine And.intro ?_ ?_|intro _));done) ?_;refine M.w1 @hP ?_
   (exact M.n2 rh1 (h8:=(by simp[zn,V.wk,V.wks,za,Ty.view,Tm.view,Pf.view])))
 ·by_cases hj0:j=0
  ·subst hj0;have hP:=Zb6 11 [(.mk 10 0 (.mk 0 []) [t] [quF 5 natT (eqF u (vT 0))] [y8 t]),(.mk 10 0 (.mk 0 []) [vT 0] [w1] [va 0])] (by simp) (Zew (by omega) (by omega));refine⟨_,d4,⟨(Made.two (k:=11) (by omega) r1 s1).up (by omega),Q5'⟩,ok4,?_⟩;clear Q5 Q7 Q5' Q7';refine M.F Tryz.func64 ?_;(repeat' first|refine M.w0 ?_|refine M.cb (h1) [0] 1 ?_|refine M.cb (h2) [0] 0 ?_|refine M.cs ?_ ?_<;>intro h|fail);all_goals first
    |(exfalso;simp at h;omega)
    |skip
   refine L.ixr 0 rfl rfl rfl rfl rfl (by omega) rfl ?_;(repeat' first|refine M.o5 @hnat @hbe @hw @hp1 @h4 ?_|refine M.z1 11 ?_|refine M.gk ?_|fail);all_goals first
    |(exfalso;simp at h;omega)
    |skip
   refine L.ixr 0 rfl rfl rfl rfl rfl (by omega) rfl ?_;(repeat' first|refine M.o4 @hU1 @hv @hy @e1 ?_|refine M.z1 11 ?_|refine M.gk ?_|fail);refine AW.frz (c:= .fm) 3 1 [quF 5 natT (eqF u (vT 0))] rfl (by simp) (by(repeat'(first|exact trivial|exact fun _=>rfl|exact fun h=>absurd rfl h|exact fun h=>absurd h (by decide)|refine And.intro ?_ ?_|intro _));done) (by(repeat'(first|exact trivial|exact fun _=>rfl|exact fun h=>absurd rfl h|exact fun h=>absurd h (by decide)|refine And.intro ?_ ?_|intro _));done) ?_;refine M.w1 @hP ?_
   (exact M.n2 rh1 (h8:=(by simp[zn,V.wk,V.wks,za,Ty.view,Tm.view,Pf.view])))
  ·obtain ⟨pk,pi,⟨sk,sa⟩,pt,pf,pa⟩:=p1;have hP:=Zb6 11 [(.mk 10 0 (.mk 0 []) [t] [quF 5 natT (eqF u (vT 0))] [y8 t]),(.mk pk pi (.mk sk sa) pt pf pa)] (by simp) (Zew (by omega) (by omega));refine⟨_,d4,⟨(Made.two (k:=11) (by omega) r1 m1).up (by omega),Q5 _ qm⟩,ok4,?_⟩;clear Q5 Q7 Q5' Q7';refine M.F Tryz.func64 ?_;(repeat' first|refine M.w0 ?_|refine M.cb (h1) [0] 1 ?_|refine M.cb (h2) [0] 0 ?_|refine M.cs ?_ ?_<;>intro h|fail);all_goals first
    |(exfalso;simp at h;omega)
    |skip
   refine L.ixr 0 rfl rfl rfl rfl rfl (by omega) rfl ?_;(repeat' first|refine M.o5 @hnat @hbe @hw @hp1 @h4 ?_|refine M.z1 11 ?_|refine M.cs ?_ ?_<;>intro h|refine M.gk ?_|fail);all_goals first
    |(exfalso;simp at h;omega)
    |skip
   refine AW.frz (c:= .fm) 3 1 [quF 5 natT (eqF u (vT 0))] rfl (by simp) (by(repeat'(first|exact trivial|exact fun _=>rfl|exact fun h=>absurd rfl h|exact fun h=>absurd h (by decide)|refine And.intro ?_ ?_|intro _));done) (by(repeat'(first|exact trivial|exact fun _=>rfl|exact fun h=>absurd rfl h|exact fun h=>absurd h (by decide)|refine And.intro ?_ ?_|intro _));done) ?_;refine M.w1 @hP ?_
   (exact M.n2 rh1 (h8:=(by simp[zn,V.wk,V.wks,za,Ty.view,Tm.view,Pf.view])))
theorem Zjd:∀n,n<=4->Znt n
 |0,_=>fun lems tys hyps d k hk hd hc hs=>by
  obtain rfl:k=0:=by simpa using hk
  obtain⟨p,d',hm,ok',hA⟩:=Ze1 0 lems tys hyps hc hs d hd 0;refine⟨p,d',hm,ok',?_⟩;have hn:=u6;refine M.F Tryz.func20 ?_;(repeat' first|refine M.o1 @hn ?_|refine M.z2 3 61 ?_|refine M.gk ?_|fail);all_goals first
   |exact AW.weak (M.W rh4) hA
   |(exfalso;simp at h;omega)
   |trace_state
 |n+1,h4=>fun lems tys hyps d k hk hd hc hs=>by
  have H:=Zjd n (by omega);have hn:=u6;by_cases hg:tys.length<10/\hyps.length<10;case neg=>
   obtain⟨p,d',hm,ok',hA⟩:=Ze1 (n+1) lems tys hyps hc hs d hd k;refine⟨p,d',hm,ok',?_⟩;refine M.F Tryz.func20 ?_;(repeat' first|refine M.o1 @hn ?_|refine M.gs ?_ ?_<;>intro h|refine M.z2 3 61 ?_|refine M.cs ?_ ?_<;>intro h|refine M.gk ?_|fail);all_goals first
    |exact AW.weak (M.W rh4) hA
    |(exfalso;apply hg;simp at*;omega)
    |trace_state
  obtain⟨g1,g2⟩:=hg;obtain⟨j,d1,ok1,hj,hx⟩:=mNx d 17 hd (by omega);have key:∃(p:Pf) (d':Dk),(Made (bdP (n+1)) p/\MkQ (n+1) ⟨lems,tys,hyps⟩ p)/\d'.ok/\AW E Tryz.f20.ntmps 1 (wr [1,1] (uo Tryz.f20)) [(0,.ptr 0 0),(1,.s .fm lems),(3,.i k),(6,.ptr 1 0),(8,.ptr 2 0),(9,.ptr 3 0)] ⟨4,[(0,.var d.cells),(1,.var [.s .ty tys,.s .fm hyps]),(2,.var [.i 0,.i 0,.i 0,.slice .nil (.t .ty []),.slice .nil (.t .tm []),.slice .nil (.t .fm []),.slice .nil (.t .pf [])]),(3,.var natT.view)]⟩ (Zff E 1 Tryz.f20.results.toList (.agg p.view) ⟨1,[(0,.var d'.cells)]⟩):=by
   have hk':k=(n:Int)+1:=by omega
   rcases(show j=0\/j=1\/j=2\/j=3\/j=4\/j=5\/j=6\/j=7\/j=8\/j=9\/j=10\/j=11\/j=12\/j=13\/j=14\/j=15\/j=16 by omega) with rfl|rfl|rfl|rfl|rfl|rfl|rfl|rfl|rfl|rfl|rfl|rfl|rfl|rfl|rfl|rfl|rfl
   ·exact Yc7 n (by omega) H lems tys hyps hc hs g1 g2 d d1 ok1 k hk' hx
   ·exact Ybp n (by omega) H lems tys hyps hc hs g1 g2 d d1 ok1 k hk' hx
   ·exact Yds n (by omega) H lems tys hyps hc hs g1 g2 d d1 ok1 k hk' hx
   ·exact Yea n (by omega) H lems tys hyps hc hs g1 g2 d d1 ok1 k hk' hx
   ·exact Ydf n (by omega) H lems tys hyps hc hs g1 g2 d d1 ok1 k hk' hx
   ·exact Ycd n (by omega) H lems tys hyps hc hs g1 g2 d d1 ok1 k hk' hx
   ·exact Ybz n (by omega) H lems tys hyps hc hs g1 g2 d d1 ok1 k hk' hx
   ·exact Yb0 n (by omega) H lems tys hyps hc hs g1 g2 d d1 ok1 k hk' hx
   ·obtain ⟨p,d',hm,ok',hA⟩:=Yce n (by omega) H lems tys hyps hc hs g1 g2 d1 ok1 k hk';refine⟨p,d',hm,ok',?_⟩;show AW _ _ _ (Code.seq _ _) _ _ _;(repeat' first|refine M.o0 ?_|refine M.gs ?_ ?_<;>intro h|refine M.z1 3 ?_|refine M.cs ?_ ?_<;>intro h|refine M.gk ?_|fail);all_goals first
     |(exfalso;simp at h;omega)
     |skip
    refine M.v2 @hx @hA ?_;all_goals first|exact M.n2 rh1 (h8:=(by simp[zn,V.wk,V.wks,za,Ty.view,Tm.view,Pf.view]))
   ·exact Yd5 n (by omega) H lems tys hyps hc hs g1 g2 d d1 ok1 k hk' hx
   ·exact Zzs n (by omega) H lems tys hyps hc hs g1 g2 d d1 ok1 k hk' hx
   ·exact Zw5 n (by omega) H lems tys hyps hc hs g1 g2 d d1 ok1 k hk' hx
   ·exact Zyy n (by omega) H lems tys hyps hc hs g1 g2 d d1 ok1 k hk' hx
   ·exact Zzt n (by omega) H lems tys hyps hc hs g1 g2 d d1 ok1 k hk' hx
   ·exact Zy0 n (by omega) H lems tys hyps hc hs g1 g2 d d1 ok1 k hk' hx
   ·exact Zwq n (by omega) H lems tys hyps hc hs g1 g2 d d1 ok1 k hk' hx
   ·obtain ⟨p,d',hm,ok',hA⟩:=Ze1 (n+1) lems tys hyps hc hs d1 ok1 k;refine⟨p,d',hm,ok',?_⟩;show AW _ _ _ (Code.seq _ _) _ _ _;(repeat' first|refine M.o0 ?_|refine M.gs ?_ ?_<;>intro h|refine M.z1 3 ?_|refine M.cs ?_ ?_<;>intro h|refine M.gk ?_|fail);all_goals first
     |(exfalso;simp at h;omega)
     |skip
    (repeat' first|refine M.o1 @hx ?_|refine M.z1 61 ?_|refine M.bl ?_|refine M.gk ?_|fail);all_goals first
     |exact AW.weak (M.W rh4) hA
     |trace_state
  obtain⟨p,d',hm,ok',hA⟩:=key;refine⟨p,d',hm,ok',?_⟩;refine M.F Tryz.func20 ?_;(repeat' first|refine M.o1 @hn ?_|refine M.z1 2 ?_|refine M.gk ?_|fail);exact AW.weak (M.W rh4) hA
end Go.Ab
