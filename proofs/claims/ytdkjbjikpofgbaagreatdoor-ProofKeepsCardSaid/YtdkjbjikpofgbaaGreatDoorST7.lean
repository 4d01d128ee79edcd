/- A part of the proofs of this seat's statements: S128, S77, S132, S133, S134. It has no conditions of its own. -/
import Derived.Test.YtdkjbjikpofgbaaGreatDoorA2
import Derived.Test.YtdkjbjikpofgbaaGreatDoorST6
import Derived.Test.YtdkjbjikpofgbaaGreatDoorS3
import Derived.Test.YtdkjbjikpofgbaaGreatDoorDT1
import Derived.Test.YtdkjbjikpofgbaaGreatDoorS2
import Derived.Test.YtdkjbjikpofgbaaGreatDoorST4
import Derived.Test.YtdkjbjikpofgbaaGreatDoorD1
import Derived.Test.YtdkjbjikpofgbaaGreatDoorST5
import Derived.Test.YtdkjbjikpofgbaaGreatDoorST3
import Derived.Test.YtdkjbjikpofgbaaGreatDoorST2
import Derived.Test.YtdkjbjikpofgbaaGreatDoorS5
import Derived.Test.YtdkjbjikpofgbaaGreatDoorS4
namespace Go.Ab
open Go Go.Proofs Go.Ab
set_option maxRecDepth 100000
set_option maxHeartbeats 4000000
set_option linter.all false
theorem quUp{f:Fm}{g:List Ty}{k:Int}{s:Ty}(hk:k=5∨k=7)(hs:s.small)(h1:f.shape=true)(h2:f.size≤4400)(ho:f.okT (g++[s]))(hg:g.length≤16):FmI ((quF k s f).lft 0 1):=by
 have hq:=Gf.qu (g:=g) k (by omega) (we hs) ⟨h1,h2,ho⟩
 have hq2:Gf (g++[]) (quF k s f) (4400+1):=by simpa using hq
 have hl:Gf (g++[natT]++[]) ((quF k s f).lft 0 1) (4400+1):=Gf.lft (h:=[]) [natT] hq2
 exact FmI.size hl.sh (by have:=hl.sz;omega) hl.ok (by simp;omega)
theorem Zx9(n:Nat)(hn:n≤3)(H:MkP n)(lems:List Fm)(tys:List Ty)(hyps:List Fm)(hc:(Ck.mk lems tys hyps).ok)(hs:smalls tys)(ht:tys.length<10)(hh:hyps.length<10)(d:Dk)(hd:d.ok)(k:Int)(hk:k=(n:Int)+1):
 ∃(p:Pf) (d':Dk),Made (bdP (n+1)) p∧d'.ok∧AC E 48 [.ptr 0 0,.s .fm lems,.agg [.s .ty tys,.s .fm hyps],.i k] ⟨1,[(0,.var d.cells)]⟩ (.agg p.view) ⟨1,[(0,.var d'.cells)]⟩:=by
 have hb:=xw n
 have hbs:=y7 n
 have hbl:=ue (show n≤4 by omega)
 have hl:=vz hc
 have h1:=(Zr2 d hd tys hyps hs hl.1).1
 have mn:=un d hs
 have ok1:=Dk.tm_ok 3 d tys natT hd
 generalize Dk.tm 3 d tys natT=T at*
 obtain⟨t,d1⟩:=T
 simp only at mn ok1
 have ti:=TmI.of mn.1.err mn.1.inf (by omega)
 have ft:=z8 mn.1.err
 obtain⟨ee,oe⟩:=Zqm mn.1.err mn.1.inf (by omega)
 have hsz:=((Fm.err_iff _).1 ee)
 have fe:=yr ee
 obtain⟨i,d2,ok2,hi,h2⟩:=mNx d1 3 ok1 (by omega)
 have hnat:=vb
 have hbe:=Za2 tys hyps [natT] (fun f hf=>hc.hyps f hf) (by omega) (by simp) (by omega)
 have hc2:(Ck.mk lems (tys++[natT]) (hyps.map fun f=>f.lft 0 [natT].length)).ok:=hc.below (l:=[natT]) (by simp only[List.length_singleton];omega) (wh (we ze))
 have hs2:smalls (tys++[natT]):=zl hs (zg ze zj)
 have hm1:=Made.ref ti
 have f1:=hm1.full
 have hhl:(hyps.map fun f=>f.lft 0 [natT].length).length<10:=by simpa using hh
 generalize hH2:(hyps.map fun f=>f.lft 0 [natT].length)=H2 at*
 have q1:=quI (k:=5) (.inl rfl) ze hsz.1 (by omega) oe (by omega)
 have q2:=quI (k:=7) (.inr rfl) ze hsz.1 (by omega) oe (by omega)
 have hU1:=Zdm (f:=quF 5 natT (eqF (t.re (zq 0 1) 0) (vT 0))) (g:=tys) (Gf.qu (n:=4096) 5 (by omega) (by decide) ⟨hsz.1,hsz.2,oe⟩).ok q1.1 (by have:=(Gf.qu (g:=tys) (n:=4096) 5 (by omega) (show natT.err=0 by decide) ⟨hsz.1,hsz.2,oe⟩).sz;omega) (by omega) 0 1 (by omega) (by omega)
 have hU2:=Zdm (f:=quF 7 natT (eqF (t.re (zq 0 1) 0) (vT 0))) (g:=tys) (Gf.qu (n:=4096) 7 (by omega) (by decide) ⟨hsz.1,hsz.2,oe⟩).ok q2.1 (by have:=(Gf.qu (g:=tys) (n:=4096) 7 (by omega) (show natT.err=0 by decide) ⟨hsz.1,hsz.2,oe⟩).sz;omega) (by omega) 0 1 (by omega) (by omega)
 have l1:=Zk4 (quF 5 natT (eqF (t.re (zq 0 1) 0) (vT 0))) 0 1
 have l2:=Zk4 (quF 7 natT (eqF (t.re (zq 0 1) 0) (vT 0))) 0 1
 have i1:FmI ((quF 5 natT (eqF (t.re (zq 0 1) 0) (vT 0))).lft 0 1):=quUp (.inl rfl) ze hsz.1 (by omega) oe (by omega)
 have i2:FmI ((quF 7 natT (eqF (t.re (zq 0 1) 0) (vT 0))).lft 0 1):=quUp (.inr rfl) ze hsz.1 (by omega) oe (by omega)
 unfold Zmv at h1
 generalize t.re (zq 0 1) 0=u at*
 have g1:=q1.2.2
 have g2:=q2.2.2
 have hw:=Zij (tys++[natT]) H2 (eqF u (vT 0)) (by omega)
 have hc3:(Ck.mk lems (tys++[natT]) (H2++[eqF u (vT 0)])).ok:=hc2.with_ (by simp only;omega) ee oe
 obtain⟨p1,d3,m1,ok3,hp1⟩:=H lems (tys++[natT]) (H2++[eqF u (vT 0)]) d2 (k-1) (by omega) ok2 hc3 hs2
 have fp1:=m1.full
 obtain⟨j,d4,ok4,hj,h4⟩:=mNx d3 2 ok3 (by omega)
 have hv:=Zbb 0
 have hy:=Zb0 0
 have mh:Made 10 (va 0):=Made.hyp (by omega)
 have fh:=mh.full
 have tv:TmI (vT 0):=Zlh _ (by decide) (by decide) (by decide)
 generalize (quF 5 natT (eqF u (vT 0))).lft 0 1=w1 at*
 generalize (quF 7 natT (eqF u (vT 0))).lft 0 1=w2 at*
 have e1:=Zcv 10 w1 (vT 0) (va 0) (by omega) (by decide) (by omega)
 have e2:=Zcv 14 w2 (vT 0) (va 0) (by omega) (by decide) (by omega)
 have r1:Made 1000000 (.mk 10 0 (.mk 0 []) [t] [quF 5 natT (eqF u (vT 0))] [y4 t]):=(Made.ex (k:=10) (by omega) q1 ti hm1).up (by omega)
 have r2:Made 1000000 (.mk 14 0 (.mk 0 []) [t] [quF 7 natT (eqF u (vT 0))] [y4 t]):=(Made.ex (k:=14) (by omega) q2 ti hm1).up (by omega)
 have s1:Made 700000 (.mk 10 0 (.mk 0 []) [vT 0] [w1] [va 0]):=(Made.ex (k:=10) (by omega) i1 tv mh).up (by omega)
 have s2:Made 700000 (.mk 14 0 (.mk 0 []) [vT 0] [w2] [va 0]):=(Made.ex (k:=14) (by omega) i2 tv mh).up (by omega)
 have a1:=r1.full
 have a2:=r2.full
 have b1:=s1.full
 have b2:=s2.full
 by_cases hi0:i=0
 ·by_cases hj0:j=0
  ·subst hi0 hj0
   have hP:=uy 15 [(.mk 14 0 (.mk 0 []) [t] [quF 7 natT (eqF u (vT 0))] [y4 t]),(.mk 14 0 (.mk 0 []) [vT 0] [w2] [va 0])] (by simp) (Zcq (by omega) (by omega))
   refine⟨_,d4,(Made.two (k:=15) (by omega) r2 s2).up (by omega),ok4,?_⟩
   refine M.F Tryz.func48 ?_
   repeat'(first|refine M.gw ?_|refine M.cb (h1) [0] 1 ?_|refine M.cb (h2) [0] 0 ?_|fail)
   all_goals first
    |(exfalso;simp at h;omega)
    |skip
   refine L.ixr 0 rfl rfl rfl rfl rfl (by omega) rfl ?_
   repeat'(first|refine M.gw ?_|fail)
   refine L.ixr 0 rfl rfl rfl rfl rfl (by omega) rfl ?_
   repeat'(first|refine M.go ?_|refine M.c2 (hnat) ?_|refine M.c2 (hbe) ?_|refine M.c2 (hw) ?_|refine M.cb (hp1) [0] 0 ?_|refine M.cb (h4) [0] 0 ?_|((with_reducible refine D.aw ?_);(fail_if_success with_reducible refine D.stopR (id:=11) ?_);(fail_if_success with_reducible refine D.stopS (id:=11) ?_);first|refine M.ga ?_)|refine M.gk ?_|fail)
   all_goals first
    |(exfalso;simp at h;omega)
    |skip
   refine L.ixr 0 rfl rfl rfl rfl rfl (by omega) rfl ?_
   repeat'(first|refine M.go ?_|refine M.c2 (hU2) ?_|refine M.c2 (hv) ?_|refine M.c2 (hy) ?_|refine M.c2 (e2) ?_|((with_reducible refine D.aw ?_);(fail_if_success with_reducible refine D.stopR (id:=11) ?_);(fail_if_success with_reducible refine D.stopS (id:=11) ?_);first|refine M.ga ?_)|refine M.gk ?_|fail)
   refine AW.frz (c:= .fm) 3 1 [quF 7 natT (eqF u (vT 0))] U (by simp) (by(repeat'(first|exact trivial|exact fun _=>rfl|exact fun h=>absurd U h|exact fun h=>absurd h (by decide)|refine And.intro ?_ ?_|intro _));done) (by(repeat'(first|exact trivial|exact fun _=>rfl|exact fun h=>absurd U h|exact fun h=>absurd h (by decide)|refine And.intro ?_ ?_|intro _));done) ?_
   repeat'(first|refine M.gw ?_|refine M.c2 (hP) ?_|fail)
   (exact M.n2 [some 0] (h8:=(by simp[zi,V.wk,V.wks,za,Ty.view,Tm.view,Pf.view])))
  ·subst hi0
   obtain⟨pk,pi,⟨sk,sa⟩,pt,pf,pa⟩:=p1
   have hP:=uy 15 [(.mk 14 0 (.mk 0 []) [t] [quF 7 natT (eqF u (vT 0))] [y4 t]),(.mk pk pi (.mk sk sa) pt pf pa)] (by simp) (Zcq (by omega) (by omega))
   refine⟨_,d4,(Made.two (k:=15) (by omega) r2 m1).up (by omega),ok4,?_⟩
   refine M.F Tryz.func48 ?_
   repeat'(first|refine M.gw ?_|refine M.cb (h1) [0] 1 ?_|refine M.cb (h2) [0] 0 ?_|fail)
   all_goals first
    |(exfalso;simp at h;omega)
    |skip
   refine L.ixr 0 rfl rfl rfl rfl rfl (by omega) rfl ?_
   repeat'(first|refine M.gw ?_|fail)
   refine L.ixr 0 rfl rfl rfl rfl rfl (by omega) rfl ?_
   repeat'(first|refine M.go ?_|refine M.c2 (hnat) ?_|refine M.c2 (hbe) ?_|refine M.c2 (hw) ?_|refine M.cb (hp1) [0] 0 ?_|refine M.cb (h4) [0] 0 ?_|((with_reducible refine D.aw ?_);(fail_if_success with_reducible refine D.stopR (id:=11) ?_);(fail_if_success with_reducible refine D.stopS (id:=11) ?_);first|refine M.ga ?_|refine AW.condS U (fun h=> ?_) (fun h=> ?_))|refine M.gk ?_|fail)
   all_goals first
    |(exfalso;simp at h;omega)
    |skip
   refine AW.frz (c:= .fm) 3 1 [quF 7 natT (eqF u (vT 0))] U (by simp) (by(repeat'(first|exact trivial|exact fun _=>rfl|exact fun h=>absurd U h|exact fun h=>absurd h (by decide)|refine And.intro ?_ ?_|intro _));done) (by(repeat'(first|exact trivial|exact fun _=>rfl|exact fun h=>absurd U h|exact fun h=>absurd h (by decide)|refine And.intro ?_ ?_|intro _));done) ?_
   repeat'(first|refine M.gw ?_|refine M.c2 (hP) ?_|fail)
   (exact M.n2 [some 0] (h8:=(by simp[zi,V.wk,V.wks,za,Ty.view,Tm.view,Pf.view])))
 ·by_cases hj0:j=0
  ·subst hj0
   have hP:=uy 11 [(.mk 10 0 (.mk 0 []) [t] [quF 5 natT (eqF u (vT 0))] [y4 t]),(.mk 10 0 (.mk 0 []) [vT 0] [w1] [va 0])] (by simp) (Zcq (by omega) (by omega))
   refine⟨_,d4,(Made.two (k:=11) (by omega) r1 s1).up (by omega),ok4,?_⟩
   refine M.F Tryz.func48 ?_
   repeat'(first|refine M.gw ?_|refine M.cb (h1) [0] 1 ?_|refine M.cb (h2) [0] 0 ?_|refine AW.condS U (fun h=> ?_) (fun h=> ?_)|fail)
   all_goals first
    |(exfalso;simp at h;omega)
    |skip
   refine L.ixr 0 rfl rfl rfl rfl rfl (by omega) rfl ?_
   repeat'(first|refine M.go ?_|refine M.c2 (hnat) ?_|refine M.c2 (hbe) ?_|refine M.c2 (hw) ?_|refine M.cb (hp1) [0] 0 ?_|refine M.cb (h4) [0] 0 ?_|((with_reducible refine D.aw ?_);(fail_if_success with_reducible refine D.stopR (id:=11) ?_);(fail_if_success with_reducible refine D.stopS (id:=11) ?_);first|refine M.ga ?_)|refine M.gk ?_|fail)
   all_goals first
    |(exfalso;simp at h;omega)
    |skip
   refine L.ixr 0 rfl rfl rfl rfl rfl (by omega) rfl ?_
   repeat'(first|refine M.go ?_|refine M.c2 (hU1) ?_|refine M.c2 (hv) ?_|refine M.c2 (hy) ?_|refine M.c2 (e1) ?_|((with_reducible refine D.aw ?_);(fail_if_success with_reducible refine D.stopR (id:=11) ?_);(fail_if_success with_reducible refine D.stopS (id:=11) ?_);first|refine M.ga ?_)|refine M.gk ?_|fail)
   refine AW.frz (c:= .fm) 3 1 [quF 5 natT (eqF u (vT 0))] U (by simp) (by(repeat'(first|exact trivial|exact fun _=>rfl|exact fun h=>absurd U h|exact fun h=>absurd h (by decide)|refine And.intro ?_ ?_|intro _));done) (by(repeat'(first|exact trivial|exact fun _=>rfl|exact fun h=>absurd U h|exact fun h=>absurd h (by decide)|refine And.intro ?_ ?_|intro _));done) ?_
   repeat'(first|refine M.gw ?_|refine M.c2 (hP) ?_|fail)
   (exact M.n2 [some 0] (h8:=(by simp[zi,V.wk,V.wks,za,Ty.view,Tm.view,Pf.view])))
  ·obtain ⟨pk,pi,⟨sk,sa⟩,pt,pf,pa⟩:=p1
   have hP:=uy 11 [(.mk 10 0 (.mk 0 []) [t] [quF 5 natT (eqF u (vT 0))] [y4 t]),(.mk pk pi (.mk sk sa) pt pf pa)] (by simp) (Zcq (by omega) (by omega))
   refine⟨_,d4,(Made.two (k:=11) (by omega) r1 m1).up (by omega),ok4,?_⟩
   refine M.F Tryz.func48 ?_
   repeat'(first|refine M.gw ?_|refine M.cb (h1) [0] 1 ?_|refine M.cb (h2) [0] 0 ?_|refine AW.condS U (fun h=> ?_) (fun h=> ?_)|fail)
   all_goals first
    |(exfalso;simp at h;omega)
    |skip
   refine L.ixr 0 rfl rfl rfl rfl rfl (by omega) rfl ?_
   repeat'(first|refine M.go ?_|refine M.c2 (hnat) ?_|refine M.c2 (hbe) ?_|refine M.c2 (hw) ?_|refine M.cb (hp1) [0] 0 ?_|refine M.cb (h4) [0] 0 ?_|((with_reducible refine D.aw ?_);(fail_if_success with_reducible refine D.stopR (id:=11) ?_);(fail_if_success with_reducible refine D.stopS (id:=11) ?_);first|refine M.ga ?_|refine AW.condS U (fun h=> ?_) (fun h=> ?_))|refine M.gk ?_|fail)
   all_goals first
    |(exfalso;simp at h;omega)
    |skip
   refine AW.frz (c:= .fm) 3 1 [quF 5 natT (eqF u (vT 0))] U (by simp) (by(repeat'(first|exact trivial|exact fun _=>rfl|exact fun h=>absurd U h|exact fun h=>absurd h (by decide)|refine And.intro ?_ ?_|intro _));done) (by(repeat'(first|exact trivial|exact fun _=>rfl|exact fun h=>absurd U h|exact fun h=>absurd h (by decide)|refine And.intro ?_ ?_|intro _));done) ?_
   repeat'(first|refine M.gw ?_|refine M.c2 (hP) ?_|fail)
   (exact M.n2 [some 0] (h8:=(by simp[zi,V.wk,V.wks,za,Ty.view,Tm.view,Pf.view])))
theorem Zxr:∀n,n≤4→MkP n
 |0,_=>fun lems tys hyps d k hk hd hc hs=>by
  obtain rfl:k=0:=by simpa using hk
  obtain⟨p,d',hm,ok',hA⟩:=Zfx 0 lems tys hyps hc hs d hd 0
  refine⟨p,d',hm,ok',?_⟩
  have hn:=vb
  refine M.F Tryz.func11 ?_
  repeat'(first|refine M.go ?_|refine M.c2 (hn) ?_|((with_reducible refine D.aw ?_);(fail_if_success with_reducible refine D.stopR (id:=3) ?_);(fail_if_success with_reducible refine D.stopS (id:=3) ?_);(fail_if_success with_reducible refine D.stopR (id:=61) ?_);(fail_if_success with_reducible refine D.stopS (id:=61) ?_);first|refine M.ga ?_)|refine M.gk ?_|fail)
  all_goals first
   |exact AW.weak (M.W [some 0,some 1,some 2,some 3]) hA
   |(exfalso;simp at h;omega)
   |trace_state
 |n+1,h4=>fun lems tys hyps d k hk hd hc hs=>by
  have H:=Zxr n (by omega)
  have hn:=vb
  by_cases hg:tys.length<10∧hyps.length<10
  case neg=>
   obtain⟨p,d',hm,ok',hA⟩:=Zfx (n+1) lems tys hyps hc hs d hd k
   refine⟨p,d',hm,ok',?_⟩
   refine M.F Tryz.func11 ?_
   repeat'(first|refine M.go ?_|refine M.c2 (hn) ?_|((fail_if_success refine AX.wt U ?_);refine AX.gs U U (fun _=>trivial) (fun h=> ?_) (fun h=> ?_))|((with_reducible refine D.aw ?_);(fail_if_success with_reducible refine D.stopR (id:=3) ?_);(fail_if_success with_reducible refine D.stopS (id:=3) ?_);(fail_if_success with_reducible refine D.stopR (id:=61) ?_);(fail_if_success with_reducible refine D.stopS (id:=61) ?_);first|refine M.ga ?_|refine AW.condS U (fun h=> ?_) (fun h=> ?_))|refine M.gk ?_|fail)
   all_goals first
    |exact AW.weak (M.W [some 0,some 1,some 2,some 3]) hA
    |(exfalso;apply hg;simp at*;omega)
    |trace_state
  obtain⟨g1,g2⟩:=hg
  obtain⟨j,d1,ok1,hj,hx⟩:=mNx d 17 hd (by omega)
  have key:∃(p:Pf) (d':Dk),Made (bdP (n+1)) p∧d'.ok∧AW E Tryz.f11.ntmps 1 (xd [1,1] (wv Tryz.f11)) [(0,.ptr 0 0),(1,.s .fm lems),(3,.i k),(6,.ptr 1 0),(8,.ptr 2 0),(9,.ptr 3 0)] ⟨4,[(0,.var d.cells),(1,.var [.s .ty tys,.s .fm hyps]),(2,.var [.i 0,.i 0,.i 0,.slice .nil (.t .ty []),.slice .nil (.t .tm []),.slice .nil (.t .fm []),.slice .nil (.t .pf [])]),(3,.var natT.view)]⟩ (Zd7 E 1 Tryz.f11.results.toList (.agg p.view) ⟨1,[(0,.var d'.cells)]⟩):=by
   have hk':k=(n:Int)+1:=by omega
   rcases(show j=0∨j=1∨j=2∨j=3∨j=4∨j=5∨j=6∨j=7∨j=8∨j=9∨j=10∨j=11∨j=12∨j=13∨j=14∨j=15∨j=16 by omega) with rfl|rfl|rfl|rfl|rfl|rfl|rfl|rfl|rfl|rfl|rfl|rfl|rfl|rfl|rfl|rfl|rfl
   ·exact Zya n (by omega) H lems tys hyps hc hs g1 g2 d d1 ok1 k hk' hx
   ·exact Yal n (by omega) H lems tys hyps hc hs g1 g2 d d1 ok1 k hk' hx
   ·exact Zz8 n (by omega) H lems tys hyps hc hs g1 g2 d d1 ok1 k hk' hx
   ·exact Zyt n (by omega) H lems tys hyps hc hs g1 g2 d d1 ok1 k hk' hx
   ·exact Zyw n (by omega) H lems tys hyps hc hs g1 g2 d d1 ok1 k hk' hx
   ·exact Zyo n (by omega) H lems tys hyps hc hs g1 g2 d d1 ok1 k hk' hx
   ·exact Zy4 n (by omega) H lems tys hyps hc hs g1 g2 d d1 ok1 k hk' hx
   ·exact Yao n (by omega) H lems tys hyps hc hs g1 g2 d d1 ok1 k hk' hx
   ·obtain ⟨p,d',hm,ok',hA⟩:=Zx9 n (by omega) H lems tys hyps hc hs g1 g2 d1 ok1 k hk'
    refine⟨p,d',hm,ok',?_⟩
    show AW _ _ _ (Code.seq _ _) _ _ _
    repeat'(first|refine M.go ?_|((fail_if_success refine AX.wt U ?_);refine AX.gs U U (fun _=>trivial) (fun h=> ?_) (fun h=> ?_))|((with_reducible refine D.aw ?_);(fail_if_success with_reducible refine D.stopR (id:=3) ?_);(fail_if_success with_reducible refine D.stopS (id:=3) ?_);first|refine M.ga ?_|refine AW.condS U (fun h=> ?_) (fun h=> ?_))|refine M.gk ?_|fail)
    all_goals first
     |(exfalso;simp at h;omega)
     |skip
    repeat'(first|refine M.gw ?_|refine M.cb (hx) [0] 0 ?_|refine M.cb (hA) [0] 0 ?_|((with_reducible refine D.blk ?_);refine AW.block ?_)|fail)
    all_goals first
     |(exact M.n2 [some 0] (h8:=(by simp[zi,V.wk,V.wks,za,Ty.view,Tm.view,Pf.view])))
     |trace_state
   ·exact Yad n (by omega) H lems tys hyps hc hs g1 g2 d d1 ok1 k hk' hx
   ·exact Zwl n (by omega) H lems tys hyps hc hs g1 g2 d d1 ok1 k hk' hx
   ·exact Zvw n (by omega) H lems tys hyps hc hs g1 g2 d d1 ok1 k hk' hx
   ·exact Zwc n (by omega) H lems tys hyps hc hs g1 g2 d d1 ok1 k hk' hx
   ·exact Zvm n (by omega) H lems tys hyps hc hs g1 g2 d d1 ok1 k hk' hx
   ·exact Zv3 n (by omega) H lems tys hyps hc hs g1 g2 d d1 ok1 k hk' hx
   ·exact Zuv n (by omega) H lems tys hyps hc hs g1 g2 d d1 ok1 k hk' hx
   ·obtain ⟨p,d',hm,ok',hA⟩:=Zfx (n+1) lems tys hyps hc hs d1 ok1 k
    refine⟨p,d',hm,ok',?_⟩
    show AW _ _ _ (Code.seq _ _) _ _ _
    repeat'(first|refine M.go ?_|((fail_if_success refine AX.wt U ?_);refine AX.gs U U (fun _=>trivial) (fun h=> ?_) (fun h=> ?_))|((with_reducible refine D.aw ?_);(fail_if_success with_reducible refine D.stopR (id:=3) ?_);(fail_if_success with_reducible refine D.stopS (id:=3) ?_);first|refine M.ga ?_|refine AW.condS U (fun h=> ?_) (fun h=> ?_))|refine M.gk ?_|fail)
    all_goals first
     |(exfalso;simp at h;omega)
     |skip
    repeat'(first|refine M.go ?_|refine M.cb (hx) [0] 0 ?_|((with_reducible refine D.aw ?_);(fail_if_success with_reducible refine D.stopR (id:=61) ?_);(fail_if_success with_reducible refine D.stopS (id:=61) ?_);first|refine M.ga ?_|((with_reducible refine D.blk ?_);refine AW.block ?_))|refine M.gk ?_|fail)
    all_goals first
     |exact AW.weak (M.W [some 0,some 1,some 2,some 3]) hA
     |trace_state
  obtain⟨p,d',hm,ok',hA⟩:=key
  refine⟨p,d',hm,ok',?_⟩
  refine M.F Tryz.func11 ?_
  repeat'(first|refine M.go ?_|refine M.c2 (hn) ?_|((with_reducible refine D.aw ?_);(fail_if_success with_reducible refine D.stopR (id:=2) ?_);(fail_if_success with_reducible refine D.stopS (id:=2) ?_);first|refine M.ga ?_)|refine M.gk ?_|fail)
  exact AW.weak (M.W [some 0,some 1,some 2,some 3]) hA
theorem Zui:PC E 30 [] (.agg falseF.view):=by
 have h1:=n_c 4 [] (by simp)
 have h2:=n_c 5 [.mk 4 0 (.mk 0 []) []] (by simp[Tm.full,Tm.fulls,Ty.size,Ty.sizes])
 have h3:=Zb5 (.mk 4 0 (.mk 0 []) []) (.mk 5 0 (.mk 0 []) [.mk 4 0 (.mk 0 []) []]) (by simp[Tm.full,Tm.fulls,Ty.size,Ty.sizes]) (by simp[Tm.full,Tm.fulls,Ty.size,Ty.sizes])
 refine M.F Tryz.func30 ?_
 repeat'(first|refine M.gw ?_|refine M.c2 (h1) ?_|refine M.c2 (h2) ?_|refine M.c2 (h3) ?_|fail)
 rfl
theorem Zt5(p:Pf):PC E 15 [.agg p.view] (.i (p.cn 20000)):=by
 have h:=Yah _ p 20000 (Nat.le_refl _) (by omega)
 refine M.F Tryz.func15 ?_
 repeat'(first|refine M.gw ?_|refine M.c2 (h) ?_|fail)
 rfl
def exI(i:Int):Pf:= .mk 6 0 (.mk 0 []) [] [falseF] [va i]
theorem Zxq(i:Int)(h:0≤i∧i<9223372036854775808):(exI i).hx 9223372036854775808:=(Pf.hx_iff _ _).2 ⟨fun h=>absurd h (show ¬(6:Int)=1 by decide),fun _ x hx=>by
 obtain rfl:x=va i:=List.mem_singleton.1 hx
 exact Ych h⟩
theorem Zve:PC E 6 [] (.bool true):=by
 have h0:=Zne 0
 have h3:=Zne 3
 have i0:=Zft falseF (va 0) (by decide) (by decide)
 have i3:=Zft falseF (va 3) (by decide) (by decide)
 have p0:=Zir (exI 0) (by decide) (fun _=>Zxq _ (by omega))
 have p3:=Zir (exI 3) (by decide) (fun _=>Zxq _ (by omega))
 rw[show(if(exI 0).err=0 then Zdp (exI 0) else [])=[] by decide+kernel,show(exI 0).err=0 by decide+kernel] at p0
 rw[show(if(exI 3).err=0 then Zdp (exI 3) else [])=[2] by decide+kernel,show(exI 3).err=0 by decide+kernel] at p3
 unfold exI at p0 p3
 refine M.F Tryz.func6 ?_
 repeat'(first|refine M.gw ?_|refine M.c2 (Zui) ?_|refine M.c2 (h0) ?_|refine M.c2 (h3) ?_|refine M.c2 (i0) ?_|refine M.c2 (i3) ?_|refine M.c2 (p0) ?_|refine M.c2 (p3) ?_|fail)
 rfl
theorem mTmK(n:Nat)(hn:n≤5)(hn1:2≤n)(k:Int)(hk:k+2=n)(d:Dk)(g:List Ty)(s:Ty)(hd:d.ok)(hg:smalls g)(hs:s.small)(hl:g.length≤16):∃(t:Tm) (d':Dk),d'.ok∧t.err=0∧t.near=true∧t.inf g=(s,0)∧
 AC E 13 [.ptr 0 0,.s .ty g,.agg s.view,.i k] ⟨1,[(0,.var d.cells)]⟩ (.agg t.view) ⟨1,[(0,.var d'.cells)]⟩:=by
 have hm:=Dk.tm_mk n d g s hg hs (by omega) (by omega)
 exact⟨_,_,Dk.tm_ok n d g s hd,hm.err hg hs (by omega),hm.near hg hs hn (by omega),hm.inf hg hs,Zex n (by omega) d g s k (by omega) hd hg hs (by omega) (by omega) (by omega)⟩
theorem Yen(d:Dk):(Ck.mk d.lm.1 d.lm.2.ctx.1 d.lm.2.sqH).ok:=by
 have h:=d.lm.2.sqC_ok
 exact⟨h.ctx,h.nh,by have:=d.lm_len;simp only;omega,h.hyps,fun f hf=>Dk.fms_good _ _ _ zj f hf⟩
theorem Yc1(p:Pf)(a:Int)(t:Tm)(hp:p.full≤400000000)(ht:t.full<274877906944):PC E 12 [.agg p.view,.i a,.agg t.view] (.tup [.agg (Zqc p a t).view,.i (Zbu p a t)]):=Yb5 p a t (by omega) ht
theorem Zoi(l:List Int)(hl:l.length<1099511627776):PC E 18 [.s .int l,.s .int l] (.bool true):=by
 refine M.F Tryz.func18 ?_
 repeat'(first|refine M.gw ?_|refine AW.condS U (fun h=> ?_) (fun h=> ?_)|fail)
 all_goals first
  |(exfalso;simp at h;done)
  |skip
 refine AW.range l.length (fun m=>True) (fun m=>([(0,.s .int l),(1,.s .int l),(11,.s .int l),(12,.i l.length),(13,.i m)],⟨0,[]⟩))
  (by omega) (fun m=>rfl) (fun m=>rfl) rfl trivial (M.W []) ?_ ?_
 ·intro m hm _
  repeat'(first|refine M.gw ?_|refine AW.condS U (fun h=> ?_) (fun h=> ?_)|fail)
  ·exfalso;simp at h
  ·exact ⟨rfl,trivial,(M.W [])⟩
 ·intro _
  repeat'(first|refine M.gw ?_|fail)
  rfl
theorem Zlj(l:List Int)(a:Int)(ha:0≤a∧a<256):PC E 3 [.s .int l,.int .u8 a] (.bool true):=by
 have hsane:=Zve
 have hfew:=Yfc l
 by_cases hl:l.length≤500
 case neg=>
  rw[decide_eq_false hl] at hfew
  refine M.F Tryz.func3 ?_
  repeat'(first|refine M.gw ?_|refine M.c2 (hsane) ?_|refine M.c2 (hfew) ?_|fail)
  rfl
 rw[decide_eq_true hl] at hfew
 have hnew:=Ye0 l
 have hd:(Dk.mk l 0).ok:=⟨Nat.zero_le _,by simp only;omega⟩
 obtain⟨d,hde⟩:∃d,d=Dk.mk l 0:=⟨_,rfl⟩
 rw[←hde] at hnew hd
 have hlm:=Zws d hd
 have hsq:=Yau d.lm.2 (Dk.lm_ok hd)
 have hd2:=Dk.sqD_ok (Dk.lm_ok hd)
 have hc:=Yen d
 have hg:=d.lm.2.ctx_smalls
 have hgl:=d.lm.2.ctx_len
 generalize d.lm.2.sqD=d2 at*
 generalize d.lm.2.sqH=hyps at*
 generalize d.lm.2.ctx.1=tys at*
 generalize d.lm.1=lems at*
 generalize d.lm.2=d1 at*
 obtain⟨p,d3,hp,ok3,hA⟩:=Zxr 3 (by omega) lems tys hyps d2 3 rfl hd2 hc hg
 obtain⟨s,d5,ok5,hs,hT⟩:=Yaw d3 ok3
 obtain⟨t,d6,ok6,te,tn,ti,hU⟩:=mTmK 3 (by omega) (by omega) 1 (by omega) d5 [] s ok5 zj hs (by simp)
 have b3:bdP 3=108000000:=by decide
 have ft:=z8 te
 have fp:=hp.full
 have hm4:0≤a.tmod 4∧a.tmod 4<4:=⟨Int.tmod_nonneg 4 ha.1,Int.tmod_lt_of_pos a (by omega)⟩
 have hK:=Yd7 (a:=a.tmod 4) hp (by omega) te tn
 have c1:=Yc1 p (a.tmod 4) t (by omega) (by omega)
 have c2:=Zt5 p
 have hcn:=p.cn_bd 20000
 by_cases h4:Zbu p (a.tmod 4) t=4
 ·rw [h4] at c1
  generalize Zqc p (a.tmod 4) t=X at*
  clear hK
  refine M.F Tryz.func3 ?_
  repeat'(first|refine M.gw ?_|refine M.c2 (hsane) ?_|refine M.c2 (hfew) ?_|refine M.cb (hnew) [] 1 ?_|refine M.cb (hlm) [0] 0 ?_|refine M.cb (hsq) [0] 0 ?_|refine M.cb (hA) [0] 0 ?_|refine M.cb (hT) [0] 0 ?_|refine M.cb (hU) [0] 0 ?_|refine M.c2 (c1) ?_|fail)
  rfl
 obtain⟨pe,e0,xe,e1,e2,e3,e4⟩:=hK.resolve_left h4
 rw[e0] at c1
 have xf:=Zks xe
 have q1:=Zir p (by omega) (fun _=>Zsi hp.hx (by omega))
 have q2:=Zir (Zqc p (a.tmod 4) t) (by omega) (fun _=>Zsi e3 (by omega))
 have q3:=Zkl p (by omega) (fun _=>Zsa hp.lx (by omega))
 have q4:=Zkl (Zqc p (a.tmod 4) t) (by omega) (fun _=>Zsa e4 (by omega))
 rw[if_pos pe,pe] at q1 q3
 rw[if_pos xe,xe,e1] at q2
 rw[if_pos xe,xe,e2] at q4
 have i1:=Zoi (Zdp p) (Zwa p (by omega))
 have i2:=Zoi (Ze6 p) (Zv0 p (by omega))
 generalize Zqc p (a.tmod 4) t=X at*
 by_cases hbig:p.cn 20000>5000
 ·refine M.F Tryz.func3 ?_
  repeat'(first|refine M.gw ?_|refine M.c2 (hsane) ?_|refine M.c2 (hfew) ?_|refine M.cb (hnew) [] 1 ?_|refine M.cb (hlm) [0] 0 ?_|refine M.cb (hsq) [0] 0 ?_|refine M.cb (hA) [0] 0 ?_|refine M.cb (hT) [0] 0 ?_|refine M.cb (hU) [0] 0 ?_|refine M.c2 (c1) ?_|refine M.c2 (c2) ?_|refine AW.condS U (fun h=> ?_) (fun h=> ?_)|fail)
  all_goals first
   |rfl
   |(exfalso;simp at h;omega)
   |trace_state
 have hfl:p.full≤5000:=by have:=hcn.2.2 (by omega);omega
 have hsf:=p.size_le_full
 obtain⟨t1,t2⟩:=Ydr pe (by omega)
 have z1:=Zmh p (by omega)
 have z2:=Zmh (Zxa p p) (by have:=Zks t1;omega)
 have n1:p.num=p.size:=by unfold Pf.num;rw[if_pos pe]
 have n2:(Zxa p p).num=2*(p.size:Int)+1:=by unfold Pf.num;rw[if_pos t1,t2];omega
 rw[n1,pe] at z1
 rw[n2,t1] at z2
 have r1:=uy 3 [p,p] (by simp) (by intro x hx;simp only[List.mem_cons,List.not_mem_nil,or_false] at hx;rcases hx with rfl|rfl<;>omega)
 unfold Zxa at z2
 generalize Zdp p=hys at*
 generalize Ze6 p=lms at*
 refine M.F Tryz.func3 ?_
 repeat'(first|refine M.gw ?_|refine M.c2 (hsane) ?_|refine M.c2 (hfew) ?_|refine M.cb (hnew) [] 1 ?_|refine M.cb (hlm) [0] 0 ?_|refine M.cb (hsq) [0] 0 ?_|refine M.cb (hA) [0] 0 ?_|refine M.cb (hT) [0] 0 ?_|refine M.cb (hU) [0] 0 ?_|refine M.c2 (c1) ?_|refine M.c2 (c2) ?_|refine M.c2 (q1) ?_|refine M.c2 (q2) ?_|refine M.c2 (q3) ?_|refine M.c2 (q4) ?_|refine M.c2 (i1) ?_|refine M.c2 (i2) ?_|refine M.c2 (z1) ?_|refine M.c2 (r1) ?_|refine M.c2 (z2) ?_|refine AW.condS U (fun h=> ?_) (fun h=> ?_)|fail)
 all_goals first
  |rfl
  |(simp[zi,V.wk];done)
  |(exfalso;simp at h;omega)
  |trace_state
end Go.Ab
