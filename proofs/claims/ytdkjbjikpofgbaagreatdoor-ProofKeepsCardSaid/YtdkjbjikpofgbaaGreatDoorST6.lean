/- A part of the proofs of this seat's statements: S127. It has no conditions of its own. -/
import Derived.Test.YtdkjbjikpofgbaaGreatDoorA2
import Derived.Test.YtdkjbjikpofgbaaGreatDoorST5
import Derived.Test.YtdkjbjikpofgbaaGreatDoorST2
import Derived.Test.YtdkjbjikpofgbaaGreatDoorST3
import Derived.Test.YtdkjbjikpofgbaaGreatDoorDT1
namespace Go.Ab
open Go Go.Proofs
set_option maxRecDepth 100000
set_option maxHeartbeats 4000000
set_option linter.all false
def bdP(n:Nat):Nat:=4000000*3^n
theorem Zng:∀n:Nat,1≤3^n
 |0=>by decide
 |n+1=>by rw[Nat.pow_succ];have:=Zng n;omega
theorem xw(n:Nat):4000000≤bdP n:=by unfold bdP;have:=Zng n;omega
theorem y7(n:Nat):bdP (n+1)=3*bdP n:=by unfold bdP;rw[Nat.pow_succ];omega
theorem ue{n:Nat}(h:n≤4):bdP n≤400000000:=by unfold bdP;have:3^n≤3^4:=Nat.pow_le_pow_right (by omega) h;omega
theorem Zk4(f:Fm)(fr by_:Int):(f.lft fr by_).full≤f.full:=Fm.re_fle (fun b t=>Tm.re_fle (fun i c=>by simp[zq,Tm.full,Tm.fulls,Ty.size,Ty.sizes]) t 0) f 0
theorem mTm(d:Dk)(g:List Ty)(s:Ty)(hd:d.ok)(hg:smalls g)(hs:s.small)(hl:g.length≤16):∃(t:Tm) (d':Dk),d'.ok∧t.err=0∧t.inf g=(s,0)∧
 AC E 13 [.ptr 0 0,.s .ty g,.agg s.view,.i 1] ⟨1,[(0,.var d.cells)]⟩ (.agg t.view) ⟨1,[(0,.var d'.cells)]⟩:=by
 have hm:=Dk.tm_mk 3 d g s hg hs (by omega) (by omega)
 exact⟨_,_,Dk.tm_ok 3 d g s hd,hm.err hg hs (by omega),hm.inf hg hs,Zex 3 (by omega) d g s 1 (by omega) hd hg hs (by omega) (by omega) (by omega)⟩
theorem mTmN(d:Dk)(g:List Ty)(hd:d.ok)(hg:smalls g)(hl:g.length≤16):∃(t:Tm) (d':Dk),d'.ok∧t.err=0∧t.size≤60∧t.inf g=(natT,0)∧
 AC E 13 [.ptr 0 0,.s .ty g,.agg natT.view,.i 1] ⟨1,[(0,.var d.cells)]⟩ (.agg t.view) ⟨1,[(0,.var d'.cells)]⟩:=
 ⟨_,_,Dk.tm_ok 3 d g natT hd,(un d hg).1.err,(un d hg).2,(un d hg).1.inf,Zex 3 (by omega) d g natT 1 (by omega) hd hg ze (by omega) (by omega) (by omega)⟩
theorem Zxm(f:Fm)(h1:f.shape=true)(h2:(f.tms 0).all (fun q=>(q.1.vars 0).all fun r=>decide (0≤r.1∧r.1<10000))=true)(h3:f.full≤300000):FmI f:=
 ⟨h1,fun q hq r hr=>by simpa using List.all_eq_true.1 (List.all_eq_true.1 h2 q hq) r hr,h3⟩
theorem Yaw(d:Dk)(hd:d.ok):∃(s:Ty) (d':Dk),d'.ok∧s.small∧AC E 14 [.ptr 0 0,.i 1] ⟨1,[(0,.var d.cells)]⟩ (.agg s.view) ⟨1,[(0,.var d'.cells)]⟩:=
 ⟨_,_,Dk.type_ok 1 d hd,d.type1,Zhm 1 1 d (by omega) (by omega) (by omega) hd⟩
theorem mTy0(d:Dk)(hd:d.ok):∃(s:Ty) (d':Dk),d'.ok∧s.small∧AC E 14 [.ptr 0 0,.i 0] ⟨1,[(0,.var d.cells)]⟩ (.agg s.view) ⟨1,[(0,.var d'.cells)]⟩:=
 ⟨_,_,Dk.type_ok 0 d hd,⟨d.type0.1,by rw[d.type0.2];omega⟩,Zhm 0 0 d (by omega) (by omega) (by omega) hd⟩
theorem mNx(d:Dk)(n:Int)(hd:d.ok)(hn:0<n∧n<1099511627776):∃(i:Int) (d':Dk),d'.ok∧(0≤i∧i<n)∧AC E 32 [.ptr 0 0,.i n] ⟨1,[(0,.var d.cells)]⟩ (.i i) ⟨1,[(0,.var d'.cells)]⟩:=
 ⟨_,_,Dk.next_ok hd n,Dk.next_bd d n hn.1,ud d n hd hn.2⟩
theorem mFm1(d:Dk)(g:List Ty)(hd:d.ok)(hg:smalls g)(hl:g.length≤16):∃(f:Fm) (d':Dk),d'.ok∧f.err=0∧f.okT g∧
 AC E 33 [.ptr 0 0,.s .ty g,.i 1] ⟨1,[(0,.var d.cells)]⟩ (.agg f.view) ⟨1,[(0,.var d'.cells)]⟩:=by
 have gf:=Dk.fm_good 1 d g hg
 have h:(Dk.fm 1 d g).1.err=0:=(Fm.err_iff _).2 ⟨gf.1,by have:=gf.2.1;omega⟩
 exact⟨_,_,Dk.fm_ok 1 d g hd,h,Dk.fm_okT 1 d g hg,Zs2 1 d g 1 (by omega) rfl hd hg (by omega)⟩
theorem Ydz{lems:List Fm}{tys:List Ty}{hyps:List Fm}(hc:(Ck.mk lems tys hyps).ok)(hs:smalls tys){n:Nat}{p:Pf}(hp:Made n p)(hn:n≤1000000000):∃(x:Fm) (us:List Int) (e:Int),(e=0→x.err=0∧x.okT tys)∧
 PC E 37 [.s .fm lems,.agg [.s .ty tys,.s .fm hyps],.agg p.view] (Zj0 x us e):=by
 have hf:=hp.full
 have h0:=hc.sum
 have h:=Zwt lems hyps tys p (fun f hf=>by have:=yr (hc.lems f hf).1;omega) (fun f hf=>by have:=yr (hc.hyps f hf).1;omega) (by simp only at h0;omega) (by have:=hc.nl;simp only at this;omega) (by have:=hc.nh;simp only at this;omega) (by omega)
 refine⟨_,_,_,fun he=> ?_,h⟩
 unfold Ze5 at he ⊢
 rw[if_neg (by rw[show Zur lems tys hyps=0 from Zy9 hc];simp)] at he ⊢
 by_cases h1:p.err≠0
 ·rw [if_pos h1] at he
  exact absurd he h1
 ·rw [if_neg h1] at he ⊢
  have h2:=((Zil p hp.shape) _ hc).1 he
  exact⟨h2.1,h2.2.1⟩
theorem FmI.size{g:List Ty}{f:Fm}(hs:f.shape=true)(hz:f.size≤4500)(ho:f.okT g)(hg:g.length≤20):FmI f:=by
 have h1:=Zak f hs
 refine⟨hs,fun q hq r hr=> ?_,by omega⟩
 have:=Ztb f g 0 hs ho q hq r hr
 omega
theorem Zeb{f:Fm}(hf:f.err=0):(f.lft 0 1).shape=true∧(f.lft 0 1).size≤4096:=(Fm.err_iff _).1 (Zf4 hf (by omega))
theorem Ziq{f:Fm}{g:List Ty}(hf:f.err=0)(ho:f.okT g)(s:Ty):(f.lft 0 1).okT (g++[s]):=by
 have h:=Zbf (g:=g) (h:=[]) [s] ((Fm.err_iff f).1 hf).1 (by simpa using ho)
 simpa using h
theorem quI{f:Fm}{g:List Ty}{k:Int}{s:Ty}(hk:k=5∨k=7)(hs:s.small)(h1:f.shape=true)(h2:f.size≤4400)(ho:f.okT (g++[s]))(hg:g.length≤16):FmI (quF k s f):=by
 have he:=we hs
 have hq:=Gf.qu (g:=g) k (by omega) he ⟨h1,h2,ho⟩
 exact FmI.size hq.sh (by have:=hq.sz;omega) hq.ok (by omega)
theorem lftI{f:Fm}{g:List Ty}(hf:f.err=0)(ho:f.okT g)(s:Ty)(hg:g.length≤16):FmI (f.lft 0 1):=
 FmI.of (g:=g++[s]) (Zf4 hf (by omega)) (Ziq hf ho s) (by simp;omega)
theorem Zxt{t:Tm}{g:List Ty}(he:t.err=0)(hi:t.inf g=(natT,0)):(t.re (zq 0 1) 0).inf (g++[natT])=(natT,0)∧(t.re (zq 0 1) 0).shape=true∧(t.re (zq 0 1) 0).size=t.size:=by
 have hs:=(Tm.err_iff t).1 he
 have h1:=Ziq (f:=eqF t t) (g:=g)
 have h2:=Zbf (f:=eqF t t) (g:=g) (h:=[]) [natT] (ux hs.1 hs.1) (by simpa using eq_okT.2 ⟨hi,hi⟩)
 have e:(eqF t t).lft ([]:List Ty).length [natT].length=eqF (t.re (zq 0 1) 0) (t.re (zq 0 1) 0):=rfl
 rw[e] at h2
 have h3:=(eq_okT.1 h2).1
 refine⟨by simpa using h3,?_,?_⟩
 ·exact Zel 0 hs.1 (by omega)
 ·exact Zge 0 1 t 0 hs.1
theorem Zqm{t:Tm}{g:List Ty}(he:t.err=0)(hi:t.inf g=(natT,0))(hz:t.size≤2000):(eqF (t.re (zq 0 1) 0) (vT 0)).err=0∧(eqF (t.re (zq 0 1) 0) (vT 0)).okT (g++[natT]):=by
 obtain⟨h1,h2,h3⟩:=Zxt he hi
 exact⟨(Fm.err_iff _).2 ⟨ux h2 (Zd3 0 (by omega)),by rw[Zba,h3];have h9:=(show(vT 0).size=1 by decide);omega⟩,eq_okT.2 ⟨h1,Zxv g natT⟩⟩
def MkP(n:Nat):Prop:=∀(lems:List Fm) (tys:List Ty) (hyps:List Fm) (d:Dk) (k:Int),k=n→d.ok→(Ck.mk lems tys hyps).ok→smalls tys→
 ∃(p:Pf) (d':Dk),Made (bdP n) p∧d'.ok∧AC E 11 [.ptr 0 0,.s .fm lems,.agg [.s .ty tys,.s .fm hyps],.i k] ⟨1,[(0,.var d.cells)]⟩ (.agg p.view) ⟨1,[(0,.var d'.cells)]⟩
theorem vz{lems:List Fm}{tys:List Ty}{hyps:List Fm}(hc:(Ck.mk lems tys hyps).ok):tys.length≤16∧hyps.length≤16∧lems.length≤32:=⟨hc.len,hc.nh,hc.nl⟩
theorem Zfx(n:Nat)(lems:List Fm)(tys:List Ty)(hyps:List Fm)(hc:(Ck.mk lems tys hyps).ok)(hs:smalls tys)(d:Dk)(hd:d.ok)(k:Int):
 ∃(p:Pf) (d':Dk),Made (bdP n) p∧d'.ok∧AW E Tryz.f11.ntmps 1 (xd [1,1,1] (wv Tryz.f11)) [(0,.ptr 0 0),(1,.s .fm lems),(3,.i k),(6,.ptr 1 0),(8,.ptr 2 0),(9,.ptr 3 0)] ⟨4,[(0,.var d.cells),(1,.var [.s .ty tys,.s .fm hyps]),(2,.var [.i 0,.i 0,.i 0,.slice .nil (.t .ty []),.slice .nil (.t .tm []),.slice .nil (.t .fm []),.slice .nil (.t .pf [])]),(3,.var natT.view)]⟩ (Zd7 E 1 Tryz.f11.results.toList (.agg p.view) ⟨1,[(0,.var d'.cells)]⟩):=by
 have hb:=xw n
 have hl:=vz hc
 obtain⟨j,d1,ok1,hj,h1⟩:=mNx d 4 hd (by omega)
 obtain⟨t,d2,ok2,et,it,h2⟩:=mTm d1 tys natT ok1 hs ze hl.1
 have ti:=TmI.of et it (by omega)
 have h3:=vh t (by have:=ti.2.2;omega)
 by_cases a1:j=0∧0<hyps.length
 ·obtain ⟨rfl,a2⟩:=a1
  obtain⟨i,d3,ok3,hi,h4⟩:=mNx d1 hyps.length ok1 (by omega)
  have h5:=Zb0 i
  refine⟨va i,d3,(Made.hyp (by omega)).up (by omega),ok3,?_⟩
  show AW _ _ _ (Code.seq _ _) _ _ _
  repeat'(first|refine M.gw ?_|refine M.cb (h1) [0] 0 ?_|refine M.cb (h4) [0] 0 ?_|refine M.c2 (h5) ?_|((with_reducible refine D.blk ?_);refine AW.block ?_)|refine AW.condS U (fun h=> ?_) (fun h=> ?_)|fail)
  all_goals first
   |(exfalso;simp_all;done)
   |(exact M.n2 [some 0] (h8:=(by simp[zi,V.wk,V.wks,za,Ty.view,Tm.view,Pf.view])))
   |trace_state
 by_cases a3:j=1∧0<lems.length
 ·obtain ⟨rfl,a2⟩:=a3
  obtain⟨i,d3,ok3,hi,h4⟩:=mNx d1 lems.length ok1 (by omega)
  refine⟨.mk 2 i (.mk 0 []) [] [] [],d3,(Made.lem (by omega)).up (by omega),ok3,?_⟩
  show AW _ _ _ (Code.seq _ _) _ _ _
  repeat'(first|refine M.gw ?_|refine M.cb (h1) [0] 0 ?_|refine M.cb (h4) [0] 0 ?_|((with_reducible refine D.blk ?_);refine AW.block ?_)|refine AW.condS U (fun h=> ?_) (fun h=> ?_)|fail)
  all_goals first
   |(exfalso;simp_all;done)
   |(exact M.n2 [some 0] (h8:=(by simp[zi,V.wk,V.wks,za,Ty.view,Tm.view,Pf.view])))
   |trace_state
 refine⟨.mk 18 0 (.mk 0 []) [t] [] [],d2,(Made.ref ti).up (by omega),ok2,?_⟩
 have q3:natT.size=1:=rfl
 show AW _ _ _ (Code.seq _ _) _ _ _
 rcases(show j=0∨j=1∨(j≠0∧j≠1) by omega) with rfl|rfl|hj2
 ·have a4:hyps.length=0:=by omega
  obtain rfl:=List.eq_nil_of_length_eq_zero a4
  repeat'(first|refine M.gw ?_|refine M.cb (h1) [0] 0 ?_|refine M.cb (h2) [0] 0 ?_|refine M.c2 (h3) ?_|((with_reducible refine D.blk ?_);refine AW.block ?_)|fail)
  all_goals first
   |(exfalso;simp at h;done)
   |(exact M.n2 [some 0] (h8:=(by simp[zi,V.wk,V.wks,za,Ty.view,Tm.view,Pf.view])))
   |trace_state
 ·have a4:lems.length=0:=by omega
  obtain rfl:=List.eq_nil_of_length_eq_zero a4
  repeat'(first|refine M.gw ?_|refine M.cb (h1) [0] 0 ?_|refine M.cb (h2) [0] 0 ?_|refine M.c2 (h3) ?_|((with_reducible refine D.blk ?_);refine AW.block ?_)|fail)
  all_goals first
   |(exfalso;simp at h;done)
   |(exact M.n2 [some 0] (h8:=(by simp[zi,V.wk,V.wks,za,Ty.view,Tm.view,Pf.view])))
   |trace_state
 ·repeat' (first|refine M.gw ?_|refine M.cb (h1) [0] 0 ?_|refine M.cb (h2) [0] 0 ?_|refine M.c2 (h3) ?_|((with_reducible refine D.blk ?_);refine AW.block ?_)|refine AW.condS U (fun h=> ?_) (fun h=> ?_)|fail)
  all_goals first
   |(exfalso;simp at h;omega)
   |(exfalso;simp_all;done)
   |(exact M.n2 [some 0] (h8:=(by simp[zi,V.wk,V.wks,za,Ty.view,Tm.view,Pf.view])))
   |trace_state
theorem Zya(n:Nat)(hn:n≤3)(H:MkP n)(lems:List Fm)(tys:List Ty)(hyps:List Fm)(hc:(Ck.mk lems tys hyps).ok)(hs:smalls tys)(ht:tys.length<10)(hh:hyps.length<10)(d d1:Dk)(ok1:d1.ok)(k:Int)(hk:k=(n:Int)+1)
 (hx:AC E 32 [.ptr 0 0,.i 17] ⟨1,[(0,.var d.cells)]⟩ (.i 0) ⟨1,[(0,.var d1.cells)]⟩):
 ∃(p:Pf) (d':Dk),Made (bdP (n+1)) p∧d'.ok∧AW E Tryz.f11.ntmps 1 (xd [1,1] (wv Tryz.f11)) [(0,.ptr 0 0),(1,.s .fm lems),(3,.i k),(6,.ptr 1 0),(8,.ptr 2 0),(9,.ptr 3 0)] ⟨4,[(0,.var d.cells),(1,.var [.s .ty tys,.s .fm hyps]),(2,.var [.i 0,.i 0,.i 0,.slice .nil (.t .ty []),.slice .nil (.t .tm []),.slice .nil (.t .fm []),.slice .nil (.t .pf [])]),(3,.var natT.view)]⟩ (Zd7 E 1 Tryz.f11.results.toList (.agg p.view) ⟨1,[(0,.var d'.cells)]⟩):=by
 have hb:=xw n
 have hbs:=y7 n
 have hbl:=ue (show n≤4 by omega)
 have hl:=vz hc
 obtain⟨p1,d2,m1,ok2,hp1⟩:=H lems tys hyps d1 (k-1) (by omega) ok1 hc hs
 have fp1:=m1.full
 obtain⟨p2,d3,m2,ok3,hp2⟩:=H lems tys hyps d2 (k-1) (by omega) ok2 hc hs
 have fp2:=m2.full
 have hP:=uy 3 [p1,p2] (by simp) (Zcq (by omega) (by omega))
 refine⟨_,d3,(Made.two (k:=3) (by omega) m1 m2).up (by omega),ok3,?_⟩
 show AW _ _ _ (Code.seq _ _) _ _ _
 repeat'(first|refine M.go ?_|((fail_if_success refine AX.wt U ?_);refine AX.gs U U (fun _=>trivial) (fun h=> ?_) (fun h=> ?_))|((with_reducible refine D.aw ?_);(fail_if_success with_reducible refine D.stopR (id:=3) ?_);(fail_if_success with_reducible refine D.stopS (id:=3) ?_);first|refine M.ga ?_|refine AW.condS U (fun h=> ?_) (fun h=> ?_))|refine M.gk ?_|fail)
 all_goals first
  |(exfalso;simp at h;omega)
  |skip
 repeat'(first|refine M.gw ?_|refine M.cb (hx) [0] 0 ?_|refine M.cb (hp1) [0] 0 ?_|refine M.cb (hp2) [0] 0 ?_|refine M.c2 (hP) ?_|((with_reducible refine D.blk ?_);refine AW.block ?_)|fail)
 all_goals first
  |(exact M.n2 [some 0] (h8:=(by simp[zi,V.wk,V.wks,za,Ty.view,Tm.view,Pf.view])))
  |trace_state
theorem Yal(n:Nat)(hn:n≤3)(H:MkP n)(lems:List Fm)(tys:List Ty)(hyps:List Fm)(hc:(Ck.mk lems tys hyps).ok)(hs:smalls tys)(ht:tys.length<10)(hh:hyps.length<10)(d d1:Dk)(ok1:d1.ok)(k:Int)(hk:k=(n:Int)+1)
 (hx:AC E 32 [.ptr 0 0,.i 17] ⟨1,[(0,.var d.cells)]⟩ (.i 1) ⟨1,[(0,.var d1.cells)]⟩):
 ∃(p:Pf) (d':Dk),Made (bdP (n+1)) p∧d'.ok∧AW E Tryz.f11.ntmps 1 (xd [1,1] (wv Tryz.f11)) [(0,.ptr 0 0),(1,.s .fm lems),(3,.i k),(6,.ptr 1 0),(8,.ptr 2 0),(9,.ptr 3 0)] ⟨4,[(0,.var d.cells),(1,.var [.s .ty tys,.s .fm hyps]),(2,.var [.i 0,.i 0,.i 0,.slice .nil (.t .ty []),.slice .nil (.t .tm []),.slice .nil (.t .fm []),.slice .nil (.t .pf [])]),(3,.var natT.view)]⟩ (Zd7 E 1 Tryz.f11.results.toList (.agg p.view) ⟨1,[(0,.var d'.cells)]⟩):=by
 have hb:=xw n
 have hbs:=y7 n
 have hbl:=ue (show n≤4 by omega)
 have hl:=vz hc
 obtain⟨i,d4,ok4,hi,h4⟩:=mNx d1 2 ok1 (by omega)
 obtain⟨p1,d2,m1,ok2,hp1⟩:=H lems tys hyps d4 (k-1) (by omega) ok4 hc hs
 have fp1:=m1.full
 obtain⟨p2,d3,m2,ok3,hp2⟩:=H lems tys hyps d2 (k-1) (by omega) ok2 hc hs
 have fp2:=m2.full
 have hP:=uy 3 [p1,p2] (by simp) (Zcq (by omega) (by omega))
 have hm:=Made.two (k:=3) (by omega) m1 m2
 have fm:=hm.full
 have hP2:=uy (4+i) [.mk 3 0 (.mk 0 []) [] [] [p1,p2]] (by simp) (wh (by omega))
 refine⟨_,d3,(Made.one (k:=4+i) (by omega) hm).up (by omega),ok3,?_⟩
 show AW _ _ _ (Code.seq _ _) _ _ _
 repeat'(first|refine M.go ?_|((fail_if_success refine AX.wt U ?_);refine AX.gs U U (fun _=>trivial) (fun h=> ?_) (fun h=> ?_))|((with_reducible refine D.aw ?_);(fail_if_success with_reducible refine D.stopR (id:=3) ?_);(fail_if_success with_reducible refine D.stopS (id:=3) ?_);first|refine M.ga ?_|refine AW.condS U (fun h=> ?_) (fun h=> ?_))|refine M.gk ?_|fail)
 all_goals first
  |(exfalso;simp at h;omega)
  |skip
 repeat'(first|refine M.gw ?_|refine M.cb (hx) [0] 0 ?_|refine M.cb (h4) [0] 0 ?_|refine M.cb (hp1) [0] 0 ?_|refine M.cb (hp2) [0] 0 ?_|refine M.c2 (hP) ?_|refine M.c2 (hP2) ?_|((with_reducible refine D.blk ?_);refine AW.block ?_)|fail)
 all_goals first
  |(exact M.n2 [some 0] (h8:=(by simp[zi,V.wk,V.wks,za,Ty.view,Tm.view,Pf.view])))
  |trace_state
theorem Zz8(n:Nat)(hn:n≤3)(H:MkP n)(lems:List Fm)(tys:List Ty)(hyps:List Fm)(hc:(Ck.mk lems tys hyps).ok)(hs:smalls tys)(ht:tys.length<10)(hh:hyps.length<10)(d d1:Dk)(ok1:d1.ok)(k:Int)(hk:k=(n:Int)+1)
 (hx:AC E 32 [.ptr 0 0,.i 17] ⟨1,[(0,.var d.cells)]⟩ (.i 2) ⟨1,[(0,.var d1.cells)]⟩):
 ∃(p:Pf) (d':Dk),Made (bdP (n+1)) p∧d'.ok∧AW E Tryz.f11.ntmps 1 (xd [1,1] (wv Tryz.f11)) [(0,.ptr 0 0),(1,.s .fm lems),(3,.i k),(6,.ptr 1 0),(8,.ptr 2 0),(9,.ptr 3 0)] ⟨4,[(0,.var d.cells),(1,.var [.s .ty tys,.s .fm hyps]),(2,.var [.i 0,.i 0,.i 0,.slice .nil (.t .ty []),.slice .nil (.t .tm []),.slice .nil (.t .fm []),.slice .nil (.t .pf [])]),(3,.var natT.view)]⟩ (Zd7 E 1 Tryz.f11.results.toList (.agg p.view) ⟨1,[(0,.var d'.cells)]⟩):=by
 have hb:=xw n
 have hbs:=y7 n
 have hbl:=ue (show n≤4 by omega)
 have hl:=vz hc
 obtain⟨f,d4,ok4,ef,of_,h4⟩:=mFm1 d1 tys ok1 hs hl.1
 have ff:=yr ef
 have hw:=Zij tys hyps f (by omega)
 obtain⟨p1,d2,m1,ok2,hp1⟩:=H lems tys (hyps++[f]) d4 (k-1) (by omega) ok4 (hc.with_ (by simp only;omega) ef of_) hs
 have fp1:=m1.full
 have hI:=Zft f p1 (by omega) (by omega)
 refine⟨_,d2,(Made.imp (FmI.of ef of_ (by omega)) m1).up (by omega),ok2,?_⟩
 show AW _ _ _ (Code.seq _ _) _ _ _
 repeat'(first|refine M.go ?_|((fail_if_success refine AX.wt U ?_);refine AX.gs U U (fun _=>trivial) (fun h=> ?_) (fun h=> ?_))|((with_reducible refine D.aw ?_);(fail_if_success with_reducible refine D.stopR (id:=3) ?_);(fail_if_success with_reducible refine D.stopS (id:=3) ?_);first|refine M.ga ?_|refine AW.condS U (fun h=> ?_) (fun h=> ?_))|refine M.gk ?_|fail)
 all_goals first
  |(exfalso;simp at h;omega)
  |skip
 repeat'(first|refine M.gw ?_|refine M.cb (hx) [0] 0 ?_|refine M.cb (h4) [0] 0 ?_|refine M.c2 (hw) ?_|refine M.cb (hp1) [0] 0 ?_|refine M.c2 (hI) ?_|((with_reducible refine D.blk ?_);refine AW.block ?_)|fail)
 all_goals first
  |(exact M.n2 [some 0] (h8:=(by simp[zi,V.wk,V.wks,za,Ty.view,Tm.view,Pf.view])))
  |trace_state
theorem Zyt(n:Nat)(hn:n≤3)(H:MkP n)(lems:List Fm)(tys:List Ty)(hyps:List Fm)(hc:(Ck.mk lems tys hyps).ok)(hs:smalls tys)(ht:tys.length<10)(hh:hyps.length<10)(d d1:Dk)(ok1:d1.ok)(k:Int)(hk:k=(n:Int)+1)
 (hx:AC E 32 [.ptr 0 0,.i 17] ⟨1,[(0,.var d.cells)]⟩ (.i 3) ⟨1,[(0,.var d1.cells)]⟩):
 ∃(p:Pf) (d':Dk),Made (bdP (n+1)) p∧d'.ok∧AW E Tryz.f11.ntmps 1 (xd [1,1] (wv Tryz.f11)) [(0,.ptr 0 0),(1,.s .fm lems),(3,.i k),(6,.ptr 1 0),(8,.ptr 2 0),(9,.ptr 3 0)] ⟨4,[(0,.var d.cells),(1,.var [.s .ty tys,.s .fm hyps]),(2,.var [.i 0,.i 0,.i 0,.slice .nil (.t .ty []),.slice .nil (.t .tm []),.slice .nil (.t .fm []),.slice .nil (.t .pf [])]),(3,.var natT.view)]⟩ (Zd7 E 1 Tryz.f11.results.toList (.agg p.view) ⟨1,[(0,.var d'.cells)]⟩):=by
 have hb:=xw n
 have hbs:=y7 n
 have hbl:=ue (show n≤4 by omega)
 have hl:=vz hc
 obtain⟨p1,d2,m1,ok2,hp1⟩:=H lems tys hyps d1 (k-1) (by omega) ok1 hc hs
 have fp1:=m1.full
 obtain⟨x,us,e,hxe,hI⟩:=Ydz hc hs m1 (by omega)
 by_cases he:e=0
 case neg=>
  obtain⟨p,d',hm,ok',hA⟩:=Zfx (n+1) lems tys hyps hc hs d2 ok2 k
  refine⟨p,d',hm,ok',?_⟩
  show AW _ _ _ (Code.seq _ _) _ _ _
  repeat'(first|refine M.go ?_|((fail_if_success refine AX.wt U ?_);refine AX.gs U U (fun _=>trivial) (fun h=> ?_) (fun h=> ?_))|((with_reducible refine D.aw ?_);(fail_if_success with_reducible refine D.stopR (id:=3) ?_);(fail_if_success with_reducible refine D.stopS (id:=3) ?_);first|refine M.ga ?_|refine AW.condS U (fun h=> ?_) (fun h=> ?_))|refine M.gk ?_|fail)
  all_goals first
   |(exfalso;simp at h;omega)
   |skip
  repeat'(first|refine M.go ?_|refine M.cb (hx) [0] 0 ?_|refine M.cb (hp1) [0] 0 ?_|refine M.c2 (hI) ?_|((with_reducible refine D.aw ?_);(fail_if_success with_reducible refine D.stopR (id:=61) ?_);(fail_if_success with_reducible refine D.stopS (id:=61) ?_);first|refine M.ga ?_|((with_reducible refine D.blk ?_);refine AW.block ?_)|refine AW.condS U (fun h=> ?_) (fun h=> ?_))|refine M.gk ?_|fail)
  all_goals first
   |exact AW.weak (M.W [some 0,some 1,some 2,some 3]) hA
   |(exfalso;simp at h;omega)
   |trace_state
 subst he
 obtain⟨ex,ox⟩:=hxe rfl
 have fx:=yr ex
 have hw:=Zij tys hyps x (by omega)
 obtain⟨p2,d3,m2,ok3,hp2⟩:=H lems tys (hyps++[x]) d2 (k-1) (by omega) ok2 (hc.with_ (by simp only;omega) ex ox) hs
 have fp2:=m2.full
 have hIm:=Zft x p2 (by omega) (by omega)
 have hm:=Made.imp (FmI.of ex ox (by omega)) m2
 have fm:=hm.full
 have hP:=uy 7 [.mk 6 0 (.mk 0 []) [] [x] [p2],p1] (by simp) (Zcq (by omega) (by omega))
 refine⟨_,d3,(Made.two (k:=7) (by omega) hm m1).up (by omega),ok3,?_⟩
 show AW _ _ _ (Code.seq _ _) _ _ _
 repeat'(first|refine M.go ?_|((fail_if_success refine AX.wt U ?_);refine AX.gs U U (fun _=>trivial) (fun h=> ?_) (fun h=> ?_))|((with_reducible refine D.aw ?_);(fail_if_success with_reducible refine D.stopR (id:=3) ?_);(fail_if_success with_reducible refine D.stopS (id:=3) ?_);first|refine M.ga ?_|refine AW.condS U (fun h=> ?_) (fun h=> ?_))|refine M.gk ?_|fail)
 all_goals first
  |(exfalso;simp at h;omega)
  |skip
 repeat'(first|refine M.gw ?_|refine M.cb (hx) [0] 0 ?_|refine M.cb (hp1) [0] 0 ?_|refine M.c2 (hI) ?_|refine M.c2 (hw) ?_|refine M.cb (hp2) [0] 0 ?_|refine M.c2 (hIm) ?_|refine M.c2 (hP) ?_|((with_reducible refine D.blk ?_);refine AW.block ?_)|fail)
 all_goals first
  |(exact M.n2 [some 0] (h8:=(by simp[zi,V.wk,V.wks,za,Ty.view,Tm.view,Pf.view])))
  |trace_state
theorem Zyw(n:Nat)(hn:n≤3)(H:MkP n)(lems:List Fm)(tys:List Ty)(hyps:List Fm)(hc:(Ck.mk lems tys hyps).ok)(hs:smalls tys)(ht:tys.length<10)(hh:hyps.length<10)(d d1:Dk)(ok1:d1.ok)(k:Int)(hk:k=(n:Int)+1)
 (hx:AC E 32 [.ptr 0 0,.i 17] ⟨1,[(0,.var d.cells)]⟩ (.i 4) ⟨1,[(0,.var d1.cells)]⟩):
 ∃(p:Pf) (d':Dk),Made (bdP (n+1)) p∧d'.ok∧AW E Tryz.f11.ntmps 1 (xd [1,1] (wv Tryz.f11)) [(0,.ptr 0 0),(1,.s .fm lems),(3,.i k),(6,.ptr 1 0),(8,.ptr 2 0),(9,.ptr 3 0)] ⟨4,[(0,.var d.cells),(1,.var [.s .ty tys,.s .fm hyps]),(2,.var [.i 0,.i 0,.i 0,.slice .nil (.t .ty []),.slice .nil (.t .tm []),.slice .nil (.t .fm []),.slice .nil (.t .pf [])]),(3,.var natT.view)]⟩ (Zd7 E 1 Tryz.f11.results.toList (.agg p.view) ⟨1,[(0,.var d'.cells)]⟩):=by
 have hb:=xw n
 have hbs:=y7 n
 have hbl:=ue (show n≤4 by omega)
 have hl:=vz hc
 obtain⟨s,d4,ok4,ss,h4⟩:=Yaw d1 ok1
 have es:=we ss
 have hbe:=Za2 tys hyps [s] (fun f hf=>hc.hyps f hf) (by omega) (by simp) (by omega)
 have hc2:(Ck.mk lems (tys++[s]) (hyps.map fun f=>f.lft 0 [s].length)).ok:=hc.below (l:=[s]) (by simp only[List.length_singleton];omega) (wh es)
 have hs2:smalls (tys++[s]):=zl hs (zg ss zj)
 obtain⟨p1,d2,m1,ok2,hp1⟩:=H lems (tys++[s]) (hyps.map fun f=>f.lft 0 [s].length) d4 (k-1) (by omega) ok4 hc2 hs2
 have fp1:=m1.full
 have hA:=Zc8 8 s p1 (by have:=Zc1 es;omega) (by omega)
 refine⟨_,d2,(Made.all (k:=8) (by omega) es m1).up (by omega),ok2,?_⟩
 show AW _ _ _ (Code.seq _ _) _ _ _
 repeat'(first|refine M.go ?_|((fail_if_success refine AX.wt U ?_);refine AX.gs U U (fun _=>trivial) (fun h=> ?_) (fun h=> ?_))|((with_reducible refine D.aw ?_);(fail_if_success with_reducible refine D.stopR (id:=3) ?_);(fail_if_success with_reducible refine D.stopS (id:=3) ?_);first|refine M.ga ?_|refine AW.condS U (fun h=> ?_) (fun h=> ?_))|refine M.gk ?_|fail)
 all_goals first
  |(exfalso;simp at h;omega)
  |skip
 repeat'(first|refine M.gw ?_|refine M.cb (hx) [0] 0 ?_|refine M.cb (h4) [0] 0 ?_|refine M.c2 (hbe) ?_|refine M.cb (hp1) [0] 0 ?_|refine M.c2 (hA) ?_|((with_reducible refine D.blk ?_);refine AW.block ?_)|fail)
 all_goals first
  |(exact M.n2 [some 0] (h8:=(by simp[zi,V.wk,V.wks,za,Ty.view,Tm.view,Pf.view])))
  |trace_state
theorem Zv3(n:Nat)(hn:n≤3)(H:MkP n)(lems:List Fm)(tys:List Ty)(hyps:List Fm)(hc:(Ck.mk lems tys hyps).ok)(hs:smalls tys)(ht:tys.length<10)(hh:hyps.length<10)(d d1:Dk)(ok1:d1.ok)(k:Int)(hk:k=(n:Int)+1)
 (hx:AC E 32 [.ptr 0 0,.i 17] ⟨1,[(0,.var d.cells)]⟩ (.i 14) ⟨1,[(0,.var d1.cells)]⟩):
 ∃(p:Pf) (d':Dk),Made (bdP (n+1)) p∧d'.ok∧AW E Tryz.f11.ntmps 1 (xd [1,1] (wv Tryz.f11)) [(0,.ptr 0 0),(1,.s .fm lems),(3,.i k),(6,.ptr 1 0),(8,.ptr 2 0),(9,.ptr 3 0)] ⟨4,[(0,.var d.cells),(1,.var [.s .ty tys,.s .fm hyps]),(2,.var [.i 0,.i 0,.i 0,.slice .nil (.t .ty []),.slice .nil (.t .tm []),.slice .nil (.t .fm []),.slice .nil (.t .pf [])]),(3,.var natT.view)]⟩ (Zd7 E 1 Tryz.f11.results.toList (.agg p.view) ⟨1,[(0,.var d'.cells)]⟩):=by
 have hb:=xw n
 have hbs:=y7 n
 have hbl:=ue (show n≤4 by omega)
 have hl:=vz hc
 obtain⟨s,d4,ok4,ss,h4⟩:=Yaw d1 ok1
 have es:=we ss
 have hbe:=Za2 tys hyps [s] (fun f hf=>hc.hyps f hf) (by omega) (by simp) (by omega)
 have hc2:(Ck.mk lems (tys++[s]) (hyps.map fun f=>f.lft 0 [s].length)).ok:=hc.below (l:=[s]) (by simp only[List.length_singleton];omega) (wh es)
 have hs2:smalls (tys++[s]):=zl hs (zg ss zj)
 obtain⟨p1,d2,m1,ok2,hp1⟩:=H lems (tys++[s]) (hyps.map fun f=>f.lft 0 [s].length) d4 (k-1) (by omega) ok4 hc2 hs2
 have fp1:=m1.full
 have hA:=Zc8 12 s p1 (by have:=Zc1 es;omega) (by omega)
 refine⟨_,d2,(Made.all (k:=12) (by omega) es m1).up (by omega),ok2,?_⟩
 show AW _ _ _ (Code.seq _ _) _ _ _
 repeat'(first|refine M.go ?_|((fail_if_success refine AX.wt U ?_);refine AX.gs U U (fun _=>trivial) (fun h=> ?_) (fun h=> ?_))|((with_reducible refine D.aw ?_);(fail_if_success with_reducible refine D.stopR (id:=3) ?_);(fail_if_success with_reducible refine D.stopS (id:=3) ?_);first|refine M.ga ?_|refine AW.condS U (fun h=> ?_) (fun h=> ?_))|refine M.gk ?_|fail)
 all_goals first
  |(exfalso;simp at h;omega)
  |skip
 repeat'(first|refine M.gw ?_|refine M.cb (hx) [0] 0 ?_|refine M.cb (h4) [0] 0 ?_|refine M.c2 (hbe) ?_|refine M.cb (hp1) [0] 0 ?_|refine M.c2 (hA) ?_|((with_reducible refine D.blk ?_);refine AW.block ?_)|fail)
 all_goals first
  |(exact M.n2 [some 0] (h8:=(by simp[zi,V.wk,V.wks,za,Ty.view,Tm.view,Pf.view])))
  |trace_state
theorem Zyo(n:Nat)(hn:n≤3)(H:MkP n)(lems:List Fm)(tys:List Ty)(hyps:List Fm)(hc:(Ck.mk lems tys hyps).ok)(hs:smalls tys)(ht:tys.length<10)(hh:hyps.length<10)(d d1:Dk)(ok1:d1.ok)(k:Int)(hk:k=(n:Int)+1)
 (hx:AC E 32 [.ptr 0 0,.i 17] ⟨1,[(0,.var d.cells)]⟩ (.i 5) ⟨1,[(0,.var d1.cells)]⟩):
 ∃(p:Pf) (d':Dk),Made (bdP (n+1)) p∧d'.ok∧AW E Tryz.f11.ntmps 1 (xd [1,1] (wv Tryz.f11)) [(0,.ptr 0 0),(1,.s .fm lems),(3,.i k),(6,.ptr 1 0),(8,.ptr 2 0),(9,.ptr 3 0)] ⟨4,[(0,.var d.cells),(1,.var [.s .ty tys,.s .fm hyps]),(2,.var [.i 0,.i 0,.i 0,.slice .nil (.t .ty []),.slice .nil (.t .tm []),.slice .nil (.t .fm []),.slice .nil (.t .pf [])]),(3,.var natT.view)]⟩ (Zd7 E 1 Tryz.f11.results.toList (.agg p.view) ⟨1,[(0,.var d'.cells)]⟩):=by
 have hb:=xw n
 have hbs:=y7 n
 have hbl:=ue (show n≤4 by omega)
 have hl:=vz hc
 obtain⟨s,d4,ok4,ss,h4⟩:=Yaw d1 ok1
 obtain⟨t,d5,ok5,et,it,h5⟩:=mTm d4 tys s ok4 hs ss hl.1
 have ti:=TmI.of et it (by omega)
 have ft:=z8 et
 have es:=we ss
 have hbe:=Za2 tys hyps [s] (fun f hf=>hc.hyps f hf) (by omega) (by simp) (by omega)
 have hc2:(Ck.mk lems (tys++[s]) (hyps.map fun f=>f.lft 0 [s].length)).ok:=hc.below (l:=[s]) (by simp only[List.length_singleton];omega) (wh es)
 have hs2:smalls (tys++[s]):=zl hs (zg ss zj)
 obtain⟨p1,d2,m1,ok2,hp1⟩:=H lems (tys++[s]) (hyps.map fun f=>f.lft 0 [s].length) d5 (k-1) (by omega) ok5 hc2 hs2
 have fp1:=m1.full
 have hA:=Zc8 8 s p1 (by have:=Zc1 es;omega) (by omega)
 have hm:=Made.all (k:=8) (by omega) es m1
 have fm:=hm.full
 have hT:=Zia 9 t (.mk 8 0 s [] [] [p1]) (by omega) (by omega)
 refine⟨_,d2,(Made.at_ (k:=9) (by omega) ti hm).up (by omega),ok2,?_⟩
 show AW _ _ _ (Code.seq _ _) _ _ _
 repeat'(first|refine M.go ?_|((fail_if_success refine AX.wt U ?_);refine AX.gs U U (fun _=>trivial) (fun h=> ?_) (fun h=> ?_))|((with_reducible refine D.aw ?_);(fail_if_success with_reducible refine D.stopR (id:=3) ?_);(fail_if_success with_reducible refine D.stopS (id:=3) ?_);first|refine M.ga ?_|refine AW.condS U (fun h=> ?_) (fun h=> ?_))|refine M.gk ?_|fail)
 all_goals first
  |(exfalso;simp at h;omega)
  |skip
 repeat'(first|refine M.gw ?_|refine M.cb (hx) [0] 0 ?_|refine M.cb (h4) [0] 0 ?_|refine M.cb (h5) [0] 0 ?_|refine M.c2 (hbe) ?_|refine M.cb (hp1) [0] 0 ?_|refine M.c2 (hA) ?_|refine M.c2 (hT) ?_|((with_reducible refine D.blk ?_);refine AW.block ?_)|fail)
 all_goals first
  |(exact M.n2 [some 0] (h8:=(by simp[zi,V.wk,V.wks,za,Ty.view,Tm.view,Pf.view])))
  |trace_state
theorem Zuv(n:Nat)(hn:n≤3)(H:MkP n)(lems:List Fm)(tys:List Ty)(hyps:List Fm)(hc:(Ck.mk lems tys hyps).ok)(hs:smalls tys)(ht:tys.length<10)(hh:hyps.length<10)(d d1:Dk)(ok1:d1.ok)(k:Int)(hk:k=(n:Int)+1)
 (hx:AC E 32 [.ptr 0 0,.i 17] ⟨1,[(0,.var d.cells)]⟩ (.i 15) ⟨1,[(0,.var d1.cells)]⟩):
 ∃(p:Pf) (d':Dk),Made (bdP (n+1)) p∧d'.ok∧AW E Tryz.f11.ntmps 1 (xd [1,1] (wv Tryz.f11)) [(0,.ptr 0 0),(1,.s .fm lems),(3,.i k),(6,.ptr 1 0),(8,.ptr 2 0),(9,.ptr 3 0)] ⟨4,[(0,.var d.cells),(1,.var [.s .ty tys,.s .fm hyps]),(2,.var [.i 0,.i 0,.i 0,.slice .nil (.t .ty []),.slice .nil (.t .tm []),.slice .nil (.t .fm []),.slice .nil (.t .pf [])]),(3,.var natT.view)]⟩ (Zd7 E 1 Tryz.f11.results.toList (.agg p.view) ⟨1,[(0,.var d'.cells)]⟩):=by
 have hb:=xw n
 have hbs:=y7 n
 have hbl:=ue (show n≤4 by omega)
 have hl:=vz hc
 obtain⟨s,d4,ok4,ss,h4⟩:=Yaw d1 ok1
 obtain⟨t,d5,ok5,et,it,h5⟩:=mTm d4 tys s ok4 hs ss hl.1
 have ti:=TmI.of et it (by omega)
 have ft:=z8 et
 have es:=we ss
 have hbe:=Za2 tys hyps [s] (fun f hf=>hc.hyps f hf) (by omega) (by simp) (by omega)
 have hc2:(Ck.mk lems (tys++[s]) (hyps.map fun f=>f.lft 0 [s].length)).ok:=hc.below (l:=[s]) (by simp only[List.length_singleton];omega) (wh es)
 have hs2:smalls (tys++[s]):=zl hs (zg ss zj)
 obtain⟨p1,d2,m1,ok2,hp1⟩:=H lems (tys++[s]) (hyps.map fun f=>f.lft 0 [s].length) d5 (k-1) (by omega) ok5 hc2 hs2
 have fp1:=m1.full
 have hA:=Zc8 12 s p1 (by have:=Zc1 es;omega) (by omega)
 have hm:=Made.all (k:=12) (by omega) es m1
 have fm:=hm.full
 have hT:=Zia 13 t (.mk 12 0 s [] [] [p1]) (by omega) (by omega)
 refine⟨_,d2,(Made.at_ (k:=13) (by omega) ti hm).up (by omega),ok2,?_⟩
 show AW _ _ _ (Code.seq _ _) _ _ _
 repeat'(first|refine M.go ?_|((fail_if_success refine AX.wt U ?_);refine AX.gs U U (fun _=>trivial) (fun h=> ?_) (fun h=> ?_))|((with_reducible refine D.aw ?_);(fail_if_success with_reducible refine D.stopR (id:=3) ?_);(fail_if_success with_reducible refine D.stopS (id:=3) ?_);first|refine M.ga ?_|refine AW.condS U (fun h=> ?_) (fun h=> ?_))|refine M.gk ?_|fail)
 all_goals first
  |(exfalso;simp at h;omega)
  |skip
 repeat'(first|refine M.gw ?_|refine M.cb (hx) [0] 0 ?_|refine M.cb (h4) [0] 0 ?_|refine M.cb (h5) [0] 0 ?_|refine M.c2 (hbe) ?_|refine M.cb (hp1) [0] 0 ?_|refine M.c2 (hA) ?_|refine M.c2 (hT) ?_|((with_reducible refine D.blk ?_);refine AW.block ?_)|fail)
 all_goals first
  |(exact M.n2 [some 0] (h8:=(by simp[zi,V.wk,V.wks,za,Ty.view,Tm.view,Pf.view])))
  |trace_state
theorem Zy4(n:Nat)(hn:n≤3)(H:MkP n)(lems:List Fm)(tys:List Ty)(hyps:List Fm)(hc:(Ck.mk lems tys hyps).ok)(hs:smalls tys)(ht:tys.length<10)(hh:hyps.length<10)(d d1:Dk)(ok1:d1.ok)(k:Int)(hk:k=(n:Int)+1)
 (hx:AC E 32 [.ptr 0 0,.i 17] ⟨1,[(0,.var d.cells)]⟩ (.i 6) ⟨1,[(0,.var d1.cells)]⟩):
 ∃(p:Pf) (d':Dk),Made (bdP (n+1)) p∧d'.ok∧AW E Tryz.f11.ntmps 1 (xd [1,1] (wv Tryz.f11)) [(0,.ptr 0 0),(1,.s .fm lems),(3,.i k),(6,.ptr 1 0),(8,.ptr 2 0),(9,.ptr 3 0)] ⟨4,[(0,.var d.cells),(1,.var [.s .ty tys,.s .fm hyps]),(2,.var [.i 0,.i 0,.i 0,.slice .nil (.t .ty []),.slice .nil (.t .tm []),.slice .nil (.t .fm []),.slice .nil (.t .pf [])]),(3,.var natT.view)]⟩ (Zd7 E 1 Tryz.f11.results.toList (.agg p.view) ⟨1,[(0,.var d'.cells)]⟩):=by
 have hb:=xw n
 have hbs:=y7 n
 have hbl:=ue (show n≤4 by omega)
 have hl:=vz hc
 obtain⟨t,d4,ok4,et,it,h4⟩:∃(t:Tm) (d':Dk),d'.ok∧(t.err=0∧t.size≤60)∧t.inf tys=(natT,0)∧AC E 13 [.ptr 0 0,.s .ty tys,.agg natT.view,.i 1] ⟨1,[(0,.var d1.cells)]⟩ (.agg t.view) ⟨1,[(0,.var d'.cells)]⟩:=
  ⟨_,_,Dk.tm_ok 3 d1 tys natT ok1,⟨(un d1 hs).1.err,(un d1 hs).2⟩,(un d1 hs).1.inf,Zex 3 (by omega) d1 tys natT 1 (by omega) ok1 hs ze (by omega) (by omega) (by omega)⟩
 have tz:=et.2
 have et:=et.1
 have ti:=TmI.of et it (by omega)
 have ft:=z8 et
 obtain⟨i,d5,ok5,hi,h5⟩:=mNx d4 2 ok4 (by omega)
 have hF:=Zss et it (by omega)
 obtain⟨ee,oe⟩:=Zqm et it (by omega)
 have hR:=vh t (by omega)
 have h6:=Zbb 0
 have fe:=yr ee
 have lf:=Zaa 0 1 t 0 ti.1
 have hmr:=Made.ref ti
 have fmr:=hmr.full
 generalize t.re (zq 0 1) 0=u at*
 have h7:=Zb5 u (vT 0) (by omega) (by decide)
 have hsz:=((Fm.err_iff _).1 ee)
 rcases(show i=0∨i=1 by omega) with rfl|rfl
 ·have hf:=quI (k:=5) (.inl rfl) ze hsz.1 (by omega) oe (by omega)
  have ff:=hf.2.2
  have h8:=Zet 5 natT (eqF u (vT 0)) (by decide) (by omega)
  have h9:=Zcv 10 (quF 5 natT (eqF u (vT 0))) t (.mk 18 0 (.mk 0 []) [t] [] []) (by omega) (by omega) (by omega)
  refine⟨_,d5,(Made.ex (k:=10) (by omega) hf ti hmr).up (by omega),ok5,?_⟩
  show AW _ _ _ (Code.seq _ _) _ _ _
  repeat'(first|refine M.go ?_|((fail_if_success refine AX.wt U ?_);refine AX.gs U U (fun _=>trivial) (fun h=> ?_) (fun h=> ?_))|((with_reducible refine D.aw ?_);(fail_if_success with_reducible refine D.stopR (id:=3) ?_);(fail_if_success with_reducible refine D.stopS (id:=3) ?_);first|refine M.ga ?_|refine AW.condS U (fun h=> ?_) (fun h=> ?_))|refine M.gk ?_|fail)
  all_goals first
   |(exfalso;simp at h;omega)
   |skip
  repeat'(first|refine M.gw ?_|refine M.cb (hx) [0] 0 ?_|refine M.cb (h4) [0] 0 ?_|refine M.cb (h5) [0] 0 ?_|refine M.c2 (hF) ?_|refine M.c2 (h6) ?_|refine M.c2 (h7) ?_|refine M.c2 (h8) ?_|refine M.c2 (hR) ?_|refine M.c2 (h9) ?_|((with_reducible refine D.blk ?_);refine AW.block ?_)|fail)
  all_goals first
   |(exact M.n2 [some 0] (h8:=(by simp[zi,V.wk,V.wks,za,Ty.view,Tm.view,Pf.view])))
   |trace_state
 ·have hf:=quI (k:=7) (.inr rfl) ze hsz.1 (by omega) oe (by omega)
  have ff:=hf.2.2
  have h8:=Zet 7 natT (eqF u (vT 0)) (by decide) (by omega)
  have h9:=Zcv 14 (quF 7 natT (eqF u (vT 0))) t (.mk 18 0 (.mk 0 []) [t] [] []) (by omega) (by omega) (by omega)
  refine⟨_,d5,(Made.ex (k:=14) (by omega) hf ti hmr).up (by omega),ok5,?_⟩
  show AW _ _ _ (Code.seq _ _) _ _ _
  repeat'(first|refine M.go ?_|((fail_if_success refine AX.wt U ?_);refine AX.gs U U (fun _=>trivial) (fun h=> ?_) (fun h=> ?_))|((with_reducible refine D.aw ?_);(fail_if_success with_reducible refine D.stopR (id:=3) ?_);(fail_if_success with_reducible refine D.stopS (id:=3) ?_);first|refine M.ga ?_|refine AW.condS U (fun h=> ?_) (fun h=> ?_))|refine M.gk ?_|fail)
  all_goals first
   |(exfalso;simp at h;omega)
   |skip
  repeat'(first|refine M.gw ?_|refine M.cb (hx) [0] 0 ?_|refine M.cb (h4) [0] 0 ?_|refine M.cb (h5) [0] 0 ?_|refine M.c2 (hF) ?_|refine M.c2 (h6) ?_|refine M.c2 (h7) ?_|refine M.c2 (h8) ?_|refine M.c2 (hR) ?_|refine M.c2 (h9) ?_|((with_reducible refine D.blk ?_);refine AW.block ?_)|fail)
  all_goals first
   |(exact M.n2 [some 0] (h8:=(by simp[zi,V.wk,V.wks,za,Ty.view,Tm.view,Pf.view])))
   |trace_state
theorem Yao(n:Nat)(hn:n≤3)(H:MkP n)(lems:List Fm)(tys:List Ty)(hyps:List Fm)(hc:(Ck.mk lems tys hyps).ok)(hs:smalls tys)(ht:tys.length<10)(hh:hyps.length<10)(d d1:Dk)(ok1:d1.ok)(k:Int)(hk:k=(n:Int)+1)
 (hx:AC E 32 [.ptr 0 0,.i 17] ⟨1,[(0,.var d.cells)]⟩ (.i 7) ⟨1,[(0,.var d1.cells)]⟩):
 ∃(p:Pf) (d':Dk),Made (bdP (n+1)) p∧d'.ok∧AW E Tryz.f11.ntmps 1 (xd [1,1] (wv Tryz.f11)) [(0,.ptr 0 0),(1,.s .fm lems),(3,.i k),(6,.ptr 1 0),(8,.ptr 2 0),(9,.ptr 3 0)] ⟨4,[(0,.var d.cells),(1,.var [.s .ty tys,.s .fm hyps]),(2,.var [.i 0,.i 0,.i 0,.slice .nil (.t .ty []),.slice .nil (.t .tm []),.slice .nil (.t .fm []),.slice .nil (.t .pf [])]),(3,.var natT.view)]⟩ (Zd7 E 1 Tryz.f11.results.toList (.agg p.view) ⟨1,[(0,.var d'.cells)]⟩):=by
 have hb:=xw n
 have hbs:=y7 n
 have hbl:=ue (show n≤4 by omega)
 have hl:=vz hc
 obtain⟨p1,d2,m1,ok2,hp1⟩:=H lems tys hyps d1 (k-1) (by omega) ok1 hc hs
 have fp1:=m1.full
 obtain⟨x,us,e,hxe,hI⟩:=Ydz hc hs m1 (by omega)
 by_cases he:e=0
 case neg=>
  obtain⟨p,d',hm,ok',hA⟩:=Zfx (n+1) lems tys hyps hc hs d2 ok2 k
  refine⟨p,d',hm,ok',?_⟩
  show AW _ _ _ (Code.seq _ _) _ _ _
  repeat'(first|refine M.go ?_|((fail_if_success refine AX.wt U ?_);refine AX.gs U U (fun _=>trivial) (fun h=> ?_) (fun h=> ?_))|((with_reducible refine D.aw ?_);(fail_if_success with_reducible refine D.stopR (id:=3) ?_);(fail_if_success with_reducible refine D.stopS (id:=3) ?_);first|refine M.ga ?_|refine AW.condS U (fun h=> ?_) (fun h=> ?_))|refine M.gk ?_|fail)
  all_goals first
   |(exfalso;simp at h;omega)
   |skip
  repeat'(first|refine M.go ?_|refine M.cb (hx) [0] 0 ?_|refine M.cb (hp1) [0] 0 ?_|refine M.c2 (hI) ?_|((with_reducible refine D.aw ?_);(fail_if_success with_reducible refine D.stopR (id:=61) ?_);(fail_if_success with_reducible refine D.stopS (id:=61) ?_);first|refine M.ga ?_|((with_reducible refine D.blk ?_);refine AW.block ?_)|refine AW.condS U (fun h=> ?_) (fun h=> ?_))|refine M.gk ?_|fail)
  all_goals first
   |exact AW.weak (M.W [some 0,some 1,some 2,some 3]) hA
   |(exfalso;simp at h;omega)
   |trace_state
 subst he
 obtain⟨ex,ox⟩:=hxe rfl
 have fx:=yr ex
 have hU:=Zdm ox ((Fm.err_iff _).1 ex).1 (by have:=((Fm.err_iff _).1 ex).2;omega) (by omega) 0 1 (by omega) (by omega)
 have fl:=Zk4 x 0 1
 have sl:=Zeb ex
 obtain⟨s,d4,ok4,ss,h4⟩:=Yaw d2 ok2
 obtain⟨i,d5,ok5,hi,h5⟩:=mNx d4 2 ok4 (by omega)
 obtain⟨t,d6,ok6,et,it,h6⟩:=mTm d5 tys s ok5 hs ss hl.1
 have ti:=TmI.of et it (by omega)
 have ft:=z8 et
 have ox2:=Ziq ex ox s
 have es:=Zc1 (we ss)
 generalize x.lft 0 1=y at*
 rcases(show i=0∨i=1 by omega) with rfl|rfl
 ·have hf:=quI (k:=5) (.inl rfl) ss sl.1 (by omega) ox2 (by omega)
  have ff:=hf.2.2
  have h8:=Zet 5 s y (by omega) (by omega)
  have h9:=Zcv 10 (quF 5 s y) t p1 (by omega) (by omega) (by omega)
  refine⟨_,d6,(Made.ex (k:=10) (by omega) hf ti m1).up (by omega),ok6,?_⟩
  show AW _ _ _ (Code.seq _ _) _ _ _
  repeat'(first|refine M.go ?_|((fail_if_success refine AX.wt U ?_);refine AX.gs U U (fun _=>trivial) (fun h=> ?_) (fun h=> ?_))|((with_reducible refine D.aw ?_);(fail_if_success with_reducible refine D.stopR (id:=3) ?_);(fail_if_success with_reducible refine D.stopS (id:=3) ?_);first|refine M.ga ?_|refine AW.condS U (fun h=> ?_) (fun h=> ?_))|refine M.gk ?_|fail)
  all_goals first
   |(exfalso;simp at h;omega)
   |skip
  repeat'(first|refine M.gw ?_|refine M.cb (hx) [0] 0 ?_|refine M.cb (hp1) [0] 0 ?_|refine M.c2 (hI) ?_|refine M.cb (h4) [0] 0 ?_|refine M.cb (h5) [0] 0 ?_|refine M.c2 (hU) ?_|refine M.c2 (h8) ?_|refine M.cb (h6) [0] 0 ?_|refine M.c2 (h9) ?_|((with_reducible refine D.blk ?_);refine AW.block ?_)|fail)
  all_goals first
   |(exact M.n2 [some 0] (h8:=(by simp[zi,V.wk,V.wks,za,Ty.view,Tm.view,Pf.view])))
   |trace_state
 ·have hf:=quI (k:=7) (.inr rfl) ss sl.1 (by omega) ox2 (by omega)
  have ff:=hf.2.2
  have h8:=Zet 7 s y (by omega) (by omega)
  have h9:=Zcv 14 (quF 7 s y) t p1 (by omega) (by omega) (by omega)
  refine⟨_,d6,(Made.ex (k:=14) (by omega) hf ti m1).up (by omega),ok6,?_⟩
  show AW _ _ _ (Code.seq _ _) _ _ _
  repeat'(first|refine M.go ?_|((fail_if_success refine AX.wt U ?_);refine AX.gs U U (fun _=>trivial) (fun h=> ?_) (fun h=> ?_))|((with_reducible refine D.aw ?_);(fail_if_success with_reducible refine D.stopR (id:=3) ?_);(fail_if_success with_reducible refine D.stopS (id:=3) ?_);first|refine M.ga ?_|refine AW.condS U (fun h=> ?_) (fun h=> ?_))|refine M.gk ?_|fail)
  all_goals first
   |(exfalso;simp at h;omega)
   |skip
  repeat'(first|refine M.gw ?_|refine M.cb (hx) [0] 0 ?_|refine M.cb (hp1) [0] 0 ?_|refine M.c2 (hI) ?_|refine M.cb (h4) [0] 0 ?_|refine M.cb (h5) [0] 0 ?_|refine M.c2 (hU) ?_|refine M.c2 (h8) ?_|refine M.cb (h6) [0] 0 ?_|refine M.c2 (h9) ?_|((with_reducible refine D.blk ?_);refine AW.block ?_)|fail)
  all_goals first
   |(exact M.n2 [some 0] (h8:=(by simp[zi,V.wk,V.wks,za,Ty.view,Tm.view,Pf.view])))
   |trace_state
theorem Yad(n:Nat)(hn:n≤3)(H:MkP n)(lems:List Fm)(tys:List Ty)(hyps:List Fm)(hc:(Ck.mk lems tys hyps).ok)(hs:smalls tys)(ht:tys.length<10)(hh:hyps.length<10)(d d1:Dk)(ok1:d1.ok)(k:Int)(hk:k=(n:Int)+1)
 (hx:AC E 32 [.ptr 0 0,.i 17] ⟨1,[(0,.var d.cells)]⟩ (.i 9) ⟨1,[(0,.var d1.cells)]⟩):
 ∃(p:Pf) (d':Dk),Made (bdP (n+1)) p∧d'.ok∧AW E Tryz.f11.ntmps 1 (xd [1,1] (wv Tryz.f11)) [(0,.ptr 0 0),(1,.s .fm lems),(3,.i k),(6,.ptr 1 0),(8,.ptr 2 0),(9,.ptr 3 0)] ⟨4,[(0,.var d.cells),(1,.var [.s .ty tys,.s .fm hyps]),(2,.var [.i 0,.i 0,.i 0,.slice .nil (.t .ty []),.slice .nil (.t .tm []),.slice .nil (.t .fm []),.slice .nil (.t .pf [])]),(3,.var natT.view)]⟩ (Zd7 E 1 Tryz.f11.results.toList (.agg p.view) ⟨1,[(0,.var d'.cells)]⟩):=by
 have hb:=xw n
 have hbs:=y7 n
 have hbl:=ue (show n≤4 by omega)
 have hl:=vz hc
 obtain⟨p1,d2,m1,ok2,hp1⟩:=H lems tys hyps d1 (k-1) (by omega) ok1 hc hs
 have fp1:=m1.full
 obtain⟨x,us,e,hxe,hI⟩:=Ydz hc hs m1 (by omega)
 by_cases he:e=0
 case neg=>
  obtain⟨p,d',hm,ok',hA⟩:=Zfx (n+1) lems tys hyps hc hs d2 ok2 k
  refine⟨p,d',hm,ok',?_⟩
  show AW _ _ _ (Code.seq _ _) _ _ _
  repeat'(first|refine M.go ?_|((fail_if_success refine AX.wt U ?_);refine AX.gs U U (fun _=>trivial) (fun h=> ?_) (fun h=> ?_))|((with_reducible refine D.aw ?_);(fail_if_success with_reducible refine D.stopR (id:=3) ?_);(fail_if_success with_reducible refine D.stopS (id:=3) ?_);first|refine M.ga ?_|refine AW.condS U (fun h=> ?_) (fun h=> ?_))|refine M.gk ?_|fail)
  all_goals first
   |(exfalso;simp at h;omega)
   |skip
  repeat'(first|refine M.go ?_|refine M.cb (hx) [0] 0 ?_|refine M.cb (hp1) [0] 0 ?_|refine M.c2 (hI) ?_|((with_reducible refine D.aw ?_);(fail_if_success with_reducible refine D.stopR (id:=61) ?_);(fail_if_success with_reducible refine D.stopS (id:=61) ?_);first|refine M.ga ?_|((with_reducible refine D.blk ?_);refine AW.block ?_)|refine AW.condS U (fun h=> ?_) (fun h=> ?_))|refine M.gk ?_|fail)
  all_goals first
   |exact AW.weak (M.W [some 0,some 1,some 2,some 3]) hA
   |(exfalso;simp at h;omega)
   |trace_state
 subst he
 obtain⟨ex,ox⟩:=hxe rfl
 have fx:=yr ex
 have hU:=Zdm ox ((Fm.err_iff _).1 ex).1 (by have:=((Fm.err_iff _).1 ex).2;omega) (by omega) 0 1 (by omega) (by omega)
 have fl:=Zk4 x 0 1
 have sl:=Zeb ex
 obtain⟨t,d6,ok6,et,it,h6⟩:=mTm d2 tys natT ok2 hs ze hl.1
 have ti:=TmI.of et it (by omega)
 have ft:=z8 et
 have hf:=lftI ex ox natT (by omega)
 generalize x.lft 0 1=y at*
 have hy:=Zb0 0
 have mh:Made 10 (va 0):=Made.hyp (by omega)
 have fh:=mh.full
 have hli:=uc
 have h9:=Ziw 16 y t p1 (va 0) (by omega) (by omega) (by omega) (by omega)
 refine⟨_,d6,(Made.ind (k:=16) (by omega) hf ti m1 mh).up (by omega),ok6,?_⟩
 show AW _ _ _ (Code.seq _ _) _ _ _
 repeat'(first|refine M.go ?_|((fail_if_success refine AX.wt U ?_);refine AX.gs U U (fun _=>trivial) (fun h=> ?_) (fun h=> ?_))|((with_reducible refine D.aw ?_);(fail_if_success with_reducible refine D.stopR (id:=3) ?_);(fail_if_success with_reducible refine D.stopS (id:=3) ?_);first|refine M.ga ?_|refine AW.condS U (fun h=> ?_) (fun h=> ?_))|refine M.gk ?_|fail)
 all_goals first
  |(exfalso;simp at h;omega)
  |skip
 repeat'(first|refine M.gw ?_|refine M.cb (hx) [0] 0 ?_|refine M.cb (hp1) [0] 0 ?_|refine M.c2 (hI) ?_|refine M.c2 (hU) ?_|refine M.cb (h6) [0] 0 ?_|refine M.c2 (hy) ?_|refine M.c2 (h9) ?_|((with_reducible refine D.blk ?_);refine AW.block ?_)|fail)
 all_goals first
  |(exact M.n2 [some 0] (h8:=(by simp[zi,V.wk,V.wks,za,Ty.view,Tm.view,Pf.view])))
  |trace_state
theorem Zwl(n:Nat)(hn:n≤3)(H:MkP n)(lems:List Fm)(tys:List Ty)(hyps:List Fm)(hc:(Ck.mk lems tys hyps).ok)(hs:smalls tys)(ht:tys.length<10)(hh:hyps.length<10)(d d1:Dk)(ok1:d1.ok)(k:Int)(hk:k=(n:Int)+1)
 (hx:AC E 32 [.ptr 0 0,.i 17] ⟨1,[(0,.var d.cells)]⟩ (.i 10) ⟨1,[(0,.var d1.cells)]⟩):
 ∃(p:Pf) (d':Dk),Made (bdP (n+1)) p∧d'.ok∧AW E Tryz.f11.ntmps 1 (xd [1,1] (wv Tryz.f11)) [(0,.ptr 0 0),(1,.s .fm lems),(3,.i k),(6,.ptr 1 0),(8,.ptr 2 0),(9,.ptr 3 0)] ⟨4,[(0,.var d.cells),(1,.var [.s .ty tys,.s .fm hyps]),(2,.var [.i 0,.i 0,.i 0,.slice .nil (.t .ty []),.slice .nil (.t .tm []),.slice .nil (.t .fm []),.slice .nil (.t .pf [])]),(3,.var natT.view)]⟩ (Zd7 E 1 Tryz.f11.results.toList (.agg p.view) ⟨1,[(0,.var d'.cells)]⟩):=by
 have hb:=xw n
 have hbs:=y7 n
 have hbl:=ue (show n≤4 by omega)
 have hl:=vz hc
 obtain⟨p1,d2,m1,ok2,hp1⟩:=H lems tys hyps d1 (k-1) (by omega) ok1 hc hs
 have fp1:=m1.full
 obtain⟨x,us,e,hxe,hI⟩:=Ydz hc hs m1 (by omega)
 by_cases he:e=0
 case neg=>
  obtain⟨p,d',hm,ok',hA⟩:=Zfx (n+1) lems tys hyps hc hs d2 ok2 k
  refine⟨p,d',hm,ok',?_⟩
  show AW _ _ _ (Code.seq _ _) _ _ _
  repeat'(first|refine M.go ?_|((fail_if_success refine AX.wt U ?_);refine AX.gs U U (fun _=>trivial) (fun h=> ?_) (fun h=> ?_))|((with_reducible refine D.aw ?_);(fail_if_success with_reducible refine D.stopR (id:=3) ?_);(fail_if_success with_reducible refine D.stopS (id:=3) ?_);first|refine M.ga ?_|refine AW.condS U (fun h=> ?_) (fun h=> ?_))|refine M.gk ?_|fail)
  all_goals first
   |(exfalso;simp at h;omega)
   |skip
  repeat'(first|refine M.go ?_|refine M.cb (hx) [0] 0 ?_|refine M.cb (hp1) [0] 0 ?_|refine M.c2 (hI) ?_|((with_reducible refine D.aw ?_);(fail_if_success with_reducible refine D.stopR (id:=61) ?_);(fail_if_success with_reducible refine D.stopS (id:=61) ?_);first|refine M.ga ?_|((with_reducible refine D.blk ?_);refine AW.block ?_)|refine AW.condS U (fun h=> ?_) (fun h=> ?_))|refine M.gk ?_|fail)
  all_goals first
   |exact AW.weak (M.W [some 0,some 1,some 2,some 3]) hA
   |(exfalso;simp at h;omega)
   |trace_state
 subst he
 obtain⟨ex,ox⟩:=hxe rfl
 have fx:=yr ex
 have hU:=Zdm ox ((Fm.err_iff _).1 ex).1 (by have:=((Fm.err_iff _).1 ex).2;omega) (by omega) 0 1 (by omega) (by omega)
 have fl:=Zk4 x 0 1
 have sl:=Zeb ex
 obtain⟨t,d6,ok6,et,it,h6⟩:=mTm d2 tys listT ok2 hs yv hl.1
 have ti:=TmI.of et it (by omega)
 have ft:=z8 et
 have hf:=lftI ex ox natT (by omega)
 generalize x.lft 0 1=y at*
 have hy:=Zb0 0
 have mh:Made 10 (va 0):=Made.hyp (by omega)
 have fh:=mh.full
 have hli:=uc
 have h9:=Ziw 17 y t p1 (va 0) (by omega) (by omega) (by omega) (by omega)
 refine⟨_,d6,(Made.ind (k:=17) (by omega) hf ti m1 mh).up (by omega),ok6,?_⟩
 show AW _ _ _ (Code.seq _ _) _ _ _
 repeat'(first|refine M.go ?_|((fail_if_success refine AX.wt U ?_);refine AX.gs U U (fun _=>trivial) (fun h=> ?_) (fun h=> ?_))|((with_reducible refine D.aw ?_);(fail_if_success with_reducible refine D.stopR (id:=3) ?_);(fail_if_success with_reducible refine D.stopS (id:=3) ?_);first|refine M.ga ?_|refine AW.condS U (fun h=> ?_) (fun h=> ?_))|refine M.gk ?_|fail)
 all_goals first
  |(exfalso;simp at h;omega)
  |skip
 repeat'(first|refine M.gw ?_|refine M.cb (hx) [0] 0 ?_|refine M.cb (hp1) [0] 0 ?_|refine M.c2 (hI) ?_|refine M.c2 (hU) ?_|refine M.c2 (hli) ?_|refine M.cb (h6) [0] 0 ?_|refine M.c2 (hy) ?_|refine M.c2 (h9) ?_|((with_reducible refine D.blk ?_);refine AW.block ?_)|fail)
 all_goals first
  |(exact M.n2 [some 0] (h8:=(by simp[zi,V.wk,V.wks,za,Ty.view,Tm.view,Pf.view])))
  |trace_state
theorem Zvw(n:Nat)(hn:n≤3)(H:MkP n)(lems:List Fm)(tys:List Ty)(hyps:List Fm)(hc:(Ck.mk lems tys hyps).ok)(hs:smalls tys)(ht:tys.length<10)(hh:hyps.length<10)(d d1:Dk)(ok1:d1.ok)(k:Int)(hk:k=(n:Int)+1)
 (hx:AC E 32 [.ptr 0 0,.i 17] ⟨1,[(0,.var d.cells)]⟩ (.i 11) ⟨1,[(0,.var d1.cells)]⟩):
 ∃(p:Pf) (d':Dk),Made (bdP (n+1)) p∧d'.ok∧AW E Tryz.f11.ntmps 1 (xd [1,1] (wv Tryz.f11)) [(0,.ptr 0 0),(1,.s .fm lems),(3,.i k),(6,.ptr 1 0),(8,.ptr 2 0),(9,.ptr 3 0)] ⟨4,[(0,.var d.cells),(1,.var [.s .ty tys,.s .fm hyps]),(2,.var [.i 0,.i 0,.i 0,.slice .nil (.t .ty []),.slice .nil (.t .tm []),.slice .nil (.t .fm []),.slice .nil (.t .pf [])]),(3,.var natT.view)]⟩ (Zd7 E 1 Tryz.f11.results.toList (.agg p.view) ⟨1,[(0,.var d'.cells)]⟩):=by
 have hb:=xw n
 have hbs:=y7 n
 have hbl:=ue (show n≤4 by omega)
 have hl:=vz hc
 obtain⟨t,d4,ok4,et,it,h4⟩:=mTm d1 tys natT ok1 hs ze hl.1
 have ti:=TmI.of et it (by omega)
 have ft:=z8 et
 have h5:=Zyj t (by omega)
 have mz:Made 2000000 (Zoq t):=by
  have s1:Made 700000 zeroStep:=(Made.sub (f:=eqF (apT (sucT.re (zq 0 1) 0) (plus0.re (zq 0 1) 0)) (apT (sucT.re (zq 0 1) 0) (vT 0))) (Zxm _ (by decide+kernel) (by decide+kernel) (by decide+kernel)) (Made.hyp (i:=0) (by omega)) (Made.ref (t:=apT sucT plus0) (Zlh _ (by decide+kernel) (by decide+kernel) (by decide+kernel)))).up (by omega)
  exact(Made.ind (k:=16) (by omega) (f:=eqF plus0 (vT 0)) (t:=t) (Zxm _ (by decide+kernel) (by decide+kernel) (by decide+kernel)) ti (Made.ref (Zlh zT (by decide) (by decide) (by decide))) s1).up (by omega)
 refine⟨_,d4,mz.up (by omega),ok4,?_⟩
 unfold Zoq at h5 ⊢
 show AW _ _ _ (Code.seq _ _) _ _ _
 repeat'(first|refine M.go ?_|((fail_if_success refine AX.wt U ?_);refine AX.gs U U (fun _=>trivial) (fun h=> ?_) (fun h=> ?_))|((with_reducible refine D.aw ?_);(fail_if_success with_reducible refine D.stopR (id:=3) ?_);(fail_if_success with_reducible refine D.stopS (id:=3) ?_);first|refine M.ga ?_|refine AW.condS U (fun h=> ?_) (fun h=> ?_))|refine M.gk ?_|fail)
 all_goals first
  |(exfalso;simp at h;omega)
  |skip
 repeat'(first|refine M.gw ?_|refine M.cb (hx) [0] 0 ?_|refine M.cb (h4) [0] 0 ?_|refine M.c2 (h5) ?_|((with_reducible refine D.blk ?_);refine AW.block ?_)|fail)
 all_goals first
  |(exact M.n2 [some 0] (h8:=(by simp[zi,V.wk,V.wks,za,Ty.view,Tm.view,Pf.view])))
  |trace_state
theorem Zwc(n:Nat)(hn:n≤3)(H:MkP n)(lems:List Fm)(tys:List Ty)(hyps:List Fm)(hc:(Ck.mk lems tys hyps).ok)(hs:smalls tys)(ht:tys.length<10)(hh:hyps.length<10)(d d1:Dk)(ok1:d1.ok)(k:Int)(hk:k=(n:Int)+1)
 (hx:AC E 32 [.ptr 0 0,.i 17] ⟨1,[(0,.var d.cells)]⟩ (.i 12) ⟨1,[(0,.var d1.cells)]⟩):
 ∃(p:Pf) (d':Dk),Made (bdP (n+1)) p∧d'.ok∧AW E Tryz.f11.ntmps 1 (xd [1,1] (wv Tryz.f11)) [(0,.ptr 0 0),(1,.s .fm lems),(3,.i k),(6,.ptr 1 0),(8,.ptr 2 0),(9,.ptr 3 0)] ⟨4,[(0,.var d.cells),(1,.var [.s .ty tys,.s .fm hyps]),(2,.var [.i 0,.i 0,.i 0,.slice .nil (.t .ty []),.slice .nil (.t .tm []),.slice .nil (.t .fm []),.slice .nil (.t .pf [])]),(3,.var natT.view)]⟩ (Zd7 E 1 Tryz.f11.results.toList (.agg p.view) ⟨1,[(0,.var d'.cells)]⟩):=by
 have hb:=xw n
 have hbs:=y7 n
 have hbl:=ue (show n≤4 by omega)
 have hl:=vz hc
 obtain⟨t,d4,ok4,et,it,h4⟩:=mTm d1 tys natT ok1 hs ze hl.1
 have ti:=TmI.of et it (by omega)
 have ft:=z8 et
 obtain⟨u,d5,ok5,eu,zu,iu,h5⟩:=mTmN d4 tys ok4 hs hl.1
 have fu6:=Zdf u ((Tm.err_iff u).1 eu).1
 have ui:=TmI.of eu iu (by omega)
 have fu:=z8 eu
 have hF:=Zss eu iu (by omega)
 obtain⟨l1,l2,l3⟩:=Zxt eu iu
 have lf:=Zaa 0 1 u 0 ui.1
 have hsz:=((Tm.err_iff _).1 eu)
 have hf:FmI (eqF (u.re (zq 0 1) 0) (u.re (zq 0 1) 0)):=by
  have h1:=ux l2 l2
  refine⟨h1,fun q hq r hr=> ?_,by rw[Zoe];omega⟩
  have:=Ztb _ _ 0 h1 (eq_okT.2 ⟨l1,l1⟩) q hq r hr
  rw[Zba,l3] at this
  simp only[List.length_append,List.length_singleton] at this
  omega
 generalize u.re (zq 0 1) 0=w at*
 have h6:=Zb5 w w (by omega) (by omega)
 have h7:=vh t (by omega)
 have h8:=vh u (by omega)
 have m1:=Made.ref ti
 have m2:=Made.ref ui
 have f1:=m1.full
 have f2:=m2.full
 have ff:=hf.2.2
 have h9:=Zhn (eqF w w) (.mk 18 0 (.mk 0 []) [t] [] []) (.mk 18 0 (.mk 0 []) [u] [] []) (by omega) (by omega) (by omega)
 refine⟨_,d5,(Made.sub hf m1 m2).up (by omega),ok5,?_⟩
 show AW _ _ _ (Code.seq _ _) _ _ _
 repeat'(first|refine M.go ?_|((fail_if_success refine AX.wt U ?_);refine AX.gs U U (fun _=>trivial) (fun h=> ?_) (fun h=> ?_))|((with_reducible refine D.aw ?_);(fail_if_success with_reducible refine D.stopR (id:=3) ?_);(fail_if_success with_reducible refine D.stopS (id:=3) ?_);first|refine M.ga ?_|refine AW.condS U (fun h=> ?_) (fun h=> ?_))|refine M.gk ?_|fail)
 all_goals first
  |(exfalso;simp at h;omega)
  |skip
 repeat'(first|refine M.gw ?_|refine M.cb (hx) [0] 0 ?_|refine M.cb (h4) [0] 0 ?_|refine M.cb (h5) [0] 0 ?_|refine M.c2 (hF) ?_|refine M.c2 (h6) ?_|refine M.c2 (h7) ?_|refine M.c2 (h8) ?_|refine M.c2 (h9) ?_|((with_reducible refine D.blk ?_);refine AW.block ?_)|fail)
 all_goals first
  |(exact M.n2 [some 0] (h8:=(by simp[zi,V.wk,V.wks,za,Ty.view,Tm.view,Pf.view])))
  |trace_state
theorem Zvm(n:Nat)(hn:n≤3)(H:MkP n)(lems:List Fm)(tys:List Ty)(hyps:List Fm)(hc:(Ck.mk lems tys hyps).ok)(hs:smalls tys)(ht:tys.length<10)(hh:hyps.length<10)(d d1:Dk)(ok1:d1.ok)(k:Int)(hk:k=(n:Int)+1)
 (hx:AC E 32 [.ptr 0 0,.i 17] ⟨1,[(0,.var d.cells)]⟩ (.i 13) ⟨1,[(0,.var d1.cells)]⟩):
 ∃(p:Pf) (d':Dk),Made (bdP (n+1)) p∧d'.ok∧AW E Tryz.f11.ntmps 1 (xd [1,1] (wv Tryz.f11)) [(0,.ptr 0 0),(1,.s .fm lems),(3,.i k),(6,.ptr 1 0),(8,.ptr 2 0),(9,.ptr 3 0)] ⟨4,[(0,.var d.cells),(1,.var [.s .ty tys,.s .fm hyps]),(2,.var [.i 0,.i 0,.i 0,.slice .nil (.t .ty []),.slice .nil (.t .tm []),.slice .nil (.t .fm []),.slice .nil (.t .pf [])]),(3,.var natT.view)]⟩ (Zd7 E 1 Tryz.f11.results.toList (.agg p.view) ⟨1,[(0,.var d'.cells)]⟩):=by
 have hb:=xw n
 have hbs:=y7 n
 have hbl:=ue (show n≤4 by omega)
 have hl:=vz hc
 obtain⟨s,d4,ok4,ss,h4⟩:=mTy0 d1 ok1
 have es:=we ss
 have hbe:=Za2 tys hyps [s] (fun f hf=>hc.hyps f hf) (by omega) (by simp) (by omega)
 have hc2:(Ck.mk lems (tys++[s]) (hyps.map fun f=>f.lft 0 [s].length)).ok:=hc.below (l:=[s]) (by simp only[List.length_singleton];omega) (wh es)
 have hs2:smalls (tys++[s]):=zl hs (zg ss zj)
 have hl2:(tys++[s]).length≤16:=by simp;omega
 have h5:=(Zr2 d4 ok4 (tys++[s]) (hyps.map fun f=>f.lft 0 [s].length) hs2 hl2).2
 have mn:=(un d4 hs2)
 have ok5:=Dk.tm_ok 3 d4 (tys++[s]) natT ok4
 generalize Dk.tm 3 d4 (tys++[s]) natT=T at*
 obtain⟨t,d5⟩:=T
 simp only at mn ok5
 have ti:=TmI.of mn.1.err mn.1.inf (by omega)
 obtain⟨ee,oe⟩:=Zqm mn.1.err mn.1.inf (by omega)
 have hsz:=((Fm.err_iff _).1 ee)
 have hf:=quI (k:=5) (.inl rfl) ze hsz.1 (by omega) oe (by omega)
 have m1:Made 1000000 (Zit (Zmv t) t (y4 t)):=(Made.ex (k:=10) (by omega) hf ti (Made.ref ti)).up (by omega)
 have f1:=m1.full
 unfold Zit at h5 m1 f1
 have hA:=Zc8 8 s (.mk 10 0 (.mk 0 []) [t] [Zmv t] [y4 t]) (by have:=Zc1 es;omega) (by omega)
 have m2:=Made.all (k:=8) (by omega) es m1
 have f2:=m2.full
 have hP:=uy 20 [.mk 8 0 s [] [] [.mk 10 0 (.mk 0 []) [t] [Zmv t] [y4 t]]] (by simp) (wh (by omega))
 refine⟨_,d5,(Made.one (k:=20) (by omega) m2).up (by omega),ok5,?_⟩
 show AW _ _ _ (Code.seq _ _) _ _ _
 repeat'(first|refine M.go ?_|((fail_if_success refine AX.wt U ?_);refine AX.gs U U (fun _=>trivial) (fun h=> ?_) (fun h=> ?_))|((with_reducible refine D.aw ?_);(fail_if_success with_reducible refine D.stopR (id:=3) ?_);(fail_if_success with_reducible refine D.stopS (id:=3) ?_);first|refine M.ga ?_|refine AW.condS U (fun h=> ?_) (fun h=> ?_))|refine M.gk ?_|fail)
 all_goals first
  |(exfalso;simp at h;omega)
  |skip
 repeat'(first|refine M.gw ?_|refine M.cb (hx) [0] 0 ?_|refine M.cb (h4) [0] 0 ?_|refine M.c2 (hbe) ?_|refine M.cb (h5) [0] 0 ?_|refine M.c2 (hA) ?_|refine M.c2 (hP) ?_|((with_reducible refine D.blk ?_);refine AW.block ?_)|fail)
 all_goals first
  |(exact M.n2 [some 0] (h8:=(by simp[zi,V.wk,V.wks,za,Ty.view,Tm.view,Pf.view])))
  |trace_state
end Go.Ab
