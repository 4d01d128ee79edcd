/- A part of the proofs of this seat. No conditions. -/
import Derived.Test.YtjgokiomgcfclaaGreatDoorEST4
namespace Go.Ab
open Go Go.Proofs
set_option maxRecDepth 100000
set_option maxHeartbeats 4000000
set_option linter.all false
theorem Zx1(g:List Ty){i:Int}(hi:0<=i/\i<4):B5 g (wh i):=by
 obtain⟨m,rfl⟩:∃m:Nat,i=m:=⟨i.toNat,by omega⟩;have h4:m=0\/m=1\/m=2\/m=3:=by omega
 refine⟨?_,?_,?_⟩
 ·rcases h4 with rfl|rfl|rfl|rfl<;>decide
 ·rcases h4 with rfl|rfl|rfl|rfl<;>exact MJ g _
 ·rcases h4 with rfl|rfl|rfl|rfl<;>decide
theorem Yef(n:Nat)(hn:n<=4)(lems:List Fm)(tys:List Ty)(hyps:List Fm)(hc:(Ck.mk lems tys hyps).ok)(hs:Ai tys)(d:Dk)(hd:d.ok):
 ∃(p:Pf) (x:Fm) (u:List Int) (d':Dk),Made (Eh n) p/\x.err=0/\x.A9 tys/\d'.ok/\
  AC E 54 [.ptr 0 0,.s .fm lems,.agg [.s .ty tys,.s .fm hyps],.i n] ⟨1,[(0,.var d.cells)]⟩ (.Ax [.agg p.view,.agg (x.view++[.s .int u])]) ⟨1,[(0,.var d'.cells)]⟩:=by
 obtain⟨pf,dk,xf,us,er,rfl,hT⟩:=Yie n hn lems tys hyps hc hs d hd;have hA:=fun m=>(hT m).2.2.2.1;have hI:=fun m=>(hT m).2.2.2.2;have hit:∀M,M<4->er M=0->(∀m,m<M->er m≠0)->∃(p:Pf) (x:Fm) (u:List Int) (d':Dk),Made (Eh n) p/\x.err=0/\x.A9 tys/\d'.ok/\
  AC E 54 [.ptr 0 0,.s .fm lems,.agg [.s .ty tys,.s .fm hyps],.i n] ⟨1,[(0,.var (dk 0).cells)]⟩ (.Ax [.agg p.view,.agg (x.view++[.s .int u])]) ⟨1,[(0,.var d'.cells)]⟩:=fun M hM h0 hl=>
  ⟨pf M,xf M,us M,dk (M+1),(hT M).2.1,((hT M).2.2.1 h0).1,((hT M).2.2.1 h0).2,(hT (M+1)).1,Zz9 n lems tys hyps pf dk xf us er M hM h0 hl hA hI⟩
 by_cases e0:er 0=0
 ·exact hit 0 (by omega) e0 (fun m h=>by omega)
 by_cases e1:er 1=0
 ·exact hit 1 (by omega) e1 (fun m h=>by obtain rfl:m=0:=by omega
                                         exact e0)
 by_cases e2:er 2=0
 ·exact hit 2 (by omega) e2 (fun m h=>by
   rcases(show m=0\/m=1 by omega) with rfl|rfl
   ·exact e0
   ·exact e1)
 by_cases e3:er 3=0
 ·exact hit 3 (by omega) e3 (fun m h=>by
   rcases(show m=0\/m=1\/m=2 by omega) with rfl|rfl|rfl
   ·exact e0
   ·exact e1
   ·exact e2)
 have h1:=vt (dk 4) 4 (hT 4).1 (by omega);have hb:=Dk.Bb (dk 4) 4 (by omega);have no:=Zx1 tys (i:=((dk 4).next 4).1) (by omega);have ti:=CR.of no.err no.inf (by have:=hc.len;simp only at this;omega);have hm:=(Made.ref ti).up (show 300010<=Eh n by have:=x6 n;omega);have fN:=yl no.err;have h3:=vh (wh ((dk 4).next 4).1) (by omega);have h0:=hc.sum;have h4:=Us lems hyps tys (xd (wh ((dk 4).next 4).1)) (fun f hf=>by have:=z9 (hc.lems f hf).1;omega) (fun f hf=>by have:=z9 (hc.hyps f hf).1;omega) (by simp only at h0;omega) (by have:=hc.nl;simp only at this;omega) (by have:=hc.nh;simp only at this;omega)
  (by have:=hm.full;have:=v8 hn;show(Pf.mk 18 0 (.mk 0 []) [wh ((dk 4).next 4).1] [] []).full<_;omega)
 have hr:GH lems tys hyps (xd (wh ((dk 4).next 4).1))=(AM (wh ((dk 4).next 4).1) (wh ((dk 4).next 4).1),[],0):=by
  unfold GH;rw[if_neg (by rw[show CU lems tys hyps=0 from RH hc];simp),if_neg (by rw[SO no.err];simp)];exact Vm (UP hc no.err no.inf) (no.Gj no)
 rw[hr] at h4;exact⟨_,_,_,_,hm,no.Gj no,Ci.2 ⟨no.inf,no.inf⟩,Dk.AA (hT 4).1 4,
  Ztw n lems tys hyps pf dk xf us er (fun m hm4=>by
   rcases(show m=0\/m=1\/m=2\/m=3 by omega) with rfl|rfl|rfl|rfl
   ·exact e0
   ·exact e1
   ·exact e2
   ·exact e3) hA hI h1 (JA _) h3 h4⟩
def lisO(i:Int):Tm:= .mk 8 0 (.mk 0 []) [wh i,.mk 7 0 (.mk 0 []) []]
theorem Yaf(d:Dk)(hd:d.ok):AC E 53 [.ptr 0 0] ⟨1,[(0,.var d.cells)]⟩ (.agg [.s .ty d.ctx.1,.slice (.own 1) (.t .fm d.EV)]) ⟨2,[(0,.var d.Hj.cells),(1,.row)]⟩:=by
 have h1:=TP d hd;have h2:=vt d.ctx.2 3 (Dk.DP hd) (by omega);have hb:=Dk.Bb d.ctx.2 3 (by omega);have hg:=d.Bx;have hgl:=d.Cl;obtain⟨c,hc⟩:∃c:Nat,(d.ctx.2.next 3).1=c:=⟨(d.ctx.2.next 3).1.toNat,by omega⟩;have hcn:d.JB=c:=by unfold Dk.JB;omega
 have hdo:=Dk.AA (Dk.DP hd) 3;rw[hc] at h2 hb;have eH:d.EV=(Dk.CI c (d.ctx.2.next 3).2 d.ctx.1).1:=by unfold Dk.EV;rw[hcn]
 have eD:d.Hj=(Dk.CI c (d.ctx.2.next 3).2 d.ctx.1).2:=by unfold Dk.Hj;rw[hcn]
 rw[eH,eD];generalize d.ctx.1=g at*;generalize (d.ctx.2.next 3).2=d2 at*;refine M.F Tryz.func53 ?_;(repeat' first|refine M.gw ?_|refine M.cb (h1) [0] 0 ?_|refine M.cb (h2) [0] 0 ?_|fail);refine AW.down c (fun m=>m<=c)
  (fun m=>([(0,.ptr 0 0),(2,.ptr 1 0),(3,.ptr 2 0),(4,.i m)],⟨4,[(0,.var (Dk.CI (c-m) d2 g).2.cells),(1,.var [.slice .nil (.t .ty []),.slice .nil (.t .fm [])]),(2,.var [.s .ty g,.slice (.own 3) (.t .fm (Dk.CI (c-m) d2 g).1)]),(3,.row)]⟩))
  (by omega) (fun m=>rfl) rfl (Nat.le_refl _) ?_ ?_ ?_
 ·simp only[Nat.sub_self];exact(M.W [some 0,some 1,some 2,none])
 ·intro m hm hP;have e:=Dk.Db (c-(m+1)) d2 g;rw[show c-(m+1)+1=c-m by omega] at e;have h3:=LY 2 (Dk.CI (c-(m+1)) d2 g).2 g 2 (by omega) rfl (Dk.Dc _ _ _ hdo) hg (by omega);have hl:=Dk.Cz (c-(m+1)) d2 g;(repeat' first|refine M.gw ?_|refine M.cb (h3) [0] 0 ?_|fail);refine⟨rfl,by omega,?_⟩;simp only[e];exact(M.W [some 0,some 1,some 2,some 4])
 ·intro _;simp only[Nat.sub_zero];(repeat' first|refine M.gw ?_|fail);refine K.rt [some 0,some 3] rfl rfl rfl rfl rfl ?_ rfl ?_
  ·exact ⟨⟨_,rfl,_,rfl,_,rfl,AO.refl _⟩,.inr ⟨_,rfl,rfl⟩,trivial⟩
  ·exact An.of_eq (by simp[zk])
theorem Zxr(d:Dk)(hd:d.ok):∃(f:Fm) (d':Dk),d'.ok/\f.err=0/\f.A9 d.ctx.1/\
 AC E 15 [.ptr 0 0] ⟨1,[(0,.var d.cells)]⟩ (.agg [.s .ty d.ctx.1,.slice (.own 1) (.t .fm d.EV),.i f.kind,.i f.ty.kind,.s .ty f.ty.args,.s .tm f.terms,.s .fm f.args]) ⟨2,[(0,.var d'.cells),(1,.row)]⟩:=by
 have h1:=Yaf d hd;have ok1:=Dk.Ip hd;have hg:=d.Bx;have hgl:=d.Cl;have hc:(Ck.mk [] d.ctx.1 d.EV).ok:=by
  have h:=d.Gv;exact⟨h.ctx,h.nh,by simp,h.hyps,fun f hf=>by cases hf⟩
 generalize d.EV=hyps at*;generalize d.Hj=d1 at*;generalize d.ctx.1=tys at*;have h2:=LY 3 d1 tys 3 (by omega) rfl ok1 hg (by omega);have ok2:=Dk.DC 3 d1 tys ok1;have hf:=Dk.CC 3 d1 tys hg;have hft:=Dk.EM 3 d1 tys hg;have hfe:(Dk.fm 3 d1 tys).1.err=0:=(Fm.Ad _).2 ⟨hf.1,by have:=hf.2.1;omega⟩;generalize (Dk.fm 3 d1 tys)=F at*;obtain⟨f,d2⟩:=F;simp only at h2 ok2 hf hft hfe;have h3:=vt d2 3 ok2 (by omega);have ok3:=Dk.AA ok2 3;have hb:=Dk.Bb d2 3 (by omega);generalize d2.next 3=N at*;obtain⟨k,d3⟩:=N;simp only at h3 ok3 hb;by_cases hk:k=0
 ·subst hk;obtain⟨p,x,u,d4,hp,xe,xt,ok4,hR⟩:=Yef 2 (by omega) [] tys hyps hc hg d3 ok3;refine⟨x,d4,ok4,xe,xt,?_⟩;refine M.F Tryz.func15 ?_;(repeat' first|refine M.gw ?_|refine M.cb (h1) [0] 1 ?_|refine M.cb (h2) [0] 0 ?_|refine M.cb (h3) [0] 0 ?_|refine M.cb (hR) [0] 0 ?_|fail);all_goals first|exfalso;simp at h;done|refine K.rt [some 0,some 1] rfl rfl rfl rfl rfl ?_ rfl ?_;(exact⟨⟨_,rfl,_,rfl,_,rfl,AO.refl _⟩,.inr ⟨_,rfl,rfl⟩,trivial⟩);(exact An.of_eq (by simp[zk,Al.Aw]))|refine K.rt [some 0,some 2] rfl rfl rfl rfl rfl ?_ rfl ?_;(exact⟨⟨_,rfl,_,rfl,_,rfl,AO.refl _⟩,.inr ⟨_,rfl,rfl⟩,trivial⟩);(exact An.of_eq (by simp[zk,Al.Aw]))|refine K.rt [some 0,some 3] rfl rfl rfl rfl rfl ?_ rfl ?_;(exact⟨⟨_,rfl,_,rfl,_,rfl,AO.refl _⟩,.inr ⟨_,rfl,rfl⟩,trivial⟩);(exact An.of_eq (by simp[zk,Al.Aw]))|refine K.rt [some 0,some 4] rfl rfl rfl rfl rfl ?_ rfl ?_;(exact⟨⟨_,rfl,_,rfl,_,rfl,AO.refl _⟩,.inr ⟨_,rfl,rfl⟩,trivial⟩);(exact An.of_eq (by simp[zk,Al.Aw]))|refine K.rt [some 0,some 5] rfl rfl rfl rfl rfl ?_ rfl ?_;(exact⟨⟨_,rfl,_,rfl,_,rfl,AO.refl _⟩,.inr ⟨_,rfl,rfl⟩,trivial⟩);(exact An.of_eq (by simp[zk,Al.Aw]))|refine K.rt [some 0,some 6] rfl rfl rfl rfl rfl ?_ rfl ?_;(exact⟨⟨_,rfl,_,rfl,_,rfl,AO.refl _⟩,.inr ⟨_,rfl,rfl⟩,trivial⟩);(exact An.of_eq (by simp[zk,Al.Aw]))|refine K.rt [some 0,some 7] rfl rfl rfl rfl rfl ?_ rfl ?_;(exact⟨⟨_,rfl,_,rfl,_,rfl,AO.refl _⟩,.inr ⟨_,rfl,rfl⟩,trivial⟩);(exact An.of_eq (by simp[zk,Al.Aw]))|refine K.rt [some 0,some 8] rfl rfl rfl rfl rfl ?_ rfl ?_;(exact⟨⟨_,rfl,_,rfl,_,rfl,AO.refl _⟩,.inr ⟨_,rfl,rfl⟩,trivial⟩);(exact An.of_eq (by simp[zk,Al.Aw]))
 ·refine ⟨f,d3,ok3,hfe,hft,?_⟩;refine M.F Tryz.func15 ?_;(repeat' first|refine M.gw ?_|refine M.cb (h1) [0] 1 ?_|refine M.cb (h2) [0] 0 ?_|refine M.cb (h3) [0] 0 ?_|refine M.cs ?_ ?_<;>intro h|fail);all_goals first|exfalso;simp at h;exact hk h|refine K.rt [some 0,some 1] rfl rfl rfl rfl rfl ?_ rfl ?_;(exact⟨⟨_,rfl,_,rfl,_,rfl,AO.refl _⟩,.inr ⟨_,rfl,rfl⟩,trivial⟩);(exact An.of_eq (by simp[zk,Al.Aw]))|refine K.rt [some 0,some 2] rfl rfl rfl rfl rfl ?_ rfl ?_;(exact⟨⟨_,rfl,_,rfl,_,rfl,AO.refl _⟩,.inr ⟨_,rfl,rfl⟩,trivial⟩);(exact An.of_eq (by simp[zk,Al.Aw]))|refine K.rt [some 0,some 3] rfl rfl rfl rfl rfl ?_ rfl ?_;(exact⟨⟨_,rfl,_,rfl,_,rfl,AO.refl _⟩,.inr ⟨_,rfl,rfl⟩,trivial⟩);(exact An.of_eq (by simp[zk,Al.Aw]))|refine K.rt [some 0,some 4] rfl rfl rfl rfl rfl ?_ rfl ?_;(exact⟨⟨_,rfl,_,rfl,_,rfl,AO.refl _⟩,.inr ⟨_,rfl,rfl⟩,trivial⟩);(exact An.of_eq (by simp[zk,Al.Aw]))|refine K.rt [some 0,some 5] rfl rfl rfl rfl rfl ?_ rfl ?_;(exact⟨⟨_,rfl,_,rfl,_,rfl,AO.refl _⟩,.inr ⟨_,rfl,rfl⟩,trivial⟩);(exact An.of_eq (by simp[zk,Al.Aw]))|refine K.rt [some 0,some 6] rfl rfl rfl rfl rfl ?_ rfl ?_;(exact⟨⟨_,rfl,_,rfl,_,rfl,AO.refl _⟩,.inr ⟨_,rfl,rfl⟩,trivial⟩);(exact An.of_eq (by simp[zk,Al.Aw]))|refine K.rt [some 0,some 7] rfl rfl rfl rfl rfl ?_ rfl ?_;(exact⟨⟨_,rfl,_,rfl,_,rfl,AO.refl _⟩,.inr ⟨_,rfl,rfl⟩,trivial⟩);(exact An.of_eq (by simp[zk,Al.Aw]))|refine K.rt [some 0,some 8] rfl rfl rfl rfl rfl ?_ rfl ?_;(exact⟨⟨_,rfl,_,rfl,_,rfl,AO.refl _⟩,.inr ⟨_,rfl,rfl⟩,trivial⟩);(exact An.of_eq (by simp[zk,Al.Aw]))
def St.full(s:St):Nat:=(s.terms.map Tm.full).sum+(s.Aq.map Fm.full).sum
theorem Zrx(s:St)(hA:s.full<100000000000):PC E 69 [.agg s.view,.agg s.view] (.bool true):=by
 have h1:=SP s.terms (by unfold St.full at hA;omega);have h2:=P6 s.Aq (by unfold St.full at hA;omega);refine M.F Tryz.func69 ?_;(repeat' first|refine M.gw ?_|refine M.c2 (h1) ?_|refine M.c2 (h2) ?_|refine M.gs ?_ ?_<;>intro h|fail);all_goals first
  |rfl
  |(exfalso;simp at h;done)
  |(exfalso;simp_all;done)
  |(exfalso;rename_i ha hb;simp at ha hb;done)
  |(simp;done)
  |(simp[zk,V.wk];done)
  |trace_state
theorem RG(l:List St)(hl:l.length<100000000)(hA:∀s∈l,s.full<100000000000):PC E 21 [.s .st l,.s .st l] (.bool true):=by
 refine M.F Tryz.func21 ?_;(repeat' first|refine M.gw ?_|refine M.cs ?_ ?_<;>intro h|fail);all_goals first
  |(exfalso;simp at h;done)
  |(exfalso;rename_i h;simp at h;done)
  |skip
 refine AW.range l.length (fun m=>True) (fun m=>([(0,.s .st l),(1,.s .st l),(12,.i l.length),(13,.i m)],⟨0,[]⟩))
  (by omega) (fun m=>rfl) (fun m=>rfl) rfl trivial (M.W []) ?_ ?_
 ·intro m hm _;have hc:=Zrx l[m] (hA _ (List.getElem_mem hm));(repeat' first|refine M.gw ?_|refine M.c2 (hc) ?_|fail);all_goals first
   |(exfalso;simp at h;done)
   |skip
  exact⟨rfl,trivial,(M.W [])⟩
 ·intro _;(repeat' first|refine M.gw ?_|fail)
  rfl
theorem Zow{p:Fm}{l:List Tm}(h:(fill p l).2=0):(fill p l).1.full<=266240:=by
 simp only[fill] at h ⊢;by_cases h1:p.err≠0
 ·rw[if_pos h1] at h;exact absurd h h1
 rw[if_neg h1] at h ⊢;by_cases h2:16<l.length
 ·rw[if_pos h2] at h;cases h
 rw[if_neg h2] at h ⊢;exact z9 (VL _ _ _ _ (Classical.not_not.1 h1) h)
theorem Zxq(lems hyps:List Fm)(tys:List Ty)(g:Fm)(lem:Bool)(i:Int)(hib: -9223372036854775808<=i/\i<=9223372036854775807)
 (hl:∀f∈lems,f.full<3000000000) (hh:∀f∈hyps,f.full<3000000000) (ht:(tys.map Ty.size).sum<100000000000) (hll:lems.length<1000000) (hhl:hyps.length<1000000) (hg:g.full<3000000000):
 ∃(S:List St) (L:List Fm) (e:Int),PC E 19 [.s .fm lems,.agg [.s .ty tys,.s .fm hyps,.i g.kind,.i g.ty.kind,.s .ty g.ty.args,.s .tm g.terms,.s .fm g.args],.bool lem,.i i] (.Ax [.s .st S,.s .fm L,.i e])/\
  PC E 20 [.s .fm lems,.agg [.s .ty tys,.s .fm hyps,.i g.kind,.i g.ty.kind,.s .ty g.ty.args,.s .tm g.terms,.s .fm g.args],.bool lem,.i i] (.Ax [.s .st S,.s .fm L,.i e])/\
  S.length<100000000/\(∀s∈S,s.full<100000000000)/\(L.map Fm.full).sum<1099511627776:=by
 have hck:=Znn lems hyps tys g (fun f h=>by have:=hl f h;omega) (fun f h=>by have:=hh f h;omega) ht (by omega) (by omega) (by omega);have hrk:=Zmw lems hyps tys g (fun f h=>by have:=hl f h;omega) (fun f h=>by have:=hh f h;omega) ht (by omega) (by omega) (by omega);by_cases he0:(if CU lems tys hyps≠0 then CU lems tys hyps else yb tys g)=0;case neg=>
  generalize (if CU lems tys hyps≠0 then CU lems tys hyps else yb tys g)=e0 at*;refine⟨[],[],e0,?_,?_,by decide,fun s h=>(by cases h),by decide⟩
  ·refine M.F Tryz.func19 ?_;(repeat' first|refine M.go ?_|refine M.c2 (hck) ?_|refine M.z1 4 ?_|refine M.cs ?_ ?_<;>intro h|refine M.gk ?_|fail);all_goals first
    |rfl
    |(exfalso;simp at h;exact he0 h)
    |trace_state
  ·refine M.F Tryz.func20 ?_;(repeat' first|refine M.go ?_|refine M.c2 (hrk) ?_|refine M.z1 4 ?_|refine M.cs ?_ ?_<;>intro h|refine M.gk ?_|fail);all_goals first
    |rfl
    |(exfalso;simp at h;exact he0 h)
    |trace_state
 rw[he0] at hck hrk;have hs0:CU lems tys hyps=0:=by
  by_cases h:CU lems tys hyps=0
  ·exact h
  ·rw[if_pos h] at he0;exact he0
 have hok:=V9 hs0;have hsrc:=Zyd lems hyps tys g lem i hll hhl hib;by_cases hi:0<=i/\i<(if lem=true then lems else hyps).length;case neg=>
  rw[if_neg hi,if_neg hi] at hsrc;refine⟨[],[],if lem=true then 9 else 8,?_,?_,by decide,fun s h=>(by cases h),by decide⟩
  ·cases lem;all_goals
    simp only[Bool.false_eq_true,if_false,if_true] at hsrc hi ⊢;refine M.F Tryz.func19 ?_;(repeat' first|refine M.go ?_|refine M.c2 (hck) ?_|refine M.c2 (hsrc) ?_|refine M.z1 7 ?_|refine M.gk ?_|fail);all_goals first
     |rfl
     |(exfalso;simp at h;done)
     |trace_state
  ·cases lem;all_goals
    simp only[Bool.false_eq_true,if_false,if_true] at hi ⊢;refine M.F Tryz.func20 ?_;(repeat' first|refine M.go ?_|refine M.c2 (hrk) ?_|refine M.gs ?_ ?_<;>intro h|refine M.z2 10 16 ?_|refine M.cs ?_ ?_<;>intro h|refine M.gk ?_|fail);all_goals first
     |rfl
     |(exfalso;simp at h;done)
     |(exfalso;rename_i h2;simp at h2 h;omega)
     |(exfalso;rename_i h2 h;simp at h2 h;omega)
     |(exfalso;simp_all;omega)
     |trace_state
 rw[if_pos hi,if_pos hi] at hsrc;obtain⟨f,hf⟩:∃f,f=if lem=true then lems.getD i.toNat Az else hyps.getD (hyps.length-1-i.toNat) Az:=⟨_,rfl⟩
 rw[<-hf] at hsrc;have hfm:f.err=0/\f.full<=266240:=by
  cases lem with
  |true=>
   simp only[if_true] at hf hi;have hlt:i.toNat<lems.length:=by omega
   have:f∈lems:=by rw[hf];simp[List.getD,hlt]
   exact⟨(hok.lems f this).1,by have:=z9 (hok.lems f this).1;omega⟩
  |false=>
   simp only[Bool.false_eq_true,if_false] at hf hi;have hlt:hyps.length-1-i.toNat<hyps.length:=by omega
   have:f∈hyps:=by rw[hf];simp[List.getD,hlt]
   exact⟨(hok.hyps f this).1,by have:=z9 (hok.hyps f this).1;omega⟩
 obtain⟨ferr,ffull⟩:=hfm;have hfs:=(Fm.Ad f).1 ferr;obtain⟨qs,b,hfq,hb4,hb6,hbs,hqs⟩:=Yd7 f hfs.1;obtain⟨ps,c,rfl,hc3,hcs,hps⟩:=Yeb b hbs;have hqk:=fun q hq=>(hqs q hq).1;have f1:=Ry qs (B9 ps c);have f2:=LA ps c;rw[<-hfq] at f1;have hpa:=Zwj qs ps c hqk ⟨hb4,hb6⟩ hc3 (by rw[<-hfq];omega);have hpr:=Zy5 qs ps c hqk ⟨hb4,hb6⟩ hc3 (by rw[<-hfq];omega) (by rw[<-hfq];exact ferr);rw[<-hfq] at hpa hpr;have hcf:c.full<100000000:=by omega
 have hpf:∀p∈ps,p.full<100000000:=fun p hp=>by
  have:=ze (fun p:Fm=>2+p.full) hp;omega
 have hpl:ps.length<=(ps.map fun p=>2+p.full).sum:=zh _ (fun p=>by omega) ps;have hql:qs.length<=(qs.map fun q=>1+q.2.size).sum:=zh _ (fun q=>by omega) qs;obtain⟨ts,hts⟩:∃ts,ts=qs.map (·.2):=⟨_,rfl⟩;have htl:ts.length=qs.length:=by rw[hts,List.length_map]
 rw[<-hts] at hpa hpr;have hm:=Wy c g ts.length (by omega) (by omega);have hmr:=Yaj c g ts.length (by omega) (by omega);have hms:=Zri c ts.length g;have hml:=fun he=>(Zsj (p:=c) (f:=g) (h:=(ts.length:Int)) he);generalize xq c ts.length g=M at*;obtain⟨fs,e⟩:=M;simp only at hm hmr hms hml;have hfb:∀t∈fs,t.full<1000000000:=fun t ht=>by have:=ze Tm.full ht;omega
 have hle:e=0->fs.length=ts.length:=fun h=>by have:=(hml h).1;omega
 have a1:=Zwg lems hyps tys g f lem i ts ps c fs e hck hsrc hpa hm hib hle (by omega) (by omega) hfb
  (fun p hp=>Ybj p fs (by have:=hpf p hp;omega) (fun _ t ht=>by have:=hfb t ht;omega))
 have a2:=Zr8 lems hyps tys g f lem i ts ps c fs e hrk hhl hll hi hf hpr hmr hib hle (by omega) (by omega) hfb
  (fun p hp=>Qe p fs (by have:=hpf p hp;omega) (fun _ t ht=>by have:=hfb t ht;omega))
 refine⟨_,_,_,a1,a2,?_,?_,?_⟩
 ·unfold Gx;split
  ·simp
  ·split
   ·simp
   ·have:(vd lem i).length<=1:=by unfold vd;split<;>simp
    simp only[List.length_append,Ez,Ev,List.length_map,List.length_range,List.length_cons,List.length_nil];omega
 ·unfold Gx;split
  ·intro s h;cases h
  ·split
   ·intro s h;cases h
   ·intro s h;simp only[List.mem_append,List.mem_singleton] at h;rcases h with((h|h)|h)|h
    ·unfold vd at h;split at h
     ·simp only[List.mem_singleton] at h;subst h;simp[St.full]
     ·cases h
    ·obtain ⟨m,_,rfl⟩:=List.mem_map.1 h;simp only[St.full,Gb,List.map_cons,List.map_nil,List.sum_cons,List.sum_nil];by_cases hlt:ts.length-1-m<fs.length
     ·have:fs.getD (ts.length-1-m) va=fs[ts.length-1-m]:=by simp[List.getD,hlt]
      rw[this];have:=hfb _ (List.getElem_mem hlt);omega
     ·have:fs.getD (ts.length-1-m) va=va:=by simp[List.getD,List.getElem?_eq_none (Nat.le_of_not_lt hlt)]
      rw[this];decide
    ·obtain ⟨m,_,rfl⟩:=List.mem_map.1 h;simp[St.full,Il]
    ·subst h;simp[St.full,Q6]
 ·unfold Gx;split
  ·simp
  ·split
   ·simp
   ·simp only[List.map_map];rename_i h8;have hz:=ud (Classical.not_not.1 h8);have:=O3 (f:=fun p:Fm=>(fill p fs).1.full) (B:=266240) (l:=ps) fun p hp=>Zow (hz p hp);simp only[Function.comp_def];omega
theorem Zh1(l:List Int)(lem:Bool)(i:Int)(hib: -9223372036854775808<=i/\i<=9223372036854775807):PC E 4 [.s .int l,.bool lem,.i i] (.bool true):=by
 have hsane:=Zy6;have hfew:=Yh6 l;by_cases hl:l.length<=500;case neg=>
  rw[decide_eq_false hl] at hfew;refine M.F Tryz.func4 ?_;(repeat' first|refine M.gw ?_|refine M.c2 (hsane) ?_|refine M.c2 (hfew) ?_|fail)
  rfl
 rw[decide_eq_true hl] at hfew;have hnew:=Yis l;have hd:(Dk.mk l 0).ok:=⟨Nat.zero_le _,by simp only;omega⟩;obtain⟨d,hde⟩:∃d,d=Dk.mk l 0:=⟨_,rfl⟩;rw[<-hde] at hnew hd;have hlm:=Yac d hd;have hlg:∀f∈d.lm.1,f.err=0:=fun f hf=>(Dk.Dd _ _ _ zo f hf).1;have hll:=d.Jc;have okl:=Dk.Kx hd;obtain⟨g,d2,ok2,ge,gt,hG⟩:=Zxr d.lm.2 okl;have hhg:=d.lm.2.Gv;have hg:=d.lm.2.Bx;have hgl:=d.lm.2.Cl;have hhl:=d.lm.2.EZ;have hhe:∀f∈d.lm.2.EV,f.err=0:=fun f hf=>(hhg.hyps f hf).1;have hsum:(d.lm.2.ctx.1.map Ty.size).sum<100000000000:=by have:=hhg.sum;simp only[Dk.Mu] at this;omega
 generalize d.lm.2.EV=hyps at*;generalize d.lm.2.ctx.1=tys at*;generalize d.lm.1=lems at*;generalize d.lm.2=d1 at*;have hpt:=Zth d2 ok2;have hg2:=Dk.Bx d2;have hgl2:=Dk.Cl d2;have hb:=Dk.Bb d2.ctx.2 4 (by omega);obtain⟨Ls,l1,l2,l3,l4⟩:=Dk.DL hg2 (d2.ctx.2.next 4).2 (d2.ctx.2.next 4).1.toNat;have e1:d2.pt.1=d2.ctx.1++(Ls.map (·.2)).reverse:=l1;have e2:d2.pt.2.1=Ls.map (·.1):=l2;have hL:Ls.length<=3:=by omega
 clear l1 l2 l3;generalize d2.ctx.1=g2 at*;generalize d2.pt=r at*;obtain⟨all,own,D3⟩:=r;simp only at hpt e1 e2;have hall:Ai all:=by
  rw[e1];refine zp hg2 fun x hx=> ?_;rw[List.mem_reverse] at hx;obtain⟨q,hq,rfl⟩:=List.mem_map.1 hx;exact(l4 q hq).2
 have hgood:=Dk.CC 2 D3 all hall;generalize (Dk.fm 2 D3 all).2=D4 at*;generalize (Dk.fm 2 D3 all).1=p at*;obtain⟨hsh,hsz,hfu⟩:=hgood;have hpf:p.full<=4800:=by have:(2:Nat)^2=4:=rfl;rw[this] at hfu;omega
 have hol:own.length<=3:=by rw[e2];simp;omega
 have hfl:∀s∈own,s.full<2000:=fun s hs=>by
  rw[e2] at hs;obtain⟨q,hq,rfl⟩:=List.mem_map.1 hs;have:=(l4 q hq).1.full hg2 (l4 q hq).2;have h34:(3:Nat)^4=81:=rfl;omega
 have hfill:=Qe p own (by omega) fun _ t ht=>by have:=hfl t ht;omega
 have hfb:=Q0 (p:=p) (l:=own);generalize (fill p own).1=f at*;generalize (fill p own).2=fe at*;have hmod:=UJ i 4 (by omega);have hmb:=Tf i 4 (by omega);generalize IL i 4=mi at*;have gf:=z9 ge;have hlf:∀f∈lems,f.full<3000000000:=fun f hf=>by have:=z9 (hlg f hf);omega
 have hhf:∀x∈hyps++[f],x.full<3000000000:=fun x hx=>by
  rcases List.mem_append.1 hx with hx|hx
  ·have:=z9 (hhe x hx);omega
  ·simp only[List.mem_singleton] at hx;subst hx;omega
 have hts:(tys.map Ty.size).sum<100000000000:=hsum;clear hsh hsz hfu hall e1 e2 l4 hg2 hgl2 hb hlg hhe hhg gt;have hX:∀j∈[i,mi],-9223372036854775808<=j/\j<=9223372036854775807:=fun j hj=>by
  simp only[List.mem_cons,List.not_mem_nil,or_false] at hj;rcases hj with rfl|rfl<;>omega
 have hU:=fun(g:Fm) (hgf:g.full<3000000000) (j:Int) hj=>Zxq lems (hyps++[f]) tys g lem j hj hlf hhf hts (by omega) (by simp;omega) hgf;have ffl:f.full<3000000000:=by omega
 have gfl:g.full<3000000000:=by omega
 obtain⟨gk,⟨gtk,gta⟩,gts,gas⟩:=g;obtain⟨fk,⟨ftk,fta⟩,fts,fas⟩:=f;have hU1:=hU _ gfl;have hU2:=hU _ ffl;clear hU hhf hlf hts hfb gf ge;generalize hhyps:hyps++[Fm.mk fk (.mk ftk fta) fts fas]=H2 at*;simp only[Fm.kind,Fm.ty,Fm.terms,Fm.args,Ty.kind,Ty.args] at hG hU1 hU2;refine M.F Tryz.func4 ?_;(repeat' first|refine M.go ?_|refine M.c2 (hsane) ?_|refine M.c2 (hfew) ?_|refine M.cb (hnew) [] 1 ?_|refine M.cb (hlm) [0] 0 ?_|refine M.cb (hG) [0] 1 ?_|refine M.cb (hpt) [0] 0 ?_|refine M.c2 (hfill) ?_|refine M.z1 9 ?_|refine M.gk ?_|fail);clear hnew hlm hG hpt hfill hsane hfew;(repeat' first|refine M.gw ?_|refine M.c2 (hmod) ?_|fail);rw[hhyps];refine AW.range ([i,mi]:List Int).length (fun m=>True) (fun m=>([(1,.bool lem),(8,.s .fm lems),(9,.ptr 0 0),(13,.ptr 1 0),(59,.s .int [i,mi]),(60,.i ([i,mi]:List Int).length),(61,.i m)],⟨2,[(0,.var [.s .ty tys,.s .fm H2,.i gk,.i gtk,.s .ty gta,.s .tm gts,.s .fm gas]),(1,.var [.i fk,.i ftk,.s .ty fta,.s .tm fts,.s .fm fas])]⟩))
  (by simp) (fun m=>rfl) (fun m=>rfl) rfl trivial (M.W [some 2,some 4]) ?_ ?_
 ·intro m hm _;have hj:=hX _ (List.getElem_mem hm);obtain⟨S1,L1,e1,u1,u2,u3,u4,u5⟩:=hU1 [i,mi][m] hj;obtain⟨S2,L2,e2,v1,v2,v3,v4,v5⟩:=hU2 [i,mi][m] hj;have c1:=RG S1 u3 u4;have c2:=P6 L1 u5;have d1:=RG S2 v3 v4;have d2:=P6 L2 v5;clear hU1 hU2;(repeat' first|refine M.gw ?_|fail);refine AW.range ([⟨⟨tys,H2⟩,Fm.mk gk (.mk gtk gta) gts gas⟩,⟨⟨tys,H2⟩,Fm.mk fk (.mk ftk fta) fts fas⟩]:List Gl).length (fun m=>True) (fun m2=>([(1,.bool lem),(8,.s .fm lems),(9,.ptr 0 0),(13,.ptr 1 0),(59,.s .int [i,mi]),(60,.i ([i,mi]:List Int).length),(61,.i m),(16,.i [i,mi][m]),(70,.s .gl [⟨⟨tys,H2⟩,Fm.mk gk (.mk gtk gta) gts gas⟩,⟨⟨tys,H2⟩,Fm.mk fk (.mk ftk fta) fts fas⟩]),(71,.i 2),(72,.i m2)],⟨2,[(0,.var [.s .ty tys,.s .fm H2,.i gk,.i gtk,.s .ty gta,.s .tm gts,.s .fm gas]),(1,.var [.i fk,.i ftk,.s .ty fta,.s .tm fts,.s .fm fas])]⟩))
   (by simp) (fun m=>rfl) (fun m=>rfl) rfl trivial (M.W [some 0,some 1]) ?_ ?_
  ·intro m2 hm2 _;obtain rfl|rfl:m2=0\/m2=1:=by simp at hm2;omega
   ·repeat' (first|refine M.gw ?_|refine M.c2 (u1) ?_|refine M.c2 (u2) ?_|refine M.c2 (c1) ?_|refine M.c2 (c2) ?_|refine M.gs ?_ ?_<;>intro h|fail)
    all_goals first
     |(exfalso;simp at h;done)
     |skip
    exact⟨rfl,trivial,(M.W [some 0,some 1])⟩
   ·repeat' (first|refine M.gw ?_|refine M.c2 (v1) ?_|refine M.c2 (v2) ?_|refine M.c2 (d1) ?_|refine M.c2 (d2) ?_|refine M.gs ?_ ?_<;>intro h|fail)
    all_goals first
     |(exfalso;simp at h;done)
     |skip
    exact⟨rfl,trivial,(M.W [some 0,some 1])⟩
  ·intro _;repeat'(first|with_reducible refine K.bN ?_)
   exact⟨rfl,trivial,(M.W [some 0,some 1])⟩
 ·intro _;(repeat' first|refine M.gw ?_|fail)
  rfl
end Go.Ab
