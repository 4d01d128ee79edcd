/- A part of the proofs of this seat. No conditions. -/
import Derived.Test.YtpnbmjgblakifaaGreatDoorST2
namespace Go.Ab
open Go Go.Proofs
set_option maxRecDepth 100000
set_option maxHeartbeats 4000000
set_option linter.all false
theorem Yi6(lems hyps:List Fm)(tys:List Ty)(hl:∀f∈lems,f.full<274877906944)(hh:∀f∈hyps,f.full<274877906944)(ht:(tys.map Ty.size).sum<549755813888)(hll:lems.length<549755813888)(hhl:hyps.length<549755813888):
 PC E 125 [.s .fm lems,.agg [.s .ty tys,.s .fm hyps]] (.i (G5 lems tys hyps)):=by
 have h1:=So tys (by omega);unfold G5;by_cases c1:lems.length>32
 ·rw[if_pos c1];refine M.F Tryz.func125 ?_;(repeat' first|refine M.go ?_|refine M.z1 3 ?_|refine M.cs ?_ ?_<;>intro h|refine M.gk ?_|fail);all_goals first
   |rfl
   |(exfalso;simp at h;omega)
   |trace_state
 rw[if_neg c1];refine M.F Tryz.func125 ?_;(repeat' first|refine M.gw ?_|refine M.cs ?_ ?_<;>intro h|fail)
 ·exfalso;simp at h;omega
 refine AW.range lems.length (fun m=>∀j (hj:j<lems.length),j<m->ym [] lems[j]=0)
  (fun m=>([(3,.ptr 0 0),(15,.s .fm lems),(16,.i lems.length),(17,.i m)],⟨1,[(0,.var [.s .ty tys,.s .fm hyps])]⟩))
  (by omega) (fun m=>rfl) (fun m=>rfl) rfl (fun j hj h=>by omega) (M.W [some 0]) ?_ ?_
 ·intro m hm hP;have hc:=Of [] lems[m] (by have:=hl _ (List.getElem_mem hm);omega) (by simp);by_cases hx:ym [] lems[m]=0
  ·rw[hx] at hc;(repeat' first|refine M.gw ?_|refine M.c2 (hc) ?_|fail);exact⟨rfl,yc (p:=fun f=>ym [] f=0) hm hP hx,(M.W [some 0])⟩
  ·have e:=Kt hm hP hx;rw[e,if_pos hx];(repeat' first|refine M.gw ?_|refine M.c2 (hc) ?_|refine M.cs ?_ ?_<;>intro h|fail);all_goals first
    |rfl
    |(exfalso;rename_i h5;simp at h5;exact hx h5)
    |(exfalso;simp at h;exact hx h)
    |trace_state
 ·intro hP;rw[vg fun j hj _=>hP j hj hj,if_neg (by simp)];by_cases c2:xq tys=0;case neg=>
   rw[if_pos c2];(repeat' first|refine M.go ?_|refine M.c2 (h1) ?_|refine M.z1 13 ?_|refine M.cs ?_ ?_<;>intro h|refine M.gk ?_|fail);all_goals first
    |rfl
    |(exfalso;simp at h;exact c2 h)
    |trace_state
  rw[if_neg (by simp[c2])];rw[c2] at h1;by_cases c3:hyps.length>16
  ·rw[if_pos c3];(repeat' first|refine M.go ?_|refine M.c2 (h1) ?_|refine M.z1 15 ?_|refine M.cs ?_ ?_<;>intro h|refine M.gk ?_|fail);all_goals first
    |rfl
    |(exfalso;simp at h;omega)
    |trace_state
  rw[if_neg c3];(repeat' first|refine M.gw ?_|refine M.c2 (h1) ?_|refine M.cs ?_ ?_<;>intro h|fail)
  ·exfalso;simp at h;omega
  refine AW.range hyps.length (fun m=>∀j (hj:j<hyps.length),j<m->ym tys hyps[j]=0)
   (fun m=>([(3,.ptr 0 0),(38,.s .fm hyps),(39,.i hyps.length),(40,.i m)],⟨1,[(0,.var [.s .ty tys,.s .fm hyps])]⟩))
   (by omega) (fun m=>rfl) (fun m=>rfl) rfl (fun j hj h=>by omega) (M.W [some 0]) ?_ ?_
  ·intro m hm hP2;have hc:=Of tys hyps[m] (by have:=hh _ (List.getElem_mem hm);omega) (by omega);by_cases hx:ym tys hyps[m]=0
   ·rw[hx] at hc;(repeat' first|refine M.gw ?_|refine M.c2 (hc) ?_|fail);exact⟨rfl,yc (p:=fun f=>ym tys f=0) hm hP2 hx,(M.W [some 0])⟩
   ·have e:=Kt hm hP2 hx;rw[e];(repeat' first|refine M.gw ?_|refine M.c2 (hc) ?_|refine M.cs ?_ ?_<;>intro h|fail);all_goals first
     |rfl
     |(exfalso;rename_i h5;simp at h5;exact hx h5)
     |(exfalso;simp at h;exact hx h)
     |trace_state
  ·intro hP2;rw[vg fun j hj _=>hP2 j hj hj];(repeat' first|refine M.gw ?_|fail)
   rfl
theorem T0(lems hyps:List Fm)(tys:List Ty)(p:Pf)(hl:∀f∈lems,f.full<274877906944)(hh:∀f∈hyps,f.full<274877906944)(ht:(tys.map Ty.size).sum<549755813888)(hll:lems.length<549755813888)(hhl:hyps.length<549755813888)(hp:p.full<274877906944):
 PC E 58 [.s .fm lems,.agg [.s .ty tys,.s .fm hyps],.agg p.view] (DG (Hy lems tys hyps p).1 (Hy lems tys hyps p).2.1 (Hy lems tys hyps p).2.2):=by
 have h1:=Yi6 lems hyps tys hl hh ht hll hhl;have h2:=TE p (by omega);unfold Hy;by_cases c1:G5 lems tys hyps=0;case neg=>
  rw[if_pos c1];refine M.F Tryz.func58 ?_;(repeat' first|refine M.go ?_|refine M.c2 (h1) ?_|refine M.z1 4 ?_|refine M.cs ?_ ?_<;>intro h|refine M.gk ?_|fail);all_goals first
   |rfl
   |(exfalso;simp at h;exact c1 h)
   |trace_state
 rw[if_neg (by simp[c1])];rw[c1] at h1;by_cases c2:p.err=0;case neg=>
  rw[if_pos c2];refine M.F Tryz.func58 ?_;(repeat' first|refine M.go ?_|refine M.c2 (h1) ?_|refine M.c2 (h2) ?_|refine M.z1 7 ?_|refine M.cs ?_ ?_<;>intro h|refine M.gk ?_|fail);all_goals first
   |rfl
   |(exfalso;simp at h;exact c2 h)
   |trace_state
 rw[if_neg (by simp[c2])];rw[c2] at h2;obtain⟨ps,pm,_⟩:=(Pf.Ae p).1 c2;have hok:=Yet c1;have h3:PC E 126 [.agg [.s .fm lems,.s .ty tys,.s .fm hyps],.agg p.view] (DG (Cf p ⟨lems,tys,hyps⟩).1 (Cf p ⟨lems,tys,hyps⟩).2.1 (Cf p ⟨lems,tys,hyps⟩).2.2):=Zzz p ps pm ⟨lems,tys,hyps⟩ hok;have hro:=MT p ps ⟨lems,tys,hyps⟩ hok;generalize Cf p ⟨lems,tys,hyps⟩=r at*;obtain⟨f,u,e⟩:=r;have hb:=Gr hok hro;have h4:=vx _ f (Nat.le_refl _) (by omega);by_cases he:e=0
 ·subst he;refine M.F Tryz.func58 ?_;(repeat' first|refine M.gw ?_|refine M.c2 (h1) ?_|refine M.c2 (h2) ?_|refine M.c2 (h3) ?_|refine M.c2 (h4) ?_|fail)
  rfl
 ·have e1:=hro.2 he;simp only[yb,Prod.mk.injEq] at e1;obtain⟨rfl,rfl,_⟩:=e1;refine M.F Tryz.func58 ?_;(repeat' first|refine M.go ?_|refine M.c2 (h1) ?_|refine M.c2 (h2) ?_|refine M.c2 (h3) ?_|refine M.z1 10 ?_|refine M.cs ?_ ?_<;>intro h|refine M.gk ?_|fail);all_goals first
   |rfl
   |(exfalso;simp at h;exact he h)
   |trace_state
theorem Znk(p:Pf):(p.shape=false/\p.err=2/\p.num=0)\/(p.shape=true/\(p.small=false\/p.size>16384)/\p.err=4/\p.num=0)\/(p.shape=true/\p.small=true/\p.size<=16384/\p.err=0/\p.num=p.size):=by
 unfold Pf.num Pf.err;cases hs:p.shape with
 |false=>simp
 |true=>
  by_cases h:p.small=false\/p.size>16384
  ·simp[h]
  ·have h':=h;rw[not_or,Bool.not_eq_false] at h';simp[h,h'.1];omega
theorem Tq(p:Pf)(hp:p.full<274877906944):PC E 111 [.agg p.view] (.Az [.i p.num,.i p.err]):=by
 have ht:=Zz2 _ p (0,false) (Nat.le_refl _) hp (by simp only;omega);obtain⟨t1,t2,t3⟩:=Qe p (0,false);rw[t1] at ht;have hsz:=p.Aj;rcases Znk p with⟨h1,h2,h3⟩|⟨h1,h2,h3,h4⟩|⟨h1,h2,h3,h4,h5⟩
 ·rw[h2,h3];rw[h1] at ht;refine M.F Tryz.func111 ?_;(repeat' first|refine M.gw ?_|refine M.cb (ht) [1] 0 ?_|refine M.zb ?_|fail)
  rfl
 ·rw[h3,h4];rw[h1] at ht;obtain⟨t4,t5⟩:=t3 h1;rw[t4] at ht;cases hm:p.small with
  |false=>
   rw[hm] at ht;refine M.F Tryz.func111 ?_;(repeat' first|refine M.gw ?_|refine M.cb (ht) [1] 0 ?_|refine M.zb ?_|fail)
   rfl
  |true=>
   have t6:=t5 hm;have h6:p.size>16384:=by rcases h2 with h2|h2;rw[hm] at h2;cases h2;exact h2
   rw[hm,t6] at ht;simp only[Nat.zero_add,Bool.not_true,Bool.or_false] at ht;refine M.F Tryz.func111 ?_;(repeat' first|refine M.gw ?_|refine M.cb (ht) [1] 0 ?_|refine M.zb ?_|refine M.cs ?_ ?_<;>intro h|fail);all_goals first
    |rfl
    |(exfalso;simp at h;omega)
    |trace_state
 ·rw[h4,h5];rw[h1] at ht;obtain⟨t4,t5⟩:=t3 h1;have t6:=t5 h2;rw[t4,h2,t6] at ht;simp only[Nat.zero_add,Bool.not_true,Bool.or_false] at ht;refine M.F Tryz.func111 ?_;(repeat' first|refine M.gw ?_|refine M.cb (ht) [1] 0 ?_|refine M.zb ?_|refine M.cs ?_ ?_<;>intro h|fail);all_goals first
   |rfl
   |(exfalso;simp at h;omega)
   |trace_state
theorem vj(p:Pf)(hp:p.full<274877906944):PC E 43 [.agg p.view] (.i p.err):=by
 have h1:=Tq p hp;refine M.F Tryz.func43 ?_;(repeat' first|refine M.gw ?_|refine M.c2 (h1) ?_|fail)
 rfl
def WX(p:Pf):Pf×Int:=if p.err=0 then(p,0) else(Bc,4)
inductive Ch where
 |tm (t:Tm)|fm (f:Fm)|pf (p:Pf)
def Ch.cell:Ch->V
 | .tm t=> .ifc 47 t.view
 | .fm f=> .ifc 69 f.view
 | .pf p=> .ifc 38 p.view
def Ch.err:Ch->Int
 | .tm t=>t.err| .fm f=>f.err| .pf p=>p.err
def Ch.full:Ch->Nat
 | .tm t=>t.full| .fm f=>f.full| .pf p=>p.full
def chV(l:List Ch):V:= .slice .any (.u 1 (l.map fun x=>[x.cell]))
def Qs(l:List Ch)(p:Pf):Pf×Int:=if xw Ch.err l≠0 then(Bc,xw Ch.err l) else WX p
theorem Nx(a b:Tm):(AP a b).full=2+a.full+b.full:=by
 simp only[AP,Fm.full,Fm.Au,List.map_cons,List.map_nil,List.sum_cons,List.sum_nil,Ty.size,Ty.sizes];omega
theorem Kz(i:Int):(vT i).full=2:=by simp only[vT,Tm.full,Tm.Au,Ty.size,Ty.sizes]
theorem KE(f x:Tm):(AO f x).full=2+f.full+x.full:=by
 simp only[AO,Tm.full,Tm.Au,Ty.size,Ty.sizes];omega
theorem Sb(d:Dk)(hd:d.ok):AC E 11 [.ptr 0 0] ⟨1,[(0,.var d.cells)]⟩ (.agg [.s .ty d.ctx.1,.s .fm d.FO]) ⟨1,[(0,.var d.GF.cells)]⟩:=by
 have h1:=Zvo d hd;have h2:=uv d.ctx.2 3 (Dk.Fo hd) (by omega);have hb:=Dk.Bx d.ctx.2 3 (by omega);have hg:=d.BW;have hgl:=d.ED;obtain⟨c,hc⟩:∃c:Nat,(d.ctx.2.next 3).1=c:=⟨(d.ctx.2.next 3).1.toNat,by omega⟩;have hcn:d.KM=c:=by unfold Dk.KM;omega
 have hdo:=Dk.AE (Dk.Fo hd) 3;rw[hc] at h2 hb;have eH:d.FO=(Dk.De c (d.ctx.2.next 3).2 d.ctx.1).1:=by unfold Dk.FO;rw[hcn]
 have eD:d.GF=(Dk.De c (d.ctx.2.next 3).2 d.ctx.1).2:=by unfold Dk.GF;rw[hcn]
 rw[eH,eD];generalize d.ctx.1=g at*;generalize (d.ctx.2.next 3).2=d2 at*;refine M.F Tryz.func11 ?_;(repeat' first|refine M.gw ?_|refine M.cb (h1) [0] 0 ?_|refine M.cb (h2) [0] 0 ?_|fail);refine AW.down c (fun m=>m<=c)
  (fun m=>([(0,.ptr 0 0),(2,.ptr 1 0),(3,.ptr 2 0),(4,.i m)],⟨4,[(0,.var (Dk.De (c-m) d2 g).2.cells),(1,.var [.slice .nil (.t .ty []),.slice .nil (.t .fm [])]),(2,.var [.s .ty g,.slice (.own 3) (.t .fm (Dk.De (c-m) d2 g).1)]),(3,.row)]⟩))
  (by omega) (fun m=>rfl) rfl (Nat.le_refl _) ?_ ?_ ?_
 ·simp only[Nat.sub_self];exact(M.W [some 0,some 1,some 2,none])
 ·intro m hm hP;have e:=Dk.DR (c-(m+1)) d2 g;rw[show c-(m+1)+1=c-m by omega] at e;have h3:=R2 2 (Dk.De (c-(m+1)) d2 g).2 g 2 (by omega) rfl (Dk.DQ _ _ _ hdo) hg (by omega);have hl:=Dk.C6 (c-(m+1)) d2 g;(repeat' first|refine M.gw ?_|refine M.cb (h3) [0] 0 ?_|fail);refine⟨rfl,by omega,?_⟩;simp only[e];exact(M.W [some 0,some 1,some 2,some 4])
 ·intro _;simp only[Nat.sub_zero];(repeat' first|refine M.gw ?_|fail)
  (exact M.n2 [some 0] (h8:=(by simp[zj,V.wk,V.Ap,za,Ty.view,Tm.view,V.BP])))
def exC:Ck:=⟨[],[Af,Af],[AP (vT 0) (vT 1)]⟩
theorem N9(i:Int):PC E 165 [.i i] (.agg (xo i).view):=by
 refine AC.mk Tryz.func165 rfl rfl rfl rfl rfl (Nat.le_of_ble_eq_true rfl) ?_;repeat'(first|((with_reducible refine D.nil ?_);refine AX.Bd ?_)|((with_reducible refine D.move ?_);refine L.mv U U U ?_)|((with_reducible refine D.alloc ?_);refine L.al U U U ?_)|((with_reducible refine D.store ?_);refine L.st U U U U U U U U U ?_)|((with_reducible refine D.ax ?_);refine L.bd U U U U U ?_)|((with_reducible refine D.aw ?_);first|refine K.sq (AW.AU ?_)|refine AW.ret ?_)|with_reducible refine K.tN ?_|with_reducible refine K.r1 (by with_unfolding_all rfl) (by with_unfolding_all rfl) ?_)
 rfl
theorem S0(fr by_ i bl:Int):AC E 193 [.i i,.i bl,.ptr 0 0,.ptr 1 0] ⟨2,[(0,.var [.i fr]),(1,.var [.i by_])]⟩ (.agg (G7 fr by_ i bl).view) ⟨2,[(0,.var [.i fr]),(1,.var [.i by_])]⟩:=by
 have hv:=Sx;refine M.F Tryz.func193 ?_;(repeat' first|refine M.gw ?_|refine M.c2 (hv _) ?_|refine M.cs ?_ ?_<;>intro h|fail)
 ·have h':fr<=IntKind.i64.wrap (i-bl):=by simpa using h
  (exact M.n2 [some 0,some 1] (h8:=(by simp[zj,V.wk,V.Ap,za,Ty.view,Tm.view,G7,h'])))
 ·have h':¬fr<=IntKind.i64.wrap (i-bl):=by simpa using h
  (exact M.n2 [some 0,some 1] (h8:=(by simp[zj,V.wk,V.Ap,za,Ty.view,Tm.view,G7,h'])))
theorem Yk9(fr by_:Int):∀(n:Nat) (t:Tm) (bl:Int),t.full<=n->n<549755813888->0<=bl->bl+n<549755813888->AC E 233 [.agg t.view,.i bl,.ptr 0 0,.ptr 1 0] ⟨4,[(0,.var [.fn (.func 193) [] [.ptr 2 0,.ptr 3 0]]),(1,.var [.fn (.func 233) [] [.ptr 0 0,.ptr 1 0]]),(2,.var [.i fr]),(3,.var [.i by_])]⟩ (.agg (t.re (G7 fr by_) bl).view) ⟨4,[(0,.var [.fn (.func 193) [] [.ptr 2 0,.ptr 3 0]]),(1,.var [.fn (.func 233) [] [.ptr 0 0,.ptr 1 0]]),(2,.var [.i fr]),(3,.var [.i by_])]⟩:=by
 intro n;induction n with
 |zero=>intro t bl h;have:=t.Aa;omega
 |succ n ih=>
 intro t bl hsz hb hbl hbn;have hsz':=Tm.Ag t;have hlen:=zd Tm.full Tm.Aa t.args;have hre:=Tm.Bj (G7 fr by_) bl t;have hcb:=S0 fr by_ t.index bl;have hown:=GB _ t.ty (Nat.le_refl _) (by omega);refine M.F Tryz.func233 ?_;(repeat' first|refine M.gw ?_|refine M.cv (hcb) [2,3] 0 ?_|refine M.c2 (hown) ?_|refine M.cs ?_ ?_<;>intro h|fail)
 ·have hk:t.kind=1:=by simpa using h
  (exact M.n2 [some 0,some 1,some 2,some 3] (h8:=(by simp[zj,V.wk,V.Ap,za,Ty.view,Tm.view,hre,hk])))
 all_goals
  rename_i hk1;have hup:up t.kind bl<=bl+1:=by simp only[up];split<;>omega
  have hup0:0<=up t.kind bl:=by simp only[up];split<;>omega
  have hk1':¬t.kind=1:=by simpa using hk1
  refine AW.range t.args.length (fun m=>True)
   (fun m=>([(1,.i (up t.kind bl)),(3,.ptr 1 0),(6,.ptr 5 0),(7,.ptr 6 0),(32,.s .tm t.args),(33,.i t.args.length),(34,.i m)],⟨8,[(0,.var [.fn (.func 193) [] [.ptr 2 0,.ptr 3 0]]),(1,.var [.fn (.func 233) [] [.ptr 0 0,.ptr 1 0]]),(2,.var [.i fr]),(3,.var [.i by_]),(4,.var t.view),(5,.var [.i 0,.i 0,.i 0,.slice .nil (.t .ty []),.slice .nil (.t .tm [])]),(6,.var [.i t.kind,.i t.index,.i t.ty.kind,.s .ty t.ty.args,.slice (.own 7) (.t .tm ((t.args.take m).map (Tm.re (G7 fr by_) (up t.kind bl))))]),(7,.row)]⟩))
   (by omega) (fun m=>rfl) (fun m=>rfl) rfl trivial ?_ ?_ ?_
  ·simp_all only[beq_iff_eq,beq_eq_false_iff_ne,ne_eq];exact(M.W [some 0,some 1,some 2,some 3,some 4,some 5,some 6,none] (hf:=(by(repeat'(first|exact trivial|refine And.intro ?_ ?_|refine⟨_,U,_,U,?_⟩|exact An.refl _|exact An.of_eq (by simp[Ao.Ax,up, *])));done)))
  ·intro m hm hP;have hs2:=zc Tm.full (List.getElem_mem hm);have hc:=ih t.args[m] (up t.kind bl) (by omega) (by omega) hup0 (by omega);(repeat' first|refine M.gw ?_|refine M.cv (hc) [0,1,2,3] 0 ?_|fail);refine⟨rfl,trivial,?_⟩;exact(M.W [some 0,some 1,some 2,some 3,some 4,some 5,some 6,some 9] (he:=(by(repeat'(first|exact trivial|exact Or.inr ⟨_,U,rfl⟩|refine And.intro ?_ ?_|refine⟨_,U,_,U,_,U,?_⟩|exact An.refl _|exact An.of_eq (by simp[Ao.Ax,z8 _ _ _ hm])));done)))
  ·intro hP;(repeat' first|refine M.gw ?_|fail)
   (exact M.n2 [some 0,some 1,some 2,some 3] (h8:=(by simp[zj,V.wk,V.Ap,za,Ty.view,Tm.view,hre,hk1'])))
theorem QJ(fr by_:Int)(t:Tm)(ht:t.full<274877906944):AC E 192 [.agg t.view,.fn (.func 193) [] [.ptr 0 0,.ptr 1 0]] ⟨2,[(0,.var [.i fr]),(1,.var [.i by_])]⟩ (.agg (t.lw fr by_).view) ⟨2,[(0,.var [.i fr]),(1,.var [.i by_])]⟩:=by
 have hc:=Yk9 fr by_ _ t 0 (Nat.le_refl _) (by omega) (by omega) (by omega);unfold Tm.lw;refine M.F Tryz.func192 ?_;(repeat' first|refine M.gw ?_|refine M.cv (hc) [3,5,0,1] 0 ?_|fail)
 (exact M.n2 [some 0,some 1] (h8:=(by simp[zj,V.wk,V.Ap,za,Ty.view,Tm.view,hc])))
theorem LR(t:Tm)(fr by_:Int)(ht:t.full<274877906944):PC E 142 [.agg t.view,.i fr,.i by_] (.agg (t.lw fr by_).view):=by
 have hc:=QJ fr by_ t ht;refine M.F Tryz.func142 ?_;(repeat' first|refine M.gw ?_|refine M.cb (hc) [1,2] 0 ?_|fail);simp[zj,V.wk,V.Ap,za,Ty.view,Tm.view]
theorem Yka(fr by_:Int)(hat:0<=fr/\fr<274877906944)(t:Tm)(bl:Int)(ht:t.full<274877906944)(hb:0<=bl/\bl<274877906944):
 AC E 196 [.agg t.view,.i bl,.ptr 0 0,.ptr 1 0] ⟨2,[(0,.var [.i fr]),(1,.var [.i by_])]⟩ (.agg (t.lw (fr+bl) by_).view) ⟨2,[(0,.var [.i fr]),(1,.var [.i by_])]⟩:=by
 have hc:=LR t (fr+bl) by_ ht;refine M.F Tryz.func196 ?_;(repeat' first|refine M.gw ?_|refine M.c2 (hc) ?_|fail)
 (exact M.n2 [some 0,some 1] (h8:=(by simp[zj,V.wk,V.Ap,za,Ty.view,Tm.view,hc])))
theorem Yh3(fr by_:Int)(hat:0<=fr/\fr<274877906944):∀(n:Nat) (f:Fm) (bl:Int),f.full<=n->n<274877906944->0<=bl->bl+n<274877906944->
 AC E 195 [.agg f.view,.i bl,.fn (.func 196) [] [.ptr 0 0,.ptr 1 0]] ⟨2,[(0,.var [.i fr]),(1,.var [.i by_])]⟩ (.agg (f.re (fun b t=>t.lw (fr+b) by_) bl).view) ⟨2,[(0,.var [.i fr]),(1,.var [.i by_])]⟩:=by
 intro n;induction n with
 |zero=>intro f bl h;intros;have:=f.Aa;omega
 |succ n ih=>
 intro f bl hsz hb hbl hbn;have hsz':=f.Ag;have hlen:=zd Fm.full Fm.Aa f.args;have hlen2:=zd Tm.full Tm.Aa f.terms;have hty:=GB _ f.ty (Nat.le_refl _) (by omega);have hq:=uq f.kind;have hre:=Fm.Bj (fun b t=>t.lw (fr+b) by_) bl f;refine M.F Tryz.func195 ?_;(repeat' first|refine M.gw ?_|refine M.c2 (hty) ?_|fail);refine AW.range f.terms.length (fun m=>True)
  (fun m=>([(1,.i bl),(2,.fn (.func 196) [] [.ptr 0 0,.ptr 1 0]),(3,.ptr 2 0),(6,.ptr 3 0),(7,.ptr 4 0),(19,.s .tm f.terms),(20,.i f.terms.length),(21,.i m)],⟨6,[(0,.var [.i fr]),(1,.var [.i by_]),(2,.var f.view),(3,.var [.i 0,.i 0,.slice .nil (.t .ty []),.slice .nil (.t .tm []),.slice .nil (.t .fm [])]),(4,.var [.i f.kind,.i f.ty.kind,.s .ty f.ty.args,.slice (.own 5) (.t .tm ((f.terms.take m).map ((fun b t=>t.lw (fr+b) by_) bl))),.slice .nil (.t .fm [])]),(5,.row)]⟩))
  (by omega) (fun m=>rfl) (fun m=>rfl) rfl trivial (M.W [some 0,some 1,some 2,some 3,some 4,none]) ?_ ?_
 ·intro m hm _;have hs2:=zc Tm.full (List.getElem_mem hm);have hc:=Yka fr by_ hat f.terms[m] bl (by omega) (by omega);(repeat' first|refine M.gw ?_|refine M.cv (hc) [0,1] 0 ?_|fail);exact⟨rfl,trivial,(M.W [some 0,some 1,some 2,some 3,some 4,some 7] (he:=(by(repeat'(first|exact trivial|exact Or.inr ⟨_,U,rfl⟩|refine And.intro ?_ ?_|refine⟨_,U,_,U,_,U,?_⟩|exact An.refl _|exact An.of_eq (by simp[Ao.Ax,z8 _ _ _ hm])));done)))⟩
 ·intro _;simp only[List.take_length];cases hqk:xp f.kind with
  |true=>
   rw[hqk] at hq;have hu:A3 f.kind bl=bl+1:=by simp[A3,hqk]
   rw[hu] at hre;(repeat' first|refine M.gw ?_|refine M.c2 (hq) ?_|fail);refine AW.range f.args.length (fun m=>True)
    (fun m=>([(1,.i (bl+1)),(2,.fn (.func 196) [] [.ptr 0 0,.ptr 1 0]),(3,.ptr 2 0),(6,.ptr 3 0),(7,.ptr 4 0),(41,.s .fm f.args),(42,.i f.args.length),(43,.i m)],⟨7,[(0,.var [.i fr]),(1,.var [.i by_]),(2,.var f.view),(3,.var [.i 0,.i 0,.slice .nil (.t .ty []),.slice .nil (.t .tm []),.slice .nil (.t .fm [])]),(4,.var [.i f.kind,.i f.ty.kind,.s .ty f.ty.args,.slice (.own 5) (.t .tm (f.terms.map ((fun b t=>t.lw (fr+b) by_) bl))),.slice (.own 6) (.t .fm ((f.args.take m).map (Fm.re (fun b t=>t.lw (fr+b) by_) (bl+1))))]),(5,.row),(6,.row)]⟩))
    (by omega) (fun m=>rfl) (fun m=>rfl) rfl trivial (M.W [some 0,some 1,some 2,some 3,some 4,some 5,none]) ?_ ?_
   ·intro m hm _;have hs2:=zc Fm.full (List.getElem_mem hm);have hc:=ih f.args[m] (bl+1) (by omega) (by omega) (by omega) (by omega);(repeat' first|refine M.gw ?_|refine M.cv (hc) [0,1] 0 ?_|fail);exact⟨rfl,trivial,(M.W [some 0,some 1,some 2,some 3,some 4,some 5,some 8] (he:=(by(repeat'(first|exact trivial|exact Or.inr ⟨_,U,rfl⟩|refine And.intro ?_ ?_|refine⟨_,U,_,U,_,U,?_⟩|exact An.refl _|exact An.of_eq (by simp[Ao.Ax,z8 _ _ _ hm])));done)))⟩
   ·intro _;simp only[List.take_length];(repeat' first|refine M.gw ?_|fail)
    (exact M.n2 [some 0,some 1] (h8:=(by simp[zj,V.wk,V.Ap,za,Ty.view,Tm.view,hre])))
  |false=>
   rw[hqk] at hq;have hu:A3 f.kind bl=bl:=by simp[A3,hqk]
   rw[hu] at hre;(repeat' first|refine M.gw ?_|refine M.c2 (hq) ?_|fail);refine AW.range f.args.length (fun m=>True)
    (fun m=>([(1,.i bl),(2,.fn (.func 196) [] [.ptr 0 0,.ptr 1 0]),(3,.ptr 2 0),(6,.ptr 3 0),(7,.ptr 4 0),(41,.s .fm f.args),(42,.i f.args.length),(43,.i m)],⟨7,[(0,.var [.i fr]),(1,.var [.i by_]),(2,.var f.view),(3,.var [.i 0,.i 0,.slice .nil (.t .ty []),.slice .nil (.t .tm []),.slice .nil (.t .fm [])]),(4,.var [.i f.kind,.i f.ty.kind,.s .ty f.ty.args,.slice (.own 5) (.t .tm (f.terms.map ((fun b t=>t.lw (fr+b) by_) bl))),.slice (.own 6) (.t .fm ((f.args.take m).map (Fm.re (fun b t=>t.lw (fr+b) by_) bl)))]),(5,.row),(6,.row)]⟩))
    (by omega) (fun m=>rfl) (fun m=>rfl) rfl trivial (M.W [some 0,some 1,some 2,some 3,some 4,some 5,none]) ?_ ?_
   ·intro m hm _;have hs2:=zc Fm.full (List.getElem_mem hm);have hc:=ih f.args[m] bl (by omega) (by omega) (by omega) (by omega);(repeat' first|refine M.gw ?_|refine M.cv (hc) [0,1] 0 ?_|fail);exact⟨rfl,trivial,(M.W [some 0,some 1,some 2,some 3,some 4,some 5,some 8] (he:=(by(repeat'(first|exact trivial|exact Or.inr ⟨_,U,rfl⟩|refine And.intro ?_ ?_|refine⟨_,U,_,U,_,U,?_⟩|exact An.refl _|exact An.of_eq (by simp[Ao.Ax,z8 _ _ _ hm])));done)))⟩
   ·intro _;simp only[List.take_length];(repeat' first|refine M.gw ?_|fail)
    (exact M.n2 [some 0,some 1] (h8:=(by simp[zj,V.wk,V.Ap,za,Ty.view,Tm.view,hre])))
theorem Yhj(f:Fm)(fr by_:Int)(hat:0<=fr/\fr<274877906944)(hf:f.full<137438953472):PC E 144 [.agg f.view,.i fr,.i by_] (.agg (f.lw fr by_).view):=by
 have hc:=Yh3 fr by_ hat _ f 0 (Nat.le_refl _) (by omega) (by omega) (by omega);refine M.F Tryz.func144 ?_;(repeat' first|refine M.gw ?_|refine M.cv (hc) [1,2] 0 ?_|fail)
 rfl
theorem Yl1(fr by_:Int)(hat:0<=fr/\fr<274877906944)(t:Tm)(bl:Int)(ht:t.full<274877906944)(hb:0<=bl/\bl<274877906944):
 AC E 141 [.agg t.view,.i bl,.ptr 0 0,.ptr 1 0] ⟨2,[(0,.var [.i fr]),(1,.var [.i by_])]⟩ (.agg (t.lw (fr+bl) by_).view) ⟨2,[(0,.var [.i fr]),(1,.var [.i by_])]⟩:=by
 have hc:=LR t (fr+bl) by_ ht;refine M.F Tryz.func141 ?_;(repeat' first|refine M.gw ?_|refine M.c2 (hc) ?_|fail)
 (exact M.n2 [some 0,some 1] (h8:=(by simp[zj,V.wk,V.Ap,za,Ty.view,Tm.view,hc])))
theorem Yky(fr by_:Int)(hat:0<=fr/\fr<100000000000)(f:Fm)(bl:Int)(ht:f.full<137438953472)(hb:0<=bl/\bl<100000000000):
 AC E 143 [.agg f.view,.i bl,.ptr 0 0,.ptr 1 0] ⟨2,[(0,.var [.i fr]),(1,.var [.i by_])]⟩ (.agg (f.lw (fr+bl) by_).view) ⟨2,[(0,.var [.i fr]),(1,.var [.i by_])]⟩:=by
 have hc:=Yhj f (fr+bl) by_ (by omega) ht;generalize f.lw (fr+bl) by_=F at*;refine M.F Tryz.func143 ?_;(repeat' first|refine M.gw ?_|refine M.c2 (hc) ?_|fail)
 (exact M.n2 [some 0,some 1] (h8:=(by simp[zj,V.wk,V.Ap,za,Ty.view,Tm.view,Fm.view])))
theorem Yg1(fr by_:Int)(hfr:0<=fr/\fr<10000000000):∀(n:Nat) (p:Pf) (v y:Int),p.full<=n->n<10000000000->(0<=v/\v+2*n<=50000000000)->(0<=y/\y+2*n<=50000000000)->p.nd->
 AC E 113 [.agg p.view,.agg [.i v,.i y],.agg [.fn (.func 141) [] [.ptr 0 0,.ptr 1 0],.fn (.func 143) [] [.ptr 0 0,.ptr 1 0],.nilf]] ⟨2,[(0,.var [.i fr]),(1,.var [.i by_])]⟩ (.agg (p.uw fr by_ v).view) ⟨2,[(0,.var [.i fr]),(1,.var [.i by_])]⟩:=by
 intro n;induction n with
 |zero=>intro p v y hz;have:=p.Aa;omega
 |succ n ih=>
 intro p v y hz hn hv hh hs;have hre:=p.FW fr by_ v;have hsz':=p.Ag;have hlen:=zd Pf.full Pf.Aa p.args;have hlen1:=zd Fm.full Fm.Aa p.Ac;have hlen2:=zd Tm.full Tm.Aa p.terms;have hty:=GB _ p.ty (Nat.le_refl _) (by omega);have hru:=vd p.kind;obtain⟨⟨nd,n1,n4⟩,hpf⟩:=(Pf.Bz p).1 hs;have hal:p.args.length<=2:=by
  rw[n4];unfold BO at n1
  repeat(split at n1;· cases n1;decide)
  cases n1
 have hpl:=fun(m:Nat) (hm:m<=1000000)=>yx p.kind v y nd n1 m hm (by omega) (by omega);have e2:CR p.kind=[.bool nd.index,.bool nd.typ,.i nd.terms,.i nd.Ac,.i nd.args,.i (AD p.kind),.i (As p.kind),.i (At p.kind)]:=by unfold CR;rw[n1]
 have b1:0<=As p.kind/\As p.kind<=2:=by unfold As;split<;>(try split)<;>omega
 have b2:0<=At p.kind/\At p.kind<=1:=by unfold At;split<;>omega
 have b3:0<=AD p.kind/\AD p.kind<=1:=by unfold AD;split<;>omega
 rw[n1] at hru;simp only[Option.isSome_some] at hru;rw[e2] at hru;simp only[e2] at hpl;refine M.F Tryz.func113 ?_;(repeat' first|refine M.gw ?_|refine M.c2 (hru) ?_|refine M.c2 (hty) ?_|refine M.gs ?_ ?_<;>intro h|fail);all_goals
  refine AW.range p.terms.length (fun m=>True)
   (fun m=>([(3,.ptr 2 0),(4,.ptr 3 0),(5,.ptr 4 0),(6,.ptr 5 0),(7,.ptr 6 0),(9,.ptr 7 0),(44,.s .tm p.terms),(45,.i p.terms.length),(46,.i m)],⟨9,[(0,.var [.i fr]),(1,.var [.i by_]),(2,.var p.view),(3,.var [.i v,.i y]),(4,.var [.fn (.func 141) [] [.ptr 0 0,.ptr 1 0],.fn (.func 143) [] [.ptr 0 0,.ptr 1 0],.nilf]),(5,.var [.i 0,.i 0,.i 0,.slice .nil (.t .ty []),.slice .nil (.t .tm []),.slice .nil (.t .fm []),.slice .nil (.t .pf [])]),(6,.var [.bool nd.index,.bool nd.typ,.i nd.terms,.i nd.Ac,.i nd.args,.i (AD p.kind),.i (As p.kind),.i (At p.kind)]),(7,.var [.i p.kind,.i p.index,.i p.ty.kind,.s .ty p.ty.args,.slice (.own 8) (.t .tm ((p.terms.take m).map fun t=>t.lw (fr+v) by_)),.slice .nil (.t .fm []),.slice .nil (.t .pf [])]),(8,.row)]⟩))
   (by omega) (fun m=>rfl) (fun m=>rfl) rfl trivial (M.W [some 0,some 1,some 2,some 3,some 4,some 5,some 6,some 7,none]) ?_ ?_
  ·intro m hm _;have hs2:=zc Tm.full (List.getElem_mem hm);have hc:=Yl1 fr by_ (by omega) p.terms[m] v (by omega) (by omega);(repeat' first|refine M.gw ?_|refine M.cv (hc) [0,1] 0 ?_|fail);exact⟨rfl,trivial,(M.W [some 0,some 1,some 2,some 3,some 4,some 5,some 6,some 7,some 10] (he:=(by(repeat'(first|exact trivial|exact Or.inr ⟨_,U,rfl⟩|refine And.intro ?_ ?_|refine⟨_,U,_,U,_,U,?_⟩|exact An.refl _|exact An.of_eq (by simp[Ao.Ax,z8 _ _ _ hm])));done)))⟩
  ·intro _;simp only[List.take_length];(repeat' first|refine M.gw ?_|fail);refine AW.range p.Ac.length (fun m=>True)
    (fun m=>([(3,.ptr 2 0),(4,.ptr 3 0),(5,.ptr 4 0),(6,.ptr 5 0),(7,.ptr 6 0),(9,.ptr 7 0),(73,.s .fm p.Ac),(74,.i p.Ac.length),(75,.i m)],⟨10,[(0,.var [.i fr]),(1,.var [.i by_]),(2,.var p.view),(3,.var [.i v,.i y]),(4,.var [.fn (.func 141) [] [.ptr 0 0,.ptr 1 0],.fn (.func 143) [] [.ptr 0 0,.ptr 1 0],.nilf]),(5,.var [.i 0,.i 0,.i 0,.slice .nil (.t .ty []),.slice .nil (.t .tm []),.slice .nil (.t .fm []),.slice .nil (.t .pf [])]),(6,.var [.bool nd.index,.bool nd.typ,.i nd.terms,.i nd.Ac,.i nd.args,.i (AD p.kind),.i (As p.kind),.i (At p.kind)]),(7,.var [.i p.kind,.i p.index,.i p.ty.kind,.s .ty p.ty.args,.slice (.own 8) (.t .tm (p.terms.map fun t=>t.lw (fr+v) by_)),.slice (.own 9) (.t .fm ((p.Ac.take m).map fun f=>f.lw (fr+(v+AD p.kind)) by_)),.slice .nil (.t .pf [])]),(8,.row),(9,.row)]⟩))
    (by omega) (fun m=>rfl) (fun m=>rfl) rfl trivial (M.W [some 0,some 1,some 2,some 3,some 4,some 5,some 6,some 7,some 8,none]) ?_ ?_
   ·intro m hm _;have hs2:=zc Fm.full (List.getElem_mem hm);have hc:=Yky fr by_ (by omega) p.Ac[m] (v+AD p.kind) (by omega) (by omega);(repeat' first|refine M.gw ?_|refine M.cv (hc) [0,1] 0 ?_|fail);exact⟨rfl,trivial,(M.W [some 0,some 1,some 2,some 3,some 4,some 5,some 6,some 7,some 8,some 11] (he:=(by(repeat'(first|exact trivial|exact Or.inr ⟨_,U,rfl⟩|refine And.intro ?_ ?_|refine⟨_,U,_,U,_,U,?_⟩|exact An.refl _|exact An.of_eq (by simp[Ao.Ax,z8 _ _ _ hm])));done)))⟩
   ·intro _;simp only[List.take_length];(repeat' first|refine M.gw ?_|fail);refine AW.range p.args.length (fun m=>True)
     (fun m=>([(3,.ptr 2 0),(4,.ptr 3 0),(5,.ptr 4 0),(6,.ptr 5 0),(7,.ptr 6 0),(9,.ptr 7 0),(105,.s .pf p.args),(106,.i p.args.length),(107,.i m)],⟨11,[(0,.var [.i fr]),(1,.var [.i by_]),(2,.var p.view),(3,.var [.i v,.i y]),(4,.var [.fn (.func 141) [] [.ptr 0 0,.ptr 1 0],.fn (.func 143) [] [.ptr 0 0,.ptr 1 0],.nilf]),(5,.var [.i 0,.i 0,.i 0,.slice .nil (.t .ty []),.slice .nil (.t .tm []),.slice .nil (.t .fm []),.slice .nil (.t .pf [])]),(6,.var [.bool nd.index,.bool nd.typ,.i nd.terms,.i nd.Ac,.i nd.args,.i (AD p.kind),.i (As p.kind),.i (At p.kind)]),(7,.var [.i p.kind,.i p.index,.i p.ty.kind,.s .ty p.ty.args,.slice (.own 8) (.t .tm (p.terms.map fun t=>t.lw (fr+v) by_)),.slice (.own 9) (.t .fm (p.Ac.map fun f=>f.lw (fr+(v+AD p.kind)) by_)),.slice (.own 10) (.t .pf ((Pf.DA fr by_ v (As p.kind) p.args).take m))]),(8,.row),(9,.row),(10,.row)]⟩))
     (by omega) (fun m=>rfl) (fun m=>rfl) rfl trivial (M.W [some 0,some 1,some 2,some 3,some 4,some 5,some 6,some 7,some 8,some 9,none]) ?_ ?_
    ·intro m hm _;have hs2:=zc Pf.full (List.getElem_mem hm);have hb:=hpl m (by omega);have hc:=ih p.args[m] (if m+1=p.args.length then v+As p.kind else v) (if(m:Int)=(nd.args:Int)-1 then y+At p.kind else y) (by omega) (by omega) (by split<;>omega) (by split<;>omega) (hpf _ (List.getElem_mem hm));have ev:(if(m:Int)=(nd.args:Int)-1 then v+As p.kind else v)=(if m+1=p.args.length then v+As p.kind else v):=by
      by_cases hx:m+1=p.args.length
      ·rw[if_pos hx,if_pos (by omega)]
      ·rw[if_neg hx,if_neg (by omega)]
     rw[ev] at hb;(repeat' first|refine M.gw ?_|refine M.c2 (hb) ?_|refine M.cv (hc) [0,1] 0 ?_|fail);exact⟨rfl,trivial,(M.W [some 0,some 1,some 2,some 3,some 4,some 5,some 6,some 7,some 8,some 9,some 12] (he:=(by(repeat'(first|exact trivial|exact Or.inr ⟨_,U,rfl⟩|refine And.intro ?_ ?_|refine⟨_,U,_,U,_,U,?_⟩|exact An.refl _|exact An.of_eq (by simp[Ao.Ax,Ycp hm])));done)))⟩
    ·intro _;simp only[Yf2];(repeat' first|refine M.gw ?_|fail);rw[hre]
     (exact M.n2 [some 0,some 1] (h8:=(by simp[zj,V.wk,V.Ap,za,Ty.view,Tm.view,hre])))
theorem Ym(p:Pf)(fr by_:Int)(hfr:0<=fr/\fr<10000000000)(hp:p.full<5000000000)(hs:p.nd):PC E 80 [.agg p.view,.i fr,.i by_] (.agg (p.uw fr by_ 0).view):=by
 have hc:=Yg1 fr by_ hfr _ p 0 0 (Nat.le_refl _) (by omega) (by omega) (by omega) hs;refine M.F Tryz.func80 ?_;(repeat' first|refine M.gw ?_|refine M.cv (hc) [1,2] 0 ?_|fail);simp[zj,V.wk,V.Ap,za,Ty.view,Tm.view]
theorem Rj(fr by_:Int)(i v y:Int)(p:Pf):
 AC E 206 [.agg p.view,.agg [.i v,.i y],.ptr 0 0,.ptr 1 0] ⟨2,[(0,.var [.i fr]),(1,.var [.i by_])]⟩ (.agg (xo (if IntKind.i64.wrap (p.index-y)>=fr then IntKind.i64.wrap (p.index+by_) else p.index)).view) ⟨2,[(0,.var [.i fr]),(1,.var [.i by_])]⟩:=by
 have h1:=N9 (IntKind.i64.wrap (p.index+by_));have h2:=N9 p.index;by_cases h0:IntKind.i64.wrap (p.index-y)>=fr
 ·rw[if_pos h0];refine M.F Tryz.func206 ?_;(repeat' first|refine M.gw ?_|refine M.c2 (h1) ?_|refine M.c2 (h2) ?_|refine M.cs ?_ ?_<;>intro h|fail)
  ·(exact M.n2 [some 0,some 1] (h8:=(by simp[zj,V.wk,V.Ap,za,Ty.view,Tm.view,Pf.view,xo])))
  ·exfalso;simp at h;omega
 ·rw[if_neg h0];refine M.F Tryz.func206 ?_;(repeat' first|refine M.gw ?_|refine M.c2 (h1) ?_|refine M.c2 (h2) ?_|refine M.cs ?_ ?_<;>intro h|fail)
  ·exfalso;simp at h;omega
  ·(exact M.n2 [some 0,some 1] (h8:=(by simp[zj,V.wk,V.Ap,za,Ty.view,Tm.view,Pf.view,xo])))
theorem Yig(fr by_:Int):∀(n:Nat) (p:Pf) (v y:Int),p.full<=n->n<10000000000->(0<=v/\v+2*n<=50000000000)->(0<=y/\y+2*n<=50000000000)->p.nd->
 AC E 113 [.agg p.view,.agg [.i v,.i y],.agg [.nilf,.nilf,.fn (.func 206) [] [.ptr 0 0,.ptr 1 0]]] ⟨2,[(0,.var [.i fr]),(1,.var [.i by_])]⟩ (.agg (p.hw fr by_ y).view) ⟨2,[(0,.var [.i fr]),(1,.var [.i by_])]⟩:=by
 intro n;induction n with
 |zero=>intro p v y hz;have:=p.Aa;omega
 |succ n ih=>
 intro p v y hz hn hv hh hs;have hre:=p.Il fr by_ y;by_cases hk:p.kind=1
 ·rw[if_pos hk] at hre;rw[hre];have hc:=Rj fr by_ 0 v y p;refine M.F Tryz.func113 ?_;(repeat' first|refine M.go ?_|refine M.cv (hc) [0,1] 0 ?_|refine M.gs ?_ ?_<;>intro h|refine M.z1 3 ?_|refine M.gk ?_|fail);all_goals first|exfalso;simp at h;omega|exfalso;simp_all;done|exact M.n2 [some 0,some 1] (h8:=(by simp[zj,V.wk,V.Ap,za,Ty.view,Tm.view,Pf.view,xo]))
 rw[if_neg hk] at hre;have hsz':=p.Ag;have hlen:=zd Pf.full Pf.Aa p.args;have hlen1:=zd Fm.full Fm.Aa p.Ac;have hlen2:=zd Tm.full Tm.Aa p.terms;have hty:=GB _ p.ty (Nat.le_refl _) (by omega);have hru:=vd p.kind;obtain⟨⟨nd,n1,n4⟩,hpf⟩:=(Pf.Bz p).1 hs;have hal:p.args.length<=2:=by
  rw[n4];unfold BO at n1
  repeat(split at n1;· cases n1;decide)
  cases n1
 have hpl:=fun(m:Nat) (hm:m<=1000000)=>yx p.kind v y nd n1 m hm (by omega) (by omega);have e2:CR p.kind=[.bool nd.index,.bool nd.typ,.i nd.terms,.i nd.Ac,.i nd.args,.i (AD p.kind),.i (As p.kind),.i (At p.kind)]:=by unfold CR;rw[n1]
 have b1:0<=As p.kind/\As p.kind<=2:=by unfold As;split<;>(try split)<;>omega
 have b2:0<=At p.kind/\At p.kind<=1:=by unfold At;split<;>omega
 have b3:0<=AD p.kind/\AD p.kind<=1:=by unfold AD;split<;>omega
 rw[n1] at hru;simp only[Option.isSome_some] at hru;rw[e2] at hru;simp only[e2] at hpl;refine M.F Tryz.func113 ?_;(repeat' first|refine M.go ?_|refine M.c2 (hru) ?_|refine M.c2 (hty) ?_|refine M.gs ?_ ?_<;>intro h|refine M.z1 5 ?_|refine M.gk ?_|fail);all_goals first
  |(exfalso;simp at h;omega)
  |skip
 (repeat' first|refine M.gw ?_|fail);all_goals
  refine AW.range p.terms.length (fun m=>True)
   (fun m=>([(3,.ptr 2 0),(4,.ptr 3 0),(5,.ptr 4 0),(6,.ptr 5 0),(7,.ptr 6 0),(9,.ptr 7 0),(44,.s .tm p.terms),(45,.i p.terms.length),(46,.i m)],⟨9,[(0,.var [.i fr]),(1,.var [.i by_]),(2,.var p.view),(3,.var [.i v,.i y]),(4,.var [.nilf,.nilf,.fn (.func 206) [] [.ptr 0 0,.ptr 1 0]]),(5,.var [.i 0,.i 0,.i 0,.slice .nil (.t .ty []),.slice .nil (.t .tm []),.slice .nil (.t .fm []),.slice .nil (.t .pf [])]),(6,.var [.bool nd.index,.bool nd.typ,.i nd.terms,.i nd.Ac,.i nd.args,.i (AD p.kind),.i (As p.kind),.i (At p.kind)]),(7,.var [.i p.kind,.i p.index,.i p.ty.kind,.s .ty p.ty.args,.slice (.own 8) (.t .tm (p.terms.take m)),.slice .nil (.t .fm []),.slice .nil (.t .pf [])]),(8,.row)]⟩))
   (by omega) (fun m=>rfl) (fun m=>rfl) rfl trivial (M.W [some 0,some 1,some 2,some 3,some 4,some 5,some 6,some 7,none]) ?_ ?_
  ·intro m hm _;have hs2:=zc Tm.full (List.getElem_mem hm);have hc:=OB _ p.terms[m] (Nat.le_refl _) (by omega);(repeat' first|refine M.gw ?_|refine M.c2 (hc) ?_|fail);exact⟨rfl,trivial,(M.W [some 0,some 1,some 2,some 3,some 4,some 5,some 6,some 7,some 10] (he:=(by(repeat'(first|exact trivial|exact Or.inr ⟨_,U,rfl⟩|refine And.intro ?_ ?_|refine⟨_,U,_,U,_,U,?_⟩|exact An.refl _|exact An.of_eq (by simp[Ao.Ax,List.take_append_getElem])));done)))⟩
  ·intro _;simp only[List.take_length];(repeat' first|refine M.gw ?_|fail);refine AW.range p.Ac.length (fun m=>True)
    (fun m=>([(3,.ptr 2 0),(4,.ptr 3 0),(5,.ptr 4 0),(6,.ptr 5 0),(7,.ptr 6 0),(9,.ptr 7 0),(73,.s .fm p.Ac),(74,.i p.Ac.length),(75,.i m)],⟨10,[(0,.var [.i fr]),(1,.var [.i by_]),(2,.var p.view),(3,.var [.i v,.i y]),(4,.var [.nilf,.nilf,.fn (.func 206) [] [.ptr 0 0,.ptr 1 0]]),(5,.var [.i 0,.i 0,.i 0,.slice .nil (.t .ty []),.slice .nil (.t .tm []),.slice .nil (.t .fm []),.slice .nil (.t .pf [])]),(6,.var [.bool nd.index,.bool nd.typ,.i nd.terms,.i nd.Ac,.i nd.args,.i (AD p.kind),.i (As p.kind),.i (At p.kind)]),(7,.var [.i p.kind,.i p.index,.i p.ty.kind,.s .ty p.ty.args,.slice (.own 8) (.t .tm (p.terms)),.slice (.own 9) (.t .fm (p.Ac.take m)),.slice .nil (.t .pf [])]),(8,.row),(9,.row)]⟩))
    (by omega) (fun m=>rfl) (fun m=>rfl) rfl trivial (M.W [some 0,some 1,some 2,some 3,some 4,some 5,some 6,some 7,some 8,none]) ?_ ?_
   ·intro m hm _;have hs2:=zc Fm.full (List.getElem_mem hm);have hc:=SD p.Ac[m] (by omega);(repeat' first|refine M.gw ?_|refine M.c2 (hc) ?_|fail);exact⟨rfl,trivial,(M.W [some 0,some 1,some 2,some 3,some 4,some 5,some 6,some 7,some 8,some 11] (he:=(by(repeat'(first|exact trivial|exact Or.inr ⟨_,U,rfl⟩|refine And.intro ?_ ?_|refine⟨_,U,_,U,_,U,?_⟩|exact An.refl _|exact An.of_eq (by simp[Ao.Ax,List.take_append_getElem])));done)))⟩
   ·intro _;simp only[List.take_length];(repeat' first|refine M.gw ?_|fail);refine AW.range p.args.length (fun m=>True)
     (fun m=>([(3,.ptr 2 0),(4,.ptr 3 0),(5,.ptr 4 0),(6,.ptr 5 0),(7,.ptr 6 0),(9,.ptr 7 0),(105,.s .pf p.args),(106,.i p.args.length),(107,.i m)],⟨11,[(0,.var [.i fr]),(1,.var [.i by_]),(2,.var p.view),(3,.var [.i v,.i y]),(4,.var [.nilf,.nilf,.fn (.func 206) [] [.ptr 0 0,.ptr 1 0]]),(5,.var [.i 0,.i 0,.i 0,.slice .nil (.t .ty []),.slice .nil (.t .tm []),.slice .nil (.t .fm []),.slice .nil (.t .pf [])]),(6,.var [.bool nd.index,.bool nd.typ,.i nd.terms,.i nd.Ac,.i nd.args,.i (AD p.kind),.i (As p.kind),.i (At p.kind)]),(7,.var [.i p.kind,.i p.index,.i p.ty.kind,.s .ty p.ty.args,.slice (.own 8) (.t .tm (p.terms)),.slice (.own 9) (.t .fm (p.Ac)),.slice (.own 10) (.t .pf ((Pf.DX fr by_ y (At p.kind) p.args).take m))]),(8,.row),(9,.row),(10,.row)]⟩))
     (by omega) (fun m=>rfl) (fun m=>rfl) rfl trivial (M.W [some 0,some 1,some 2,some 3,some 4,some 5,some 6,some 7,some 8,some 9,none]) ?_ ?_
    ·intro m hm _;have hs2:=zc Pf.full (List.getElem_mem hm);have hb:=hpl m (by omega);have hc:=ih p.args[m] (if(m:Int)=(nd.args:Int)-1 then v+As p.kind else v) (if m+1=p.args.length then y+At p.kind else y) (by omega) (by omega) (by split<;>omega) (by split<;>omega) (hpf _ (List.getElem_mem hm));have ev:(if(m:Int)=(nd.args:Int)-1 then y+At p.kind else y)=(if m+1=p.args.length then y+At p.kind else y):=by
      by_cases hx:m+1=p.args.length
      ·rw[if_pos hx,if_pos (by omega)]
      ·rw[if_neg hx,if_neg (by omega)]
     rw[ev] at hb;(repeat' first|refine M.gw ?_|refine M.c2 (hb) ?_|refine M.cv (hc) [0,1] 0 ?_|fail);exact⟨rfl,trivial,(M.W [some 0,some 1,some 2,some 3,some 4,some 5,some 6,some 7,some 8,some 9,some 12] (he:=(by(repeat'(first|exact trivial|exact Or.inr ⟨_,U,rfl⟩|refine And.intro ?_ ?_|refine⟨_,U,_,U,_,U,?_⟩|exact An.refl _|exact An.of_eq (by simp[Ao.Ax,Ya8 hm])));done)))⟩
    ·intro _;simp only[Ydq];(repeat' first|refine M.gw ?_|fail);rw[hre]
     (exact M.n2 [some 0,some 1] (h8:=(by simp[zj,V.wk,V.Ap,za,Ty.view,Tm.view,hre])))
theorem Yiu(p:Pf)(fr by_:Int)(hp:p.full<5000000000)(hs:p.nd):PC E 164 [.agg p.view,.i fr,.i by_] (.agg (p.hw fr by_ 0).view):=by
 have hc:=Yig fr by_ _ p 0 0 (Nat.le_refl _) (by omega) (by omega) (by omega) hs;refine M.F Tryz.func164 ?_;(repeat' first|refine M.gw ?_|refine M.cv (hc) [1,2] 0 ?_|fail);simp[zj,V.wk,V.Ap,za,Ty.view,Tm.view]
theorem Yla(a:Int)(s:Tm)(ha:0<=a/\a<100000000000)(hs:s.full<274877906944)(hsi:∀p∈s.vars 0,0<=p.1/\p.1<549755813888)(t:Tm)(bl:Int)(ht:t.full<274877906944)(hb:0<=bl/\bl<100000000000)(hix:∀p∈t.vars 0,0<=p.1/\p.1<549755813888):
 AC E 154 [.agg t.view,.i bl,.ptr 0 0,.ptr 1 0] ⟨2,[(0,.var [.i a]),(1,.var s.view)]⟩ (.agg (t.re (xd (a+bl) s) 0).view) ⟨2,[(0,.var [.i a]),(1,.var s.view)]⟩:=by
 have hc:=VX t (a+bl) s (by omega) hs hsi ht hix;generalize t.re (xd (a+bl) s) 0=u at*;refine M.F Tryz.func154 ?_;(repeat' first|refine M.gw ?_|refine M.c2 (hc) ?_|fail)
 (exact M.n2 [some 0,some 1] (h8:=(by simp[zj,V.wk,V.Ap,za,Ty.view,Tm.view,hc])))
theorem Ykl(a:Int)(s:Tm)(ha:0<=a/\a<100000000000)(hs:s.full<274877906944)(hsi:∀p∈s.vars 0,0<=p.1/\p.1<549755813888)(f:Fm)(bl:Int)(ht:f.full<137438953472)(hb:0<=bl/\bl<100000000000)(hix:∀p∈f.A2 0,∀q∈p.1.vars 0,0<=q.1/\q.1<549755813888):
 AC E 156 [.agg f.view,.i bl,.ptr 0 0,.ptr 1 0] ⟨2,[(0,.var [.i a]),(1,.var s.view)]⟩ (.agg (f.put (a+bl) s).view) ⟨2,[(0,.var [.i a]),(1,.var s.view)]⟩:=by
 have hc:=Ydm f (a+bl) s (by omega) hs hsi ht hix;generalize f.put (a+bl) s=F at*;refine M.F Tryz.func156 ?_;(repeat' first|refine M.gw ?_|refine M.c2 (hc) ?_|fail)
 (exact M.n2 [some 0,some 1] (h8:=(by simp[zj,V.wk,V.Ap,za,Ty.view,Tm.view,Fm.view])))
theorem Yjh(a:Int)(s:Tm)(ha:0<=a/\a<10000000000)(hs0:s.full<274877906944)(hsi:∀p∈s.vars 0,0<=p.1/\p.1<549755813888):∀(n:Nat) (p:Pf) (v y:Int),p.full<=n->n<10000000000->(0<=v/\v+2*n<=50000000000)->(0<=y/\y+2*n<=50000000000)->p.nd->p.ix 549755813888->
 AC E 113 [.agg p.view,.agg [.i v,.i y],.agg [.fn (.func 154) [] [.ptr 0 0,.ptr 1 0],.fn (.func 156) [] [.ptr 0 0,.ptr 1 0],.nilf]] ⟨2,[(0,.var [.i a]),(1,.var s.view)]⟩ (.agg (p.pt a s v).view) ⟨2,[(0,.var [.i a]),(1,.var s.view)]⟩:=by
 intro n;induction n with
 |zero=>intro p v y hz;have:=p.Aa;omega
 |succ n ih=>
 intro p v y hz hn hv hh hs hix;obtain⟨i1,i2,i3⟩:=(Pf.Be _ p).1 hix;have hre:=p.DT a s v;have hsz':=p.Ag;have hlen:=zd Pf.full Pf.Aa p.args;have hlen1:=zd Fm.full Fm.Aa p.Ac;have hlen2:=zd Tm.full Tm.Aa p.terms;have hty:=GB _ p.ty (Nat.le_refl _) (by omega);have hru:=vd p.kind;obtain⟨⟨nd,n1,n4⟩,hpf⟩:=(Pf.Bz p).1 hs;have hal:p.args.length<=2:=by
  rw[n4];unfold BO at n1
  repeat(split at n1;· cases n1;decide)
  cases n1
 have hpl:=fun(m:Nat) (hm:m<=1000000)=>yx p.kind v y nd n1 m hm (by omega) (by omega);have e2:CR p.kind=[.bool nd.index,.bool nd.typ,.i nd.terms,.i nd.Ac,.i nd.args,.i (AD p.kind),.i (As p.kind),.i (At p.kind)]:=by unfold CR;rw[n1]
 have b1:0<=As p.kind/\As p.kind<=2:=by unfold As;split<;>(try split)<;>omega
 have b2:0<=At p.kind/\At p.kind<=1:=by unfold At;split<;>omega
 have b3:0<=AD p.kind/\AD p.kind<=1:=by unfold AD;split<;>omega
 rw[n1] at hru;simp only[Option.isSome_some] at hru;rw[e2] at hru;simp only[e2] at hpl;refine M.F Tryz.func113 ?_;(repeat' first|refine M.gw ?_|refine M.c2 (hru) ?_|refine M.c2 (hty) ?_|refine M.gs ?_ ?_<;>intro h|fail);all_goals
  refine AW.range p.terms.length (fun m=>True)
   (fun m=>([(3,.ptr 2 0),(4,.ptr 3 0),(5,.ptr 4 0),(6,.ptr 5 0),(7,.ptr 6 0),(9,.ptr 7 0),(44,.s .tm p.terms),(45,.i p.terms.length),(46,.i m)],⟨9,[(0,.var [.i a]),(1,.var s.view),(2,.var p.view),(3,.var [.i v,.i y]),(4,.var [.fn (.func 154) [] [.ptr 0 0,.ptr 1 0],.fn (.func 156) [] [.ptr 0 0,.ptr 1 0],.nilf]),(5,.var [.i 0,.i 0,.i 0,.slice .nil (.t .ty []),.slice .nil (.t .tm []),.slice .nil (.t .fm []),.slice .nil (.t .pf [])]),(6,.var [.bool nd.index,.bool nd.typ,.i nd.terms,.i nd.Ac,.i nd.args,.i (AD p.kind),.i (As p.kind),.i (At p.kind)]),(7,.var [.i p.kind,.i p.index,.i p.ty.kind,.s .ty p.ty.args,.slice (.own 8) (.t .tm ((p.terms.take m).map fun t=>t.re (xd (a+v) s) 0)),.slice .nil (.t .fm []),.slice .nil (.t .pf [])]),(8,.row)]⟩))
   (by omega) (fun m=>rfl) (fun m=>rfl) rfl trivial (M.W [some 0,some 1,some 2,some 3,some 4,some 5,some 6,some 7,none]) ?_ ?_
  ·intro m hm _;have hs2:=zc Tm.full (List.getElem_mem hm);have hc:=Yla a s (by omega) hs0 hsi p.terms[m] v (by omega) (by omega) (i1 _ (List.getElem_mem hm));(repeat' first|refine M.gw ?_|refine M.cv (hc) [0,1] 0 ?_|fail);exact⟨rfl,trivial,(M.W [some 0,some 1,some 2,some 3,some 4,some 5,some 6,some 7,some 10] (he:=(by(repeat'(first|exact trivial|exact Or.inr ⟨_,U,rfl⟩|refine And.intro ?_ ?_|refine⟨_,U,_,U,_,U,?_⟩|exact An.refl _|exact An.of_eq (by simp[Ao.Ax,z8 _ _ _ hm])));done)))⟩
  ·intro _;simp only[List.take_length];(repeat' first|refine M.gw ?_|fail);refine AW.range p.Ac.length (fun m=>True)
    (fun m=>([(3,.ptr 2 0),(4,.ptr 3 0),(5,.ptr 4 0),(6,.ptr 5 0),(7,.ptr 6 0),(9,.ptr 7 0),(73,.s .fm p.Ac),(74,.i p.Ac.length),(75,.i m)],⟨10,[(0,.var [.i a]),(1,.var s.view),(2,.var p.view),(3,.var [.i v,.i y]),(4,.var [.fn (.func 154) [] [.ptr 0 0,.ptr 1 0],.fn (.func 156) [] [.ptr 0 0,.ptr 1 0],.nilf]),(5,.var [.i 0,.i 0,.i 0,.slice .nil (.t .ty []),.slice .nil (.t .tm []),.slice .nil (.t .fm []),.slice .nil (.t .pf [])]),(6,.var [.bool nd.index,.bool nd.typ,.i nd.terms,.i nd.Ac,.i nd.args,.i (AD p.kind),.i (As p.kind),.i (At p.kind)]),(7,.var [.i p.kind,.i p.index,.i p.ty.kind,.s .ty p.ty.args,.slice (.own 8) (.t .tm (p.terms.map fun t=>t.re (xd (a+v) s) 0)),.slice (.own 9) (.t .fm ((p.Ac.take m).map fun f=>f.put (a+(v+AD p.kind)) s)),.slice .nil (.t .pf [])]),(8,.row),(9,.row)]⟩))
    (by omega) (fun m=>rfl) (fun m=>rfl) rfl trivial (M.W [some 0,some 1,some 2,some 3,some 4,some 5,some 6,some 7,some 8,none]) ?_ ?_
   ·intro m hm _;have hs2:=zc Fm.full (List.getElem_mem hm);have hc:=Ykl a s (by omega) hs0 hsi p.Ac[m] (v+AD p.kind) (by omega) (by omega) (i2 _ (List.getElem_mem hm));(repeat' first|refine M.gw ?_|refine M.cv (hc) [0,1] 0 ?_|fail);exact⟨rfl,trivial,(M.W [some 0,some 1,some 2,some 3,some 4,some 5,some 6,some 7,some 8,some 11] (he:=(by(repeat'(first|exact trivial|exact Or.inr ⟨_,U,rfl⟩|refine And.intro ?_ ?_|refine⟨_,U,_,U,_,U,?_⟩|exact An.refl _|exact An.of_eq (by simp[Ao.Ax,z8 _ _ _ hm])));done)))⟩
   ·intro _;simp only[List.take_length];(repeat' first|refine M.gw ?_|fail);refine AW.range p.args.length (fun m=>True)
     (fun m=>([(3,.ptr 2 0),(4,.ptr 3 0),(5,.ptr 4 0),(6,.ptr 5 0),(7,.ptr 6 0),(9,.ptr 7 0),(105,.s .pf p.args),(106,.i p.args.length),(107,.i m)],⟨11,[(0,.var [.i a]),(1,.var s.view),(2,.var p.view),(3,.var [.i v,.i y]),(4,.var [.fn (.func 154) [] [.ptr 0 0,.ptr 1 0],.fn (.func 156) [] [.ptr 0 0,.ptr 1 0],.nilf]),(5,.var [.i 0,.i 0,.i 0,.slice .nil (.t .ty []),.slice .nil (.t .tm []),.slice .nil (.t .fm []),.slice .nil (.t .pf [])]),(6,.var [.bool nd.index,.bool nd.typ,.i nd.terms,.i nd.Ac,.i nd.args,.i (AD p.kind),.i (As p.kind),.i (At p.kind)]),(7,.var [.i p.kind,.i p.index,.i p.ty.kind,.s .ty p.ty.args,.slice (.own 8) (.t .tm (p.terms.map fun t=>t.re (xd (a+v) s) 0)),.slice (.own 9) (.t .fm (p.Ac.map fun f=>f.put (a+(v+AD p.kind)) s)),.slice (.own 10) (.t .pf ((Pf.pts a s v (As p.kind) p.args).take m))]),(8,.row),(9,.row),(10,.row)]⟩))
     (by omega) (fun m=>rfl) (fun m=>rfl) rfl trivial (M.W [some 0,some 1,some 2,some 3,some 4,some 5,some 6,some 7,some 8,some 9,none]) ?_ ?_
    ·intro m hm _;have hs2:=zc Pf.full (List.getElem_mem hm);have hb:=hpl m (by omega);have hc:=ih p.args[m] (if m+1=p.args.length then v+As p.kind else v) (if(m:Int)=(nd.args:Int)-1 then y+At p.kind else y) (by omega) (by omega) (by split<;>omega) (by split<;>omega) (hpf _ (List.getElem_mem hm)) (i3 _ (List.getElem_mem hm));have ev:(if(m:Int)=(nd.args:Int)-1 then v+As p.kind else v)=(if m+1=p.args.length then v+As p.kind else v):=by
      by_cases hx:m+1=p.args.length
      ·rw[if_pos hx,if_pos (by omega)]
      ·rw[if_neg hx,if_neg (by omega)]
     rw[ev] at hb;(repeat' first|refine M.gw ?_|refine M.c2 (hb) ?_|refine M.cv (hc) [0,1] 0 ?_|fail);exact⟨rfl,trivial,(M.W [some 0,some 1,some 2,some 3,some 4,some 5,some 6,some 7,some 8,some 9,some 12] (he:=(by(repeat'(first|exact trivial|exact Or.inr ⟨_,U,rfl⟩|refine And.intro ?_ ?_|refine⟨_,U,_,U,_,U,?_⟩|exact An.refl _|exact An.of_eq (by simp[Ao.Ax,Zz1 hm])));done)))⟩
    ·intro _;simp only[Yei];(repeat' first|refine M.gw ?_|fail);rw[hre]
     (exact M.n2 [some 0,some 1] (h8:=(by simp[zj,V.wk,V.Ap,za,Ty.view,Tm.view,hre])))
theorem Yid(p:Pf)(a:Int)(s:Tm)(ha:0<=a/\a<10000000000)(hs0:s.full<274877906944)(hsi:∀p∈s.vars 0,0<=p.1/\p.1<549755813888)(hp:p.full<5000000000)(hs:p.nd)(hix:p.ix 549755813888):
 PC E 92 [.agg p.view,.i a,.agg s.view] (.agg (p.pt a s 0).view):=by
 have hc:=Yjh a s ha hs0 hsi _ p 0 0 (Nat.le_refl _) (by omega) (by omega) (by omega) hs hix;generalize p.pt a s 0=P at*;refine M.F Tryz.func92 ?_;(repeat' first|refine M.gw ?_|refine M.cv (hc) [1,2] 0 ?_|fail);simp[zj,V.wk,V.Ap,za,Ty.view,Tm.view]
theorem QY(a:Int)(q:Pf)(ha:0<=a/\a<10000000000)(hq:q.full<5000000000)(hqn:q.nd)(v y:Int)(hy:0<=y/\y<100000000000)(p:Pf)(hp:0<=p.index/\p.index<549755813888):
 AC E 163 [.agg p.view,.agg [.i v,.i y],.ptr 0 0,.ptr 1 0] ⟨2,[(0,.var [.i a]),(1,.var q.view)]⟩ (.agg (if p.index-y=a then q.Ds v (a+y) else if p.index-y>a then xo (p.index-1) else xo p.index).view) ⟨2,[(0,.var [.i a]),(1,.var q.view)]⟩:=by
 have h1:=N9 (p.index-1);have h2:=N9 p.index;have h3:=Ym q 0 v (by omega) (by omega) hqn;have h4:=Yiu (q.uw 0 v 0) 0 (a+y) (by have:=WW 0 v q 0;omega) (Yko 0 v q hqn 0);have e:q.Ds v (a+y)=(q.uw 0 v 0).hw 0 (a+y) 0:=rfl;rw[<-e] at h4;generalize q.Ds v (a+y)=U at*;generalize q.uw 0 v 0=W at*;by_cases h0:p.index-y=a
 ·rw[if_pos h0];refine M.F Tryz.func163 ?_;(repeat' first|refine M.gw ?_|refine M.c2 (h1) ?_|refine M.c2 (h2) ?_|refine M.c2 (h3) ?_|refine M.c2 (h4) ?_|refine M.bl ?_|refine M.cs ?_ ?_<;>intro h|fail);all_goals first|exfalso;simp at h;omega|exfalso;simp_all;done|exact M.n2 [some 0,some 1] (h8:=(by simp[zj,V.wk,V.Ap,za,Ty.view,Tm.view,Pf.view]))
 rw[if_neg h0];by_cases h5:p.index-y>a
 ·rw[if_pos h5];refine M.F Tryz.func163 ?_;(repeat' first|refine M.go ?_|refine M.c2 (h1) ?_|refine M.c2 (h2) ?_|refine M.z1 3 ?_|refine M.bl ?_|refine M.cs ?_ ?_<;>intro h|refine M.gk ?_|fail);all_goals first|exfalso;simp at h;omega|exfalso;simp at*;omega|exact M.n2 [some 0,some 1] (h8:=(by simp[zj,V.wk,V.Ap,za,Ty.view,Tm.view,Pf.view,xo]))
 ·rw[if_neg h5];refine M.F Tryz.func163 ?_;(repeat' first|refine M.go ?_|refine M.c2 (h1) ?_|refine M.c2 (h2) ?_|refine M.z1 3 ?_|refine M.bl ?_|refine M.cs ?_ ?_<;>intro h|refine M.gk ?_|fail);all_goals first|exfalso;simp at h;omega|exfalso;simp at*;omega|exact M.n2 [some 0,some 1] (h8:=(by simp[zj,V.wk,V.Ap,za,Ty.view,Tm.view,Pf.view,xo]))
theorem Yje(a:Int)(q:Pf)(ha:0<=a/\a<10000000000)(hq:q.full<5000000000)(hqn:q.nd):∀(n:Nat) (p:Pf) (v y:Int),p.full<=n->n<10000000000->(0<=v/\v+2*n<=50000000000)->(0<=y/\y+2*n<=50000000000)->p.nd->p.hx 549755813888->
 AC E 113 [.agg p.view,.agg [.i v,.i y],.agg [.nilf,.nilf,.fn (.func 163) [] [.ptr 0 0,.ptr 1 0]]] ⟨2,[(0,.var [.i a]),(1,.var q.view)]⟩ (.agg (Pf.ph a q v y p).view) ⟨2,[(0,.var [.i a]),(1,.var q.view)]⟩:=by
 intro n;induction n with
 |zero=>intro p v y hz;have:=p.Aa;omega
 |succ n ih=>
 intro p v y hz hn hv hh hs hhx;obtain⟨i1,i2⟩:=(Pf.A8 _ p).1 hhx;have hre:=Pf.E4 a q v y p;by_cases hk:p.kind=1
 ·rw[if_pos hk] at hre;rw[hre];have hc:=QY a q ha hq hqn v y (by omega) p (i1 hk);refine M.F Tryz.func113 ?_;(repeat' first|refine M.go ?_|refine M.cv (hc) [0,1] 0 ?_|refine M.gs ?_ ?_<;>intro h|refine M.z1 3 ?_|refine M.gk ?_|fail);all_goals first|exfalso;simp at h;omega|exfalso;simp_all;done|exact M.n2 [some 0,some 1] (h8:=(by simp[zj,V.wk,V.Ap,za,Ty.view,Tm.view,Pf.view]))
 rw[if_neg hk] at hre;have hsz':=p.Ag;have hlen:=zd Pf.full Pf.Aa p.args;have hlen1:=zd Fm.full Fm.Aa p.Ac;have hlen2:=zd Tm.full Tm.Aa p.terms;have hty:=GB _ p.ty (Nat.le_refl _) (by omega);have hru:=vd p.kind;obtain⟨⟨nd,n1,n4⟩,hpf⟩:=(Pf.Bz p).1 hs;have hal:p.args.length<=2:=by
  rw[n4];unfold BO at n1
  repeat(split at n1;· cases n1;decide)
  cases n1
 have hpl:=fun(m:Nat) (hm:m<=1000000)=>yx p.kind v y nd n1 m hm (by omega) (by omega);have e2:CR p.kind=[.bool nd.index,.bool nd.typ,.i nd.terms,.i nd.Ac,.i nd.args,.i (AD p.kind),.i (As p.kind),.i (At p.kind)]:=by unfold CR;rw[n1]
 have b1:0<=As p.kind/\As p.kind<=2:=by unfold As;split<;>(try split)<;>omega
 have b2:0<=At p.kind/\At p.kind<=1:=by unfold At;split<;>omega
 have b3:0<=AD p.kind/\AD p.kind<=1:=by unfold AD;split<;>omega
 rw[n1] at hru;simp only[Option.isSome_some] at hru;rw[e2] at hru;simp only[e2] at hpl;refine M.F Tryz.func113 ?_;(repeat' first|refine M.go ?_|refine M.c2 (hru) ?_|refine M.c2 (hty) ?_|refine M.gs ?_ ?_<;>intro h|refine M.z1 5 ?_|refine M.gk ?_|fail);all_goals first
  |(exfalso;simp at h;omega)
  |skip
 (repeat' first|refine M.gw ?_|fail);all_goals
  refine AW.range p.terms.length (fun m=>True)
   (fun m=>([(3,.ptr 2 0),(4,.ptr 3 0),(5,.ptr 4 0),(6,.ptr 5 0),(7,.ptr 6 0),(9,.ptr 7 0),(44,.s .tm p.terms),(45,.i p.terms.length),(46,.i m)],⟨9,[(0,.var [.i a]),(1,.var q.view),(2,.var p.view),(3,.var [.i v,.i y]),(4,.var [.nilf,.nilf,.fn (.func 163) [] [.ptr 0 0,.ptr 1 0]]),(5,.var [.i 0,.i 0,.i 0,.slice .nil (.t .ty []),.slice .nil (.t .tm []),.slice .nil (.t .fm []),.slice .nil (.t .pf [])]),(6,.var [.bool nd.index,.bool nd.typ,.i nd.terms,.i nd.Ac,.i nd.args,.i (AD p.kind),.i (As p.kind),.i (At p.kind)]),(7,.var [.i p.kind,.i p.index,.i p.ty.kind,.s .ty p.ty.args,.slice (.own 8) (.t .tm (p.terms.take m)),.slice .nil (.t .fm []),.slice .nil (.t .pf [])]),(8,.row)]⟩))
   (by omega) (fun m=>rfl) (fun m=>rfl) rfl trivial (M.W [some 0,some 1,some 2,some 3,some 4,some 5,some 6,some 7,none]) ?_ ?_
  ·intro m hm _;have hs2:=zc Tm.full (List.getElem_mem hm);have hc:=OB _ p.terms[m] (Nat.le_refl _) (by omega);(repeat' first|refine M.gw ?_|refine M.c2 (hc) ?_|fail);exact⟨rfl,trivial,(M.W [some 0,some 1,some 2,some 3,some 4,some 5,some 6,some 7,some 10] (he:=(by(repeat'(first|exact trivial|exact Or.inr ⟨_,U,rfl⟩|refine And.intro ?_ ?_|refine⟨_,U,_,U,_,U,?_⟩|exact An.refl _|exact An.of_eq (by simp[Ao.Ax,List.take_append_getElem])));done)))⟩
  ·intro _;simp only[List.take_length];(repeat' first|refine M.gw ?_|fail);refine AW.range p.Ac.length (fun m=>True)
    (fun m=>([(3,.ptr 2 0),(4,.ptr 3 0),(5,.ptr 4 0),(6,.ptr 5 0),(7,.ptr 6 0),(9,.ptr 7 0),(73,.s .fm p.Ac),(74,.i p.Ac.length),(75,.i m)],⟨10,[(0,.var [.i a]),(1,.var q.view),(2,.var p.view),(3,.var [.i v,.i y]),(4,.var [.nilf,.nilf,.fn (.func 163) [] [.ptr 0 0,.ptr 1 0]]),(5,.var [.i 0,.i 0,.i 0,.slice .nil (.t .ty []),.slice .nil (.t .tm []),.slice .nil (.t .fm []),.slice .nil (.t .pf [])]),(6,.var [.bool nd.index,.bool nd.typ,.i nd.terms,.i nd.Ac,.i nd.args,.i (AD p.kind),.i (As p.kind),.i (At p.kind)]),(7,.var [.i p.kind,.i p.index,.i p.ty.kind,.s .ty p.ty.args,.slice (.own 8) (.t .tm (p.terms)),.slice (.own 9) (.t .fm (p.Ac.take m)),.slice .nil (.t .pf [])]),(8,.row),(9,.row)]⟩))
    (by omega) (fun m=>rfl) (fun m=>rfl) rfl trivial (M.W [some 0,some 1,some 2,some 3,some 4,some 5,some 6,some 7,some 8,none]) ?_ ?_
   ·intro m hm _;have hs2:=zc Fm.full (List.getElem_mem hm);have hc:=SD p.Ac[m] (by omega);(repeat' first|refine M.gw ?_|refine M.c2 (hc) ?_|fail);exact⟨rfl,trivial,(M.W [some 0,some 1,some 2,some 3,some 4,some 5,some 6,some 7,some 8,some 11] (he:=(by(repeat'(first|exact trivial|exact Or.inr ⟨_,U,rfl⟩|refine And.intro ?_ ?_|refine⟨_,U,_,U,_,U,?_⟩|exact An.refl _|exact An.of_eq (by simp[Ao.Ax,List.take_append_getElem])));done)))⟩
   ·intro _;simp only[List.take_length];(repeat' first|refine M.gw ?_|fail);refine AW.range p.args.length (fun m=>True)
     (fun m=>([(3,.ptr 2 0),(4,.ptr 3 0),(5,.ptr 4 0),(6,.ptr 5 0),(7,.ptr 6 0),(9,.ptr 7 0),(105,.s .pf p.args),(106,.i p.args.length),(107,.i m)],⟨11,[(0,.var [.i a]),(1,.var q.view),(2,.var p.view),(3,.var [.i v,.i y]),(4,.var [.nilf,.nilf,.fn (.func 163) [] [.ptr 0 0,.ptr 1 0]]),(5,.var [.i 0,.i 0,.i 0,.slice .nil (.t .ty []),.slice .nil (.t .tm []),.slice .nil (.t .fm []),.slice .nil (.t .pf [])]),(6,.var [.bool nd.index,.bool nd.typ,.i nd.terms,.i nd.Ac,.i nd.args,.i (AD p.kind),.i (As p.kind),.i (At p.kind)]),(7,.var [.i p.kind,.i p.index,.i p.ty.kind,.s .ty p.ty.args,.slice (.own 8) (.t .tm (p.terms)),.slice (.own 9) (.t .fm (p.Ac)),.slice (.own 10) (.t .pf ((Pf.DD a q v y (As p.kind) (At p.kind) p.args).take m))]),(8,.row),(9,.row),(10,.row)]⟩))
     (by omega) (fun m=>rfl) (fun m=>rfl) rfl trivial (M.W [some 0,some 1,some 2,some 3,some 4,some 5,some 6,some 7,some 8,some 9,none]) ?_ ?_
    ·intro m hm _;have hs2:=zc Pf.full (List.getElem_mem hm);have hb:=hpl m (by omega);have hc:=ih p.args[m] (if m+1=p.args.length then v+As p.kind else v) (if m+1=p.args.length then y+At p.kind else y) (by omega) (by omega) (by split<;>omega) (by split<;>omega) (hpf _ (List.getElem_mem hm)) (i2 hk _ (List.getElem_mem hm));have ev:(if(m:Int)=(nd.args:Int)-1 then y+At p.kind else y)=(if m+1=p.args.length then y+At p.kind else y):=by
      by_cases hx:m+1=p.args.length
      ·rw[if_pos hx,if_pos (by omega)]
      ·rw[if_neg hx,if_neg (by omega)]
     have ev2:(if(m:Int)=(nd.args:Int)-1 then v+As p.kind else v)=(if m+1=p.args.length then v+As p.kind else v):=by
      by_cases hx:m+1=p.args.length
      ·rw[if_pos hx,if_pos (by omega)]
      ·rw[if_neg hx,if_neg (by omega)]
     rw[ev,ev2] at hb;(repeat' first|refine M.gw ?_|refine M.c2 (hb) ?_|refine M.cv (hc) [0,1] 0 ?_|fail);exact⟨rfl,trivial,(M.W [some 0,some 1,some 2,some 3,some 4,some 5,some 6,some 7,some 8,some 9,some 12] (he:=(by(repeat'(first|exact trivial|exact Or.inr ⟨_,U,rfl⟩|refine And.intro ?_ ?_|refine⟨_,U,_,U,_,U,?_⟩|exact An.refl _|exact An.of_eq (by simp[Ao.Ax,Ybq hm])));done)))⟩
    ·intro _;simp only[Yfu];(repeat' first|refine M.gw ?_|fail);rw[hre]
     (exact M.n2 [some 0,some 1] (h8:=(by simp[zj,V.wk,V.Ap,za,Ty.view,Tm.view,hre])))
theorem Yhk(p:Pf)(a:Int)(q:Pf)(ha:0<=a/\a<10000000000)(hq:q.full<5000000000)(hqn:q.nd)(hp:p.full<5000000000)(hs:p.nd)(hx:p.hx 549755813888):
 PC E 104 [.agg p.view,.i a,.agg q.view] (.agg (Pf.ph a q 0 0 p).view):=by
 have hc:=Yje a q ha hq hqn _ p 0 0 (Nat.le_refl _) (by omega) (by omega) (by omega) hs hx;generalize Pf.ph a q 0 0 p=P at*;refine M.F Tryz.func104 ?_;(repeat' first|refine M.gw ?_|refine M.cv (hc) [1,2] 0 ?_|fail);simp[zj,V.wk,V.Ap,za,Ty.view,Tm.view]
end Go.Ab
