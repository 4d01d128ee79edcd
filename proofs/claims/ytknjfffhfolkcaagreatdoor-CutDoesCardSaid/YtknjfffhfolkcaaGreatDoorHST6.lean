/- A part of this seat's proofs. No conditions. -/
import Derived.Test.YtknjfffhfolkcaaGreatDoorHST5
namespace Go.Ab
open Go Go.Proofs
set_option maxRecDepth 100000
set_option maxHeartbeats 4000000
set_option linter.all false
theorem Pc:∀(n:Nat) (p:Pf),p.full<=n->n<549755813888->p.shape=true->PC E 98 [.agg p.view,.i 536870912] (.bool p.AG):=by
 intro n;induction n with
 |zero=>intro p h;have:=p.Aa;omega
 |succ n ih=>
 intro p hsz hn hs;obtain⟨_,s4,s5,s6⟩:=ze hs;have hsz':=p.Af;have hse:=Ul p;have hlen:=zd Pf.full Pf.Aa p.args;have hlen1:=zd Fm.full Fm.Aa p.Ac;have hlen2:=zd Tm.full Tm.Aa p.terms;refine M.F Tryz.func98 ?_;(repeat' first|refine M.gw ?_|fail);refine AW.range p.terms.length (fun m=>∀j (hj:j<p.terms.length),j<m->p.terms[j].near=true)
  (fun m=>([(1,.i 536870912),(2,.ptr 0 0),(12,.s .tm p.terms),(13,.i p.terms.length),(14,.i m)],⟨1,[(0,.var p.view)]⟩))
  (by omega) (fun m=>rfl) (fun m=>rfl) rfl (fun j hj h=>by omega) (M.W [some 0]) ?_ ?_
 .intro m hm hP;have hs2:=za Tm.full (Wi hm);have hc:=KA 536870912 (by omega) _ p.terms[m] (Wj _) (by omega) (s4 _ (Wi hm));rw[<-Mc] at hc;cases hb:p.terms[m].near with
  |false=>
   rw[hb] at hc;have e:p.AG=false:=by rw[hse,xn Tm.near hm hb];rfl
   rw[e];(repeat' first|refine M.gw ?_|refine M.c2 (hc) ?_|fail)
   rfl
  |true=>
   rw[hb] at hc;(repeat' first|refine M.gw ?_|refine M.c2 (hc) ?_|fail);exact⟨rfl,ya (p:=fun t:Tm=>t.near=true) hm hP hb,(M.W [some 0])⟩
 .intro hP;rw[w4 Tm.near p.terms fun j hj=>hP j hj hj,WZ] at hse;(repeat' first|refine M.gw ?_|fail);refine AW.range p.Ac.length (fun m=>∀j (hj:j<p.Ac.length),j<m->p.Ac[j].near=true)
   (fun m=>([(1,.i 536870912),(2,.ptr 0 0),(24,.s .fm p.Ac),(25,.i p.Ac.length),(26,.i m)],⟨1,[(0,.var p.view)]⟩))
   (by omega) (fun m=>rfl) (fun m=>rfl) rfl (fun j hj h=>by omega) (M.W [some 0]) ?_ ?_
  .intro m hm hP;have hs2:=za Fm.full (Wi hm);have hc:=UG 536870912 (by omega) _ p.Ac[m] (Wj _) (by omega) (s5 _ (Wi hm));rw[<-UD] at hc;cases hb:p.Ac[m].near with
   |false=>
    rw[hb] at hc;have e:p.AG=false:=by rw[hse,xn Fm.near hm hb];rfl
    rw[e];(repeat' first|refine M.gw ?_|refine M.c2 (hc) ?_|fail)
    rfl
   |true=>
    rw[hb] at hc;(repeat' first|refine M.gw ?_|refine M.c2 (hc) ?_|fail);exact⟨rfl,ya (p:=fun t:Fm=>t.near=true) hm hP hb,(M.W [some 0])⟩
  .intro hP;rw[w4 Fm.near p.Ac fun j hj=>hP j hj hj,WZ] at hse;(repeat' first|refine M.gw ?_|fail);refine AW.range p.args.length (fun m=>∀j (hj:j<p.args.length),j<m->p.args[j].AG=true)
    (fun m=>([(1,.i 536870912),(2,.ptr 0 0),(36,.s .pf p.args),(37,.i p.args.length),(38,.i m)],⟨1,[(0,.var p.view)]⟩))
    (by omega) (fun m=>rfl) (fun m=>rfl) rfl (fun j hj h=>by omega) (M.W [some 0]) ?_ ?_
   .intro m hm hP;have hs2:=za Pf.full (Wi hm);have hc:=ih p.args[m] (by omega) (by omega) (s6 _ (Wi hm));cases hb:p.args[m].AG with
    |false=>
     rw[hb] at hc;have e:p.AG=false:=by rw[hse,xn Pf.AG hm hb]
     rw[e];(repeat' first|refine M.gw ?_|refine M.c2 (hc) ?_|fail)
     rfl
    |true=>
     rw[hb] at hc;(repeat' first|refine M.gw ?_|refine M.c2 (hc) ?_|fail);exact⟨rfl,ya (p:=fun t:Pf=>t.AG=true) hm hP hb,(M.W [some 0])⟩
   .intro hP;have e:p.AG=true:=by rw[hse];exact w4 Pf.AG p.args fun j hj=>hP j hj hj
    rw[e];(repeat' first|refine M.gw ?_|fail)
    rfl
theorem NW(k0:Int):∀(n:Nat) (p:Pf),p.full<=n->n<549755813888->PC E 99 [.agg p.view,.i k0,.i 536870912] (.bool (p.CZ k0)):=by
 intro n;induction n with
 |zero=>intro p h;have:=p.Aa;omega
 |succ n ih=>
 intro p hsz hn;have hsz':=p.Af;have hse:=MN k0 p;have hlen:=zd Pf.full Pf.Aa p.args;have hL:∀m (hm:m<p.args.length),PC E 99 [.agg (p.args[m]).view,.i k0,.i 536870912] (.bool ((p.args[m]).CZ k0)):=fun m hm=>by
  have hs2:=za Pf.full (Wi hm);exact ih p.args[m] (by omega) (by omega)
 clear ih;by_cases hk:p.kind=k0/\p.index>536870912
 .have e:p.CZ k0=false:=by rw[hse,if_pos hk.1,decide_eq_false (by omega)];rfl
  rw[e];refine M.F Tryz.func99 ?_;(repeat' first|refine M.go ?_|refine M.gs ?_ ?_<;>intro h|refine M.z1 3 ?_|refine M.cs ?_ ?_<;>intro h|refine M.gk ?_|fail);all_goals first
   |rfl
   |(exfalso;obtain⟨hk1,hk2⟩:=hk;simp at h;omega)
   |(exfalso;obtain⟨hk1,hk2⟩:=hk;simp at h;exact h hk1)
   |trace_state
 .have e:p.CZ k0=p.args.all (Pf.CZ k0):=by
   rw[hse];by_cases h1:p.kind=k0
   .rw[if_pos h1,decide_eq_true (by omega),WZ]
   .rw[if_neg h1,WZ]
  refine M.F Tryz.func99 ?_;(repeat' first|refine M.go ?_|refine M.gs ?_ ?_<;>intro h|refine M.z1 3 ?_|refine M.cs ?_ ?_<;>intro h|refine M.gk ?_|fail);all_goals first
   |(exfalso;apply hk;simp_all;done)
   |skip
  all_goals
   (repeat' first|refine M.gw ?_|fail);refine AW.range p.args.length (fun m=>∀j (hj:j<p.args.length),j<m->p.args[j].CZ k0=true)
    (fun m=>([(1,.i k0),(2,.i 536870912),(3,.ptr 0 0),(20,.s .pf p.args),(21,.i p.args.length),(22,.i m)],⟨1,[(0,.var p.view)]⟩))
    (by omega) (fun m=>rfl) (fun m=>rfl) rfl (fun j hj h=>by omega) (M.W [some 0]) ?_ ?_
   .intro m hm hP;have hc:=hL m hm;cases hb:p.args[m].CZ k0 with
    |false=>
     rw[hb] at hc;rw[e,xn (Pf.CZ k0) hm hb];(repeat' first|refine M.gw ?_|refine M.c2 (hc) ?_|fail)
     rfl
    |true=>
     rw[hb] at hc;(repeat' first|refine M.gw ?_|refine M.c2 (hc) ?_|fail);exact⟨rfl,ya (p:=fun t:Pf=>t.CZ k0=true) hm hP hb,(M.W [some 0])⟩
   .intro hP;rw[e,w4 (Pf.CZ k0) p.args fun j hj=>hP j hj hj];(repeat' first|refine M.gw ?_|fail)
    rfl
theorem Yh4(by_:Int)(hby:0<=by_/\by_<=100000000000):∀(n:Nat) (p:Pf) (fr v:Int),p.full<=n->n<10000000000->0<=fr->0<=v->fr+v+2*n<50000000000->p.shape=true->p.ix 549755813888->
 PC E 239 [.agg p.view,.i (fr+v),.i by_] (.agg (p.up fr by_ v).view):=by
 intro n;induction n with
 |zero=>intro p fr v h;have:=p.Aa;omega
 |succ n ih=>
 intro p fr v hsz hn h1 h2 h3 hs hix;obtain⟨x1,x2,x3⟩:=(Pf.AY _ _).1 hix;obtain⟨nd,n1,n2,n3,n4,_⟩:=xr hs;obtain⟨_,s4,s5,s6⟩:=ze hs;have hsz':=p.Af;have hlen:=zd Pf.full Pf.Aa p.args;have hlen1:=zd Fm.full Fm.Aa p.Ac;have hlen2:=zd Tm.full Tm.Aa p.terms;have b1:=L3 p.kind;have b3:=QW p.kind;have hmo:=Qw n1;have he:=p.ET fr by_ v;refine M.F Tryz.func239 ?_;(repeat' first|refine M.gw ?_|fail);refine AW.range p.terms.length (fun m=>True)
  (fun m=>([(1,.i (fr+v)),(2,.i by_),(3,.ptr 0 0),(6,.ptr 1 0),(7,.ptr 2 0),(22,.s .tm p.terms),(23,.i p.terms.length),(24,.i m)],⟨4,[(0,.var p.view),(1,.var [.i 0,.i 0,.i 0,.slice .nil (.t .ty []),.slice .nil (.t .tm []),.slice .nil (.t .fm []),.slice .nil (.t .pf [])]),(2,.var [.i p.kind,.i p.index,.i p.ty.kind,.s .ty p.ty.args,.slice (.own 3) (.t .tm ((p.terms.take m).map fun t=>t.re (zx (fr+v) by_) 0)),.slice .nil (.t .fm []),.slice .nil (.t .pf [])]),(3,.row)]⟩))
  (by omega) (fun m=>rfl) (fun m=>rfl) rfl trivial (M.W [some 0,some 1,some 2,none]) ?_ ?_
 .intro m hm _;have hs2:=za Tm.full (Wi hm);have hc:=J2 by_ (by omega) _ p.terms[m] (fr+v) (Wj _) (by omega) (by omega) (by omega) (s4 _ (Wi hm)) (x1 _ (Wi hm));(repeat' first|refine M.gw ?_|refine M.c2 (hc) ?_|fail);exact⟨rfl,trivial,(M.W [some 0,some 1,some 2,some 5] (he:=(by(repeat'(first|exact trivial|exact Or.inr ⟨_,U,rfl⟩|refine And.intro ?_ ?_|refine⟨_,U,_,U,_,U,?_⟩|exact Ao.refl _|exact Ao.of_eq (by simp[Aq.Ay,zy _ _ _ hm])));done)))⟩
 .intro _;simp only[Wp];(repeat' first|refine M.gw ?_|fail);refine AW.range p.Ac.length (fun m=>True)
   (fun m=>([(1,.i (fr+v)),(2,.i by_),(3,.ptr 0 0),(6,.ptr 1 0),(7,.ptr 2 0),(39,.s .fm p.Ac),(40,.i p.Ac.length),(41,.i m)],⟨5,[(0,.var p.view),(1,.var [.i 0,.i 0,.i 0,.slice .nil (.t .ty []),.slice .nil (.t .tm []),.slice .nil (.t .fm []),.slice .nil (.t .pf [])]),(2,.var [.i p.kind,.i p.index,.i p.ty.kind,.s .ty p.ty.args,.slice (.own 3) (.t .tm (p.terms.map fun t=>t.re (zx (fr+v) by_) 0)),.slice (.own 4) (.t .fm ((p.Ac.take m).map fun f=>f.A9 (fr+(v+Aw p.kind)) by_)),.slice .nil (.t .pf [])]),(3,.row),(4,.row)]⟩))
   (by omega) (fun m=>rfl) (fun m=>rfl) rfl trivial (M.W [some 0,some 1,some 2,some 3,none]) ?_ ?_
  .intro m hm _;have hs2:=za Fm.full (Wi hm);have hc:=Yej p.Ac[m] (fr+v+Aw p.kind) by_ (by omega) (by omega) (by omega) (s5 _ (Wi hm)) (x2 _ (Wi hm));rw[show fr+(v+Aw p.kind)=fr+v+Aw p.kind by omega];(repeat' first|refine M.gw ?_|refine M.c2 (hmo) ?_|refine M.c2 (hc) ?_|fail);exact⟨rfl,trivial,(M.W [some 0,some 1,some 2,some 3,some 6] (he:=(by(repeat'(first|exact trivial|exact Or.inr ⟨_,U,rfl⟩|refine And.intro ?_ ?_|refine⟨_,U,_,U,_,U,?_⟩|exact Ao.refl _|exact Ao.of_eq (by simp[Aq.Ay,zy _ _ _ hm])));done)))⟩
  .intro _;simp only[Wp];(repeat' first|refine M.gw ?_|fail);refine AW.range p.args.length (fun m=>True)
    (fun m=>([(1,.i (fr+v)),(2,.i by_),(3,.ptr 0 0),(6,.ptr 1 0),(7,.ptr 2 0),(60,.s .pf p.args),(61,.i p.args.length),(62,.i m)],⟨6,[(0,.var p.view),(1,.var [.i 0,.i 0,.i 0,.slice .nil (.t .ty []),.slice .nil (.t .tm []),.slice .nil (.t .fm []),.slice .nil (.t .pf [])]),(2,.var [.i p.kind,.i p.index,.i p.ty.kind,.s .ty p.ty.args,.slice (.own 3) (.t .tm (p.terms.map fun t=>t.re (zx (fr+v) by_) 0)),.slice (.own 4) (.t .fm (p.Ac.map fun f=>f.A9 (fr+(v+Aw p.kind)) by_)),.slice (.own 5) (.t .pf ((Pf.DT fr by_ v (As p.kind) p.args).take m))]),(3,.row),(4,.row),(5,.row)]⟩))
    (by omega) (fun m=>rfl) (fun m=>rfl) rfl trivial (M.W [some 0,some 1,some 2,some 3,some 4,none]) ?_ ?_
   .intro m hm _;have hs2:=za Pf.full (Wi hm);have hva:=Mh n1 m (by omega);rw[<-n4] at hva;have hc:=ih p.args[m] fr (if m+1=p.args.length then v+As p.kind else v) (by omega) (by omega) h1 (by split<;>omega) (by split<;>omega) (s6 _ (Wi hm)) (x3 _ (Wi hm));have et:=Zy7 (fr:=fr) (b:=by_) (v:=v) (w:=As p.kind) hm;have ea:fr+(if m+1=p.args.length then v+As p.kind else v)=fr+v+(if m+1=p.args.length then As p.kind else 0):=by split<;>omega
    have hr:0<=(if m+1=p.args.length then As p.kind else 0)/\(if m+1=p.args.length then As p.kind else 0)<=2:=by split<;>omega
    rw[ea] at hc;generalize p.args[m].up fr by_ (if m+1=p.args.length then v+As p.kind else v)=X at*;generalize (if m+1=p.args.length then As p.kind else 0)=q at*;clear ea;(repeat' first|refine M.gw ?_|refine M.c2 (hva) ?_|refine M.c2 (hc) ?_|fail);refine⟨rfl,trivial,?_⟩;simp only[<-et];exact(M.W [some 0,some 1,some 2,some 3,some 4,some 7])
   .intro _;simp only[Ydm];(repeat' first|refine M.gw ?_|fail);rw[he]
    rfl
theorem Ygb(by_:Int)(hby:0<=by_/\by_<=100000000000):∀(n:Nat) (p:Pf) (fr y:Int),p.full<=n->n<10000000000->0<=fr->0<=y->fr+y+2*n<50000000000->p.shape=true->p.hx 549755813888->
 PC E 238 [.agg p.view,.i (fr+y),.i by_] (.agg (p.lh fr by_ y).view):=by
 intro n;induction n with
 |zero=>intro p fr y h;have:=p.Aa;omega
 |succ n ih=>
 intro p fr y hsz hn h1 h2 h3 hs hix;obtain⟨x1,x2⟩:=(Pf.A8 _ _).1 hix;obtain⟨nd,n1,n2,n3,n4,_⟩:=xr hs;obtain⟨_,s4,s5,s6⟩:=ze hs;have hsz':=p.Af;have hlen:=zd Pf.full Pf.Aa p.args;have b2:=Q2 p.kind;have he:=p.ES fr by_ y;by_cases hk:p.kind=1
 .obtain ⟨i,rfl⟩:=Wc hs hk;have hii:0<=i/\i<549755813888:=x1 hk;rw[Yfu];clear ih he;by_cases hi:i-y>=fr
  .rw[if_pos hi];have hw:IntKind.i64.wrap (i+by_)=i+by_:=IntWalk.i64_in _ (by omega);unfold va;refine M.F Tryz.func238 ?_;(repeat' first|refine M.go ?_|refine M.z1 3 ?_|refine M.cs ?_ ?_<;>intro h|refine M.gk ?_|fail);all_goals first
    |(exfalso;simp at h;omega)
    |skip
   skip;refine AW.range 0 (fun m=>True)
    (fun m=>([(1,.i (fr+y)),(2,.i by_),(3,.ptr 0 0),(6,.ptr 1 0),(7,.ptr 2 0),(27,.s .pf []),(28,.i 0),(29,.i m)],⟨3,[(0,.var (Pf.mk 1 i (.mk 0 []) [] [] []).view),(1,.var [.i 0,.i 0,.i 0,.slice .nil (.t .ty []),.slice .nil (.t .tm []),.slice .nil (.t .fm []),.slice .nil (.t .pf [])]),(2,.var [.i 1,.i (i+by_),.i 0,.s .ty [],.s .tm [],.s .fm [],.s .pf []])]⟩))
    (by omega) (fun m=>rfl) (fun m=>rfl) U trivial (M.W [some 0,some 1,some 2] (he:=(by(repeat'(first|exact trivial|refine And.intro ?_ ?_|refine⟨_,U,_,U,_,U,?_⟩|exact Ao.refl _|exact Ao.any _ _|exact Ao.of_eq (by simp[Aq.Ay,hw,Pf.AJ])));done))) ?_ ?_
   .intro m hm;omega
   .intro _;(repeat' first|refine M.gw ?_|fail)
    rfl
  .rw[if_neg hi];unfold va;refine M.F Tryz.func238 ?_;(repeat' first|refine M.go ?_|refine M.z2 3 4 ?_|refine M.cs ?_ ?_<;>intro h|refine M.gk ?_|fail);all_goals first
    |(exfalso;simp at h;omega)
    |skip
   (repeat' first|refine M.gw ?_|fail);refine AW.range 0 (fun m=>True)
    (fun m=>([(1,.i (fr+y)),(2,.i by_),(3,.ptr 0 0),(6,.ptr 1 0),(7,.ptr 2 0),(27,.s .pf []),(28,.i 0),(29,.i m)],⟨3,[(0,.var (Pf.mk 1 i (.mk 0 []) [] [] []).view),(1,.var [.i 0,.i 0,.i 0,.slice .nil (.t .ty []),.slice .nil (.t .tm []),.slice .nil (.t .fm []),.slice .nil (.t .pf [])]),(2,.var (Pf.mk 1 i (.mk 0 []) [] [] []).view)]⟩))
    (by omega) (fun m=>rfl) (fun m=>rfl) rfl trivial (M.W [some 0,some 1,some 2]) ?_ ?_
   .intro m hm;omega
   .intro _;(repeat' first|refine M.gw ?_|fail)
    rfl
 rw[if_neg hk] at he;have hL:∀(m:Nat) (hm:m<p.args.length),∃q,(0<=q/\q<=1)/\PC E 237 [.i p.kind,.i m] (.i q)/\
  PC E 238 [.agg (p.args[m]).view,.i (fr+y+q),.i by_] (.agg ((p.args[m]).lh fr by_ (if m+1=p.args.length then y+At p.kind else y)).view):=fun m hm=>by
  have hs2:=za Pf.full (Wi hm);have hva:=Q1 n1 m (by omega);rw[<-n4] at hva;refine⟨_,?_,hva,?_⟩
  .split<;>omega
  have hc:=ih p.args[m] fr (if m+1=p.args.length then y+At p.kind else y) (by omega) (by omega) h1 (by split<;>omega) (by split<;>omega) (s6 _ (Wi hm)) (x2 hk _ (Wi hm));have ea:fr+(if m+1=p.args.length then y+At p.kind else y)=fr+y+(if m+1=p.args.length then At p.kind else 0):=by split<;>omega
  rw[<-ea];exact hc
 clear ih;refine M.F Tryz.func238 ?_;(repeat' first|refine M.go ?_|refine M.gs ?_ ?_<;>intro h|refine M.z2 3 4 ?_|refine M.cs ?_ ?_<;>intro h|refine M.gk ?_|fail);all_goals first
  |(exfalso;apply hk;simp_all;done)
  |skip
 all_goals
  (repeat' first|refine M.gw ?_|fail);refine AW.range p.args.length (fun m=>True)
   (fun m=>([(1,.i (fr+y)),(2,.i by_),(3,.ptr 0 0),(6,.ptr 1 0),(7,.ptr 2 0),(27,.s .pf p.args),(28,.i p.args.length),(29,.i m)],⟨4,[(0,.var p.view),(1,.var [.i 0,.i 0,.i 0,.slice .nil (.t .ty []),.slice .nil (.t .tm []),.slice .nil (.t .fm []),.slice .nil (.t .pf [])]),(2,.var [.i p.kind,.i p.index,.i p.ty.kind,.s .ty p.ty.args,.s .tm p.terms,.s .fm p.Ac,.slice (.own 3) (.t .pf ((Pf.lhs fr by_ y (At p.kind) p.args).take m))]),(3,.row)]⟩))
   (by omega) (fun m=>rfl) (fun m=>rfl) rfl trivial (M.W [some 0,some 1,some 2,none]) ?_ ?_
  .intro m hm _;obtain⟨q,hq,hbo,hc⟩:=hL m hm;have et:=Yas (fr:=fr) (b:=by_) (v:=y) (w:=At p.kind) hm;generalize p.args[m].lh fr by_ (if m+1=p.args.length then y+At p.kind else y)=X at*;(repeat' first|refine M.gw ?_|refine M.c2 (hbo) ?_|refine M.c2 (hc) ?_|fail);refine⟨rfl,trivial,?_⟩;simp only[<-et];exact(M.W [some 0,some 1,some 2,some 5])
  .intro _;simp only[Yee];(repeat' first|refine M.gw ?_|fail);rw[he]
   rfl
theorem TR(a:Int)(s t:Tm)(v:Int):t.re (y9 a s) v=t.re (y9 (a+v) s) 0:=by
 rw[OX];refine EZ (fun i c=> ?_) t 0;unfold y9;by_cases h:i-(c+v)=a
 .rw[if_pos h,if_pos (show i-c=a+v by omega),show a+(c+v)=a+v+c by omega]
 .rw[if_neg h,if_neg (show ¬i-c=a+v by omega)];by_cases h2:i-(c+v)>a
  .rw[if_pos h2,if_pos (show i-c>a+v by omega)]
  .rw[if_neg h2,if_neg (show ¬i-c>a+v by omega)]
theorem RZ(a:Int)(s:Tm)(f:Fm)(v:Int):f.re (fun b t=>t.re (y9 a s) b) v=f.put (a+v) s:=by
 have e:=Fm.CM (fun b t=>t.re (y9 a s) b) v f 0;rw[Yh] at e;rw[e,Nu];exact Fm.EZ (fun b t _=>by rw[TR,show a+(b+v)=a+v+b by omega]) f
theorem Yh7(a:Int)(s:Tm)(ha:0<=a/\a<100000000)(hss:s.shape=true)(hsf:s.full<100000000000)(hsi:∀p∈s.vars 0,0<=p.1/\p.1<274877906944):∀(n:Nat) (p:Pf) (v:Int),p.full<=n->n<10000000000->0<=v->v+2*n<50000000000->p.shape=true->p.ix 274877906944->
 PC E 213 [.agg p.view,.i a,.i v,.agg s.view] (.agg (p.pt a s v).view):=by
 intro n;induction n with
 |zero=>intro p v h;have:=p.Aa;omega
 |succ n ih=>
 intro p v hsz hn h2 h3 hs hix;obtain⟨x1,x2,x3⟩:=(Pf.AY _ _).1 hix;obtain⟨nd,n1,n2,n3,n4,_⟩:=xr hs;obtain⟨_,s4,s5,s6⟩:=ze hs;have hsz':=p.Af;have hlen:=zd Pf.full Pf.Aa p.args;have hlen1:=zd Fm.full Fm.Aa p.Ac;have hlen2:=zd Tm.full Tm.Aa p.terms;have b1:=L3 p.kind;have b3:=QW p.kind;have hmo:=Qw n1;have he:=p.Dp a s v;refine M.F Tryz.func213 ?_;(repeat' first|refine M.gw ?_|fail);refine AW.range p.terms.length (fun m=>True)
  (fun m=>([(1,.i a),(2,.i v),(4,.ptr 0 0),(7,.ptr 1 0),(8,.ptr 2 0),(9,.ptr 3 0),(24,.s .tm p.terms),(25,.i p.terms.length),(26,.i m)],⟨5,[(0,.var p.view),(1,.var s.view),(2,.var [.i 0,.i 0,.i 0,.slice .nil (.t .ty []),.slice .nil (.t .tm []),.slice .nil (.t .fm []),.slice .nil (.t .pf [])]),(3,.var [.i p.kind,.i p.index,.i p.ty.kind,.s .ty p.ty.args,.slice (.own 4) (.t .tm ((p.terms.take m).map fun t=>t.re (y9 (a+v) s) 0)),.slice .nil (.t .fm []),.slice .nil (.t .pf [])]),(4,.row)]⟩))
  (by omega) (fun m=>rfl) (fun m=>rfl) rfl trivial (M.W [some 0,some 1,some 2,some 3,none]) ?_ ?_
 .intro m hm _;have hs2:=za Tm.full (Wi hm);have hc:=P7 a s (by omega) hss (by omega) hsi _ p.terms[m] v (Wj _) (by omega) (by omega) (by omega) (s4 _ (Wi hm)) (x1 _ (Wi hm));rw[TR] at hc;(repeat' first|refine M.gw ?_|refine M.c2 (hc) ?_|fail);exact⟨rfl,trivial,(M.W [some 0,some 1,some 2,some 3,some 6] (he:=(by(repeat'(first|exact trivial|exact Or.inr ⟨_,U,rfl⟩|refine And.intro ?_ ?_|refine⟨_,U,_,U,_,U,?_⟩|exact Ao.refl _|exact Ao.of_eq (by simp[Aq.Ay,zy _ _ _ hm])));done)))⟩
 .intro _;simp only[Wp];(repeat' first|refine M.gw ?_|fail);refine AW.range p.Ac.length (fun m=>True)
   (fun m=>([(1,.i a),(2,.i v),(4,.ptr 0 0),(7,.ptr 1 0),(8,.ptr 2 0),(9,.ptr 3 0),(42,.s .fm p.Ac),(43,.i p.Ac.length),(44,.i m)],⟨6,[(0,.var p.view),(1,.var s.view),(2,.var [.i 0,.i 0,.i 0,.slice .nil (.t .ty []),.slice .nil (.t .tm []),.slice .nil (.t .fm []),.slice .nil (.t .pf [])]),(3,.var [.i p.kind,.i p.index,.i p.ty.kind,.s .ty p.ty.args,.slice (.own 4) (.t .tm (p.terms.map fun t=>t.re (y9 (a+v) s) 0)),.slice (.own 5) (.t .fm ((p.Ac.take m).map fun f=>f.put (a+(v+Aw p.kind)) s)),.slice .nil (.t .pf [])]),(4,.row),(5,.row)]⟩))
   (by omega) (fun m=>rfl) (fun m=>rfl) rfl trivial (M.W [some 0,some 1,some 2,some 3,some 4,none]) ?_ ?_
  .intro m hm _;have hs2:=za Fm.full (Wi hm);have hc:=N7 a s (by omega) hss (by omega) hsi _ p.Ac[m] (v+Aw p.kind) (Wj _) (by omega) (by omega) (by omega) (s5 _ (Wi hm)) (x2 _ (Wi hm));rw[RZ] at hc;(repeat' first|refine M.gw ?_|refine M.c2 (hmo) ?_|refine M.c2 (hc) ?_|fail);exact⟨rfl,trivial,(M.W [some 0,some 1,some 2,some 3,some 4,some 7] (he:=(by(repeat'(first|exact trivial|exact Or.inr ⟨_,U,rfl⟩|refine And.intro ?_ ?_|refine⟨_,U,_,U,_,U,?_⟩|exact Ao.refl _|exact Ao.of_eq (by simp[Aq.Ay,zy _ _ _ hm])));done)))⟩
  .intro _;simp only[Wp];(repeat' first|refine M.gw ?_|fail);refine AW.range p.args.length (fun m=>True)
    (fun m=>([(1,.i a),(2,.i v),(4,.ptr 0 0),(7,.ptr 1 0),(8,.ptr 2 0),(9,.ptr 3 0),(64,.s .pf p.args),(65,.i p.args.length),(66,.i m)],⟨7,[(0,.var p.view),(1,.var s.view),(2,.var [.i 0,.i 0,.i 0,.slice .nil (.t .ty []),.slice .nil (.t .tm []),.slice .nil (.t .fm []),.slice .nil (.t .pf [])]),(3,.var [.i p.kind,.i p.index,.i p.ty.kind,.s .ty p.ty.args,.slice (.own 4) (.t .tm (p.terms.map fun t=>t.re (y9 (a+v) s) 0)),.slice (.own 5) (.t .fm (p.Ac.map fun f=>f.put (a+(v+Aw p.kind)) s)),.slice (.own 6) (.t .pf ((Pf.pts a s v (As p.kind) p.args).take m))]),(4,.row),(5,.row),(6,.row)]⟩))
    (by omega) (fun m=>rfl) (fun m=>rfl) rfl trivial (M.W [some 0,some 1,some 2,some 3,some 4,some 5,none]) ?_ ?_
   .intro m hm _;have hs2:=za Pf.full (Wi hm);have hva:=Mh n1 m (by omega);rw[<-n4] at hva;have hc:=ih p.args[m] (if m+1=p.args.length then v+As p.kind else v) (by omega) (by omega) (by split<;>omega) (by split<;>omega) (s6 _ (Wi hm)) (x3 _ (Wi hm));have et:=Ug (a:=a) (s:=s) (v:=v) (w:=As p.kind) hm;have ea:(if m+1=p.args.length then v+As p.kind else v)=v+(if m+1=p.args.length then As p.kind else 0):=by split<;>omega
    have hr:0<=(if m+1=p.args.length then As p.kind else 0)/\(if m+1=p.args.length then As p.kind else 0)<=2:=by split<;>omega
    generalize p.args[m].pt a s (if m+1=p.args.length then v+As p.kind else v)=X at*;rw[ea] at hc;generalize (if m+1=p.args.length then As p.kind else 0)=q at*;clear ea;(repeat' first|refine M.gw ?_|refine M.c2 (hva) ?_|refine M.c2 (hc) ?_|fail);refine⟨rfl,trivial,?_⟩;simp only[<-et];exact(M.W [some 0,some 1,some 2,some 3,some 4,some 5,some 8])
   .intro _;simp only[Vv];(repeat' first|refine M.gw ?_|fail);rw[he]
    rfl
theorem Ygw(f:Fm)(b:Int)(hb:0<=b/\b<100000000)(hf:f.full<4000000000)(hs:f.shape=true)(hix:∀p∈f.AZ 0,∀q∈p.1.vars 0,0<=q.1/\q.1<274877906944):
 PC E 242 [.agg f.view,.i b,.i 0,.agg (Tm.mk 5 0 (.mk 0 []) [.mk 4 0 (.mk 0 []) []]).view] (.agg (f.put b (Tm.mk 5 0 (.mk 0 []) [.mk 4 0 (.mk 0 []) []])).view)/\
 (f.put b (Tm.mk 5 0 (.mk 0 []) [.mk 4 0 (.mk 0 []) []])).size=f.size+wr b (f.AZ 0)/\(f.put b (Tm.mk 5 0 (.mk 0 []) [.mk 4 0 (.mk 0 []) []])).full<549755813888:=by
 have h1:(Tm.mk 5 0 (.mk 0 []) [.mk 4 0 (.mk 0 []) []]).shape=true:=by decide
 have h2:(Tm.mk 5 0 (.mk 0 []) [.mk 4 0 (.mk 0 []) []]).size=2:=by decide
 have h3:(Tm.mk 5 0 (.mk 0 []) [.mk 4 0 (.mk 0 []) []]).full<=100:=by decide
 have h4:(Tm.mk 5 0 (.mk 0 []) [.mk 4 0 (.mk 0 []) []]).vars 0=[]:=by decide
 generalize Tm.mk 5 0 (.mk 0 []) [.mk 4 0 (.mk 0 []) []]=s at*;have hc:=N7 b s (by omega) h1 (by omega) (fun p hp=>by rw[h4] at hp;cases hp) _ f 0 (Wj _) (by omega) (by omega) (by omega) hs hix;rw[RZ,XO] at hc;have e:(f.put b s).size=f.size+wr b (f.AZ 0)*(s.size-1):=ua b s h1 f hs 0;rw[h2] at e;simp only[Nat.add_one_sub_one,ZR] at e;have k:=wy f b;have z:=f.Aj;have hsh:(f.put b s).shape=true:=u3 (by omega) h1 hs;have:=ux _ hsh;exact⟨hc,e,by omega⟩
theorem Zu2(a:Int)(ha:0<=a/\a<10000):∀(n:Nat) (p:Pf) (v:Int),p.full<=n->n<100000000->0<=v->v+2*n<90000000+100000000->v<90000000->v+2*n<90000000->p.shape=true->p.ix 274877906944->
 PC E 212 [.agg p.view,.i (a+v)] (.i (vw (p.Cm (AR a) (AU a) v))):=by
 intro n;induction n with
 |zero=>intro p v h;have:=p.Aa;omega
 |succ n ih=>
 intro p v hsz hn h2 _ _ h3 hs hix;obtain⟨x1,x2,x3⟩:=(Pf.AY _ _).1 hix;obtain⟨nd,n1,n2,n3,n4,_⟩:=xr hs;obtain⟨_,s4,s5,s6⟩:=ze hs;have hsz':=p.Af;have hlen:=zd Pf.full Pf.Aa p.args;have hlen1:=zd Fm.full Fm.Aa p.Ac;have hlen2:=zd Tm.full Tm.Aa p.terms;have b1:=L3 p.kind;have b3:=QW p.kind;have hmo:=Qw n1;have he:=p.BE (AR a) (AU a) v;have hT:∀m,0<=vw ((p.terms.take m).map (AR a v))/\vw ((p.terms.take m).map (AR a v))<=(p.terms.map Tm.full).sum:=fun m=>by
  have h:=zm Tm.full p.terms m;refine⟨?_,?_⟩
  .exact (MJ fun q hq=>by obtain⟨t,ht,rfl⟩:=WA.1 hq;simp only[AR];omega)
  .refine Int.le_trans (Na (p.terms.take m) (AR a v) Tm.full fun t=> ?_) (by omega);have h1:=JK (a+v) (t.vars 0);have h2:=t.Ce 0;have h3:=t.Aj;simp only[AR];omega
 have hF:∀m,0<=vw ((p.Ac.take m).map (AU a (v+Aw p.kind)))/\vw ((p.Ac.take m).map (AU a (v+Aw p.kind)))<=(p.Ac.map Fm.full).sum:=fun m=>by
  have h:=zm Fm.full p.Ac m;refine⟨?_,?_⟩
  .exact (MJ fun q hq=>by obtain⟨t,ht,rfl⟩:=WA.1 hq;simp only[AU];omega)
  .refine Int.le_trans (Na (p.Ac.take m) (AU a (v+Aw p.kind)) Fm.full fun t=> ?_) (by omega);have h1:=wy t (a+(v+Aw p.kind));have h3:=t.Aj;simp only[AU];omega
 have hP:∀m,0<=vw ((Pf.AL (AR a) (AU a) v (As p.kind) p.args).take m).flatten/\vw ((Pf.AL (AR a) (AU a) v (As p.kind) p.args).take m).flatten<=(p.args.map Pf.full).sum:=fun m=>Zt6 a p.args v (As p.kind) m;refine M.F Tryz.func212 ?_;(repeat' first|refine M.gw ?_|fail);refine AW.range p.terms.length (fun m=>True)
  (fun m=>([(1,.i (a+v)),(2,.ptr 0 0),(5,.i (vw ((p.terms.take m).map (AR a v)))),(13,.s .tm p.terms),(14,.i p.terms.length),(15,.i m)],⟨1,[(0,.var p.view)]⟩))
  (by omega) (fun m=>rfl) (fun m=>rfl) rfl trivial (M.W [some 0]) ?_ ?_
 .intro m hm _;have hs2:=za Tm.full (Wi hm);have hc:=N4 _ p.terms[m] (a+v) (Wj _) (by omega) (by omega) (by omega) (s4 _ (Wi hm));have e1:((yt (a+v) p.terms[m]:Nat):Int)=(AR a v p.terms[m]).2:=by simp only[AR];have:=Qj p.terms[m] (a+v) 0 (s4 _ (Wi hm));rw[XO] at this;rw[this]
  have e2:vw ((p.terms.take (m+1)).map (AR a v))=vw ((p.terms.take m).map (AR a v))+(AR a v p.terms[m]).2:=by rw[zy _ _ _ hm,uo];simp[vw]
  have h4:=hT m;have h5:=hT (m+1);rw[e1] at hc;generalize (AR a v p.terms[m]).2=q at*;have hw:IntKind.i64.wrap (vw ((p.terms.take m).map (AR a v))+q)=vw ((p.terms.take m).map (AR a v))+q:=IntWalk.i64_in _ (by omega);(repeat' first|refine M.gw ?_|refine M.c2 (hc) ?_|fail);refine⟨rfl,trivial,?_⟩;simp only[e2];exact(M.W [some 0])
 .intro _;simp only[Wp];have hT1:=hT p.terms.length;rw[Wp] at hT1;clear hT;generalize hK1:vw (p.terms.map (AR a v))=K1 at*;(repeat' first|refine M.gw ?_|fail);refine AW.range p.Ac.length (fun m=>True)
   (fun m=>([(1,.i (a+v)),(2,.ptr 0 0),(5,.i (K1+vw ((p.Ac.take m).map (AU a (v+Aw p.kind))))),(26,.s .fm p.Ac),(27,.i p.Ac.length),(28,.i m)],⟨1,[(0,.var p.view)]⟩))
   (by omega) (fun m=>rfl) (fun m=>rfl) U trivial (by simp only[WX,WI];exact(M.W [some 0] (hf:=(by(repeat'(first|exact trivial|refine And.intro ?_ ?_|refine⟨_,U,_,U,?_⟩|exact Ao.refl _|exact Ao.of_eq (by simp[Aq.Ay,vw,WU,WI,XO])));done)))) ?_ ?_
  .intro m hm _;have hs2:=za Fm.full (Wi hm);obtain⟨c1,c2,c3⟩:=Ygw p.Ac[m] (a+v+Aw p.kind) (by omega) (by omega) (s5 _ (Wi hm)) (x2 _ (Wi hm));have z0:=CH 4 [] (by simp);have z1:=CH 5 [Tm.mk 4 0 (.mk 0 []) []] (by simp;decide);have c4:=JY _ p.Ac[m] (Wj _) (by omega);have c5:=JY _ _ (Wj _) c3;rw[c2] at c5;have e1:((wr (a+v+Aw p.kind) (p.Ac[m].AZ 0):Nat):Int)=(AU a (v+Aw p.kind) p.Ac[m]).2:=by simp only[AU];rw[show a+(v+Aw p.kind)=a+v+Aw p.kind by omega]
   have e2:vw ((p.Ac.take (m+1)).map (AU a (v+Aw p.kind)))=vw ((p.Ac.take m).map (AU a (v+Aw p.kind)))+(AU a (v+Aw p.kind) p.Ac[m]).2:=by rw[zy _ _ _ hm,uo];simp[vw]
   have h4:=hF m;have h5:=hF (m+1);have h6:=p.Ac[m].Aj;rw[W5,e1] at c5;generalize (AU a (v+Aw p.kind) p.Ac[m]).2=q at*;generalize p.Ac[m].put (a+v+Aw p.kind) (Tm.mk 5 0 (.mk 0 []) [.mk 4 0 (.mk 0 []) []])=G at*;generalize (p.Ac[m].size:Int)=z at*;have hw:IntKind.i64.wrap (z+q-z)=q:=by rw[show z+q-z=q by omega];exact IntWalk.i64_in _ (by omega)
   have hw2:IntKind.i64.wrap (K1+vw ((p.Ac.take m).map (AU a (v+Aw p.kind)))+q)=K1+vw ((p.Ac.take m).map (AU a (v+Aw p.kind)))+q:=IntWalk.i64_in _ (by omega);(repeat' first|refine M.gw ?_|refine M.c2 (hmo) ?_|refine M.c2 (z0) ?_|refine M.c2 (z1) ?_|refine M.c2 (c1) ?_|refine M.c2 (c5) ?_|refine M.c2 (c4) ?_|fail);refine⟨rfl,trivial,?_⟩;have hz:z+q-z=q:=by omega
   simp only[e2];exact(M.W [some 0] (hf:=(by(repeat'(first|exact trivial|refine And.intro ?_ ?_|refine⟨_,U,_,U,?_⟩|exact Ao.refl _|exact Ao.of_eq (by simp[Aq.Ay,hz,hw,hw2,Xy])));done)))
  .intro _;simp only[Wp];have hF1:=hF p.Ac.length;rw[Wp] at hF1;clear hF;have hb2:0<=K1+vw (p.Ac.map (AU a (v+Aw p.kind)))/\K1+vw (p.Ac.map (AU a (v+Aw p.kind)))<=(p.terms.map Tm.full).sum+(p.Ac.map Fm.full).sum:=by omega
   generalize hK2:K1+vw (p.Ac.map (AU a (v+Aw p.kind)))=K2 at*;(repeat' first|refine M.gw ?_|fail);refine AW.range p.args.length (fun m=>True)
    (fun m=>([(1,.i (a+v)),(2,.ptr 0 0),(5,.i (K2+vw ((Pf.AL (AR a) (AU a) v (As p.kind) p.args).take m).flatten)),(50,.s .pf p.args),(51,.i p.args.length),(52,.i m)],⟨1,[(0,.var p.view)]⟩))
    (by omega) (fun m=>rfl) (fun m=>rfl) U trivial (by simp only[WX,Xi];exact(M.W [some 0] (hf:=(by(repeat'(first|exact trivial|refine And.intro ?_ ?_|refine⟨_,U,_,U,?_⟩|exact Ao.refl _|exact Ao.of_eq (by simp[Aq.Ay,vw,WU,WI,XO])));done)))) ?_ ?_
   .intro m hm _;have hs2:=za Pf.full (Wi hm);have hva:=Mh n1 m (by omega);rw[<-n4] at hva;have hc:=ih p.args[m] (if m+1=p.args.length then v+As p.kind else v) (by omega) (by omega) (by split<;>omega) (by split<;>omega) (by split<;>omega) (by split<;>omega) (s6 _ (Wi hm)) (x3 _ (Wi hm));have et:=congrArg vw (K6 (AR a) (AU a) (v:=v) (w:=As p.kind) hm);rw[uo] at et;have ea:a+(if m+1=p.args.length then v+As p.kind else v)=a+v+(if m+1=p.args.length then As p.kind else 0):=by split<;>omega
    have hr:0<=(if m+1=p.args.length then As p.kind else 0)/\(if m+1=p.args.length then As p.kind else 0)<=2:=by split<;>omega
    have h4:=hP m;have h5:=hP (m+1);rw[ea] at hc;generalize vw (p.args[m].Cm (AR a) (AU a) (if m+1=p.args.length then v+As p.kind else v))=X at*;generalize (if m+1=p.args.length then As p.kind else 0)=q at*;clear ea;have hw:IntKind.i64.wrap (K2+vw ((Pf.AL (AR a) (AU a) v (As p.kind) p.args).take m).flatten+X)=K2+vw ((Pf.AL (AR a) (AU a) v (As p.kind) p.args).take m).flatten+X:=IntWalk.i64_in _ (by omega);(repeat' first|refine M.gw ?_|refine M.c2 (hva) ?_|refine M.c2 (hc) ?_|fail);refine⟨rfl,trivial,?_⟩;simp only[<-et];exact(M.W [some 0] (hf:=(by(repeat'(first|exact trivial|refine And.intro ?_ ?_|refine⟨_,U,_,U,?_⟩|exact Ao.refl _|exact Ao.of_eq (by simp[Aq.Ay,hw,Xy])));done)))
   .intro _;simp only[K7];(repeat' first|refine M.gw ?_|fail);rw[he,uo,uo,hK1,hK2]
    rfl
end Go.Ab
