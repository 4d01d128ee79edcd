/- A part of the proofs of this seat. No conditions. -/
import Derived.Test.YtjgokiomgcfclaaGreatDoorS2
namespace Go.Ab
open Go Go.Proofs
set_option maxRecDepth 100000
set_option maxHeartbeats 4000000
set_option linter.all false
theorem LZ(t:Tm):PC E 182 [.agg t.view] (.i (up t.kind 0)):=by
 refine M.F Tryz.func182 ?_;(repeat' first|refine M.gw ?_|refine M.cs ?_ ?_<;>intro h|fail)
 ·have e:up t.kind 0=1:=by simp only[beq_iff_eq] at h;rw[h];rfl
  rw[e];rfl
 ·have e:up t.kind 0=0:=by simp only[beq_eq_false_iff_ne,ne_eq] at h;exact if_neg h
  rw[e];rfl
theorem LN(k b:Int):b<=up k b/\up k b<=b+1:=by simp only[up];split<;>omega
theorem NI(k b:Int):b+up k 0=up k b:=by simp only[up];split<;>omega
theorem OJ(most:Int)(h0:0<=most):∀(n:Nat) (t:Tm),t.full<=n->n<549755813888->t.shape=true->PC E 114 [.agg t.view,.i most] (.bool (we most t)):=by
 intro n;induction n with
 |zero=>intro t h;have:=t.Aa;omega
 |succ n ih=>
 intro t hsz hn hs;have hsz':=Tm.Ag t;have hlen:=zg Tm.full Tm.Aa t.args;have he:=Yav h0 hs;refine M.F Tryz.func114 ?_;(repeat' first|refine M.gw ?_|refine M.cs ?_ ?_<;>intro h|fail)
 ·have h1:¬t.index<=most:=by simp at h;omega
  rw[he,decide_eq_false h1];rfl
 have h1:t.index<=most:=by simp at h;omega
 rw[decide_eq_true h1,Bool.true_and] at he;refine AW.range t.args.length (fun m=>∀j (hj:j<t.args.length),j<m->we most t.args[j]=true)
  (fun m=>([(1,.i most),(2,.ptr 0 0),(12,.s .tm t.args),(13,.i t.args.length),(14,.i m)],⟨1,[(0,.var t.view)]⟩))
  (by omega) (fun m=>rfl) (fun m=>rfl) rfl (fun j hj h=>by omega) (M.W [some 0]) ?_ ?_
 ·intro m hm hP;have hs2:=ze Tm.full (List.getElem_mem hm);have hc:=ih t.args[m] (by omega) (by omega) (zh hs _ (List.getElem_mem hm));(repeat' first|refine M.gw ?_|refine M.c2 (hc) ?_|refine M.cs ?_ ?_<;>intro h|fail)
  ·have hx:we most t.args[m]=false:=by simpa using h
   rw[he,vx (we most) hm hx];rfl
  ·have hx:we most t.args[m]=true:=by simpa using h
   exact⟨rfl,yb (p:=fun t=>we most t=true) hm hP hx,(M.W [some 0])⟩
 ·intro hP;rw[he,FL (we most) t.args fun j hj=>hP j hj hj];(repeat' first|refine M.gw ?_|fail)
  rfl
theorem Uh:∀(n:Nat) (t:Tm) (at_:Int),t.full<=n->n<274877906944->-274877906944<=at_->at_+n<549755813888->t.shape=true->PC E 253 [.agg t.view,.i at_] (.bool (decide (yw at_ t≠0))):=by
 intro n;induction n with
 |zero=>intro t at_ h;have:=t.Aa;omega
 |succ n ih=>
 intro t at_ hsz hn h1 h2 hs;have hsz':=Tm.Ag t;have hlen:=zg Tm.full Tm.Aa t.args;have he:=PR at_ t;have hup:=LN t.kind at_;have hpl:=NI t.kind at_;have hb:=LZ t;by_cases hv:t.kind=1/\t.index=at_
 ·rw[if_pos hv] at he;rw[he];refine M.F Tryz.func253 ?_;(repeat' first|refine M.go ?_|refine M.gs ?_ ?_<;>intro h|refine M.z1 4 ?_|refine M.cs ?_ ?_<;>intro h|refine M.gk ?_|fail);all_goals first
   |rfl
   |(exfalso;simp[hv.1,hv.2] at*;done)
   |(exfalso;simp_all;done)
 rw[if_neg hv] at he;refine M.F Tryz.func253 ?_;(repeat' first|refine M.gw ?_|refine M.gs ?_ ?_<;>intro h|refine M.cs ?_ ?_<;>intro h|fail);all_goals first
  |(exfalso;simp_all;done)
  |skip
 all_goals
  refine AW.range t.args.length (fun m=>∀j (hj:j<t.args.length),j<m->yw (up t.kind at_) t.args[j]=0)
   (fun m=>([(1,.i at_),(2,.ptr 0 0),(17,.s .tm t.args),(18,.i t.args.length),(19,.i m)],⟨1,[(0,.var t.view)]⟩))
   (by omega) (fun m=>rfl) (fun m=>rfl) rfl (fun j hj h=>by omega) (M.W [some 0]) ?_ ?_
  ·intro m hm hP;have hs2:=ze Tm.full (List.getElem_mem hm);have hc:=ih t.args[m] (up t.kind at_) (by omega) (by omega) (by omega) (by omega) (zh hs _ (List.getElem_mem hm));rw[<-hpl] at hc;rw[<-hpl] at hP he;(repeat' first|refine M.gw ?_|refine M.c2 (hb) ?_|refine M.c2 (hc) ?_|refine M.cs ?_ ?_<;>intro h|fail)
   ·have hx:yw (at_+up t.kind 0) t.args[m]≠0:=by simpa using h
    rw[he,decide_eq_true (Sc hm hx)];rfl
   ·have hx:yw (at_+up t.kind 0) t.args[m]=0:=by simpa using h
    exact⟨rfl,by rw[<-hpl];exact yb (p:=fun t'=>yw (at_+up t.kind 0) t'=0) hm hP hx,(M.W [some 0])⟩
  ·intro hP;rw[he,Si fun j hj=>hP j hj hj];(repeat' first|refine M.gw ?_|fail)
   rfl
theorem YE:∀(n:Nat) (t:Tm) (at_:Int),t.full<=n->n<274877906944->-274877906944<=at_->at_+n<549755813888->t.shape=true->PC E 183 [.agg t.view,.i at_] (.i (yw at_ t)):=by
 intro n;induction n with
 |zero=>intro t at_ h;have:=t.Aa;omega
 |succ n ih=>
 intro t at_ hsz hn h1 h2 hs;have hsz':=Tm.Ag t;have hlen:=zg Tm.full Tm.Aa t.args;have he:=PR at_ t;have hup:=LN t.kind at_;have hpl:=NI t.kind at_;have hb:=LZ t;by_cases hv:t.kind=1/\t.index=at_
 ·rw[if_pos hv] at he;rw[he];have ha:=HI hs hv.1;obtain⟨k,i,th,xs⟩:=t;simp only[Tm.Ac] at ha;subst ha;obtain⟨hv1,hv2⟩:=hv;simp only[Tm.Ah,Tm.A4] at hv1 hv2;subst hv1;subst hv2;refine M.F Tryz.func183 ?_;(repeat' first|refine M.gw ?_|refine M.cs ?_ ?_<;>intro h|fail);all_goals first
   |(exfalso;simp at h;done)
   |skip
  all_goals
   refine AW.range 0 (fun m=>True) (fun m=>([(1,.i i),(2,.ptr 0 0),(5,.i 1),(20,.s .tm []),(21,.i 0),(22,.i m)],⟨1,[(0,.var (Tm.mk 1 i th []).view)]⟩))
    (by omega) (fun m=>rfl) (fun m=>rfl) rfl trivial (M.W [some 0]) ?_ ?_
   ·intro m hm;omega
   ·intro _;(repeat' first|refine M.gw ?_|fail)
    rfl
 rw[if_neg hv] at he;refine M.F Tryz.func183 ?_;(repeat' first|refine M.gw ?_|refine M.gs ?_ ?_<;>intro h|refine M.cs ?_ ?_<;>intro h|fail);all_goals first
  |(exfalso;simp_all;done)
  |skip
 all_goals
  refine AW.range t.args.length (fun m=>True)
   (fun m=>([(1,.i at_),(2,.ptr 0 0),(5,.i (((t.args.take m).map (yw (up t.kind at_))).sum:Nat)),(20,.s .tm t.args),(21,.i t.args.length),(22,.i m)],⟨1,[(0,.var t.view)]⟩))
   (by omega) (fun m=>rfl) (fun m=>rfl) rfl trivial (M.W [some 0]) ?_ ?_
  ·intro m hm _;have hs1:=yv (yw (up t.kind at_)) t.args m hm;have hs2:=ze Tm.full (List.getElem_mem hm);have hs3:((t.args.take m).map (yw (up t.kind at_))).sum<=(t.args.map Tm.full).sum:=by
    have a1:=zw Tm.full t.args m;have a2:=xi (f:=yw (up t.kind at_)) (g:=Tm.full) (t.args.take m) fun x _=>Nat.le_trans (LY x _) x.Ak;omega
   have hs4:=LY t.args[m] (up t.kind at_);have hs5:=t.args[m].Ak;have hc:=ih t.args[m] (up t.kind at_) (by omega) (by omega) (by omega) (by omega) (zh hs _ (List.getElem_mem hm));rw[<-hpl] at hc hs1 hs3 hs4;simp only[<-hpl];(repeat' first|refine M.gw ?_|refine M.c2 (hb) ?_|refine M.c2 (hc) ?_|fail);refine⟨rfl,trivial,?_⟩;simp only[hs1];exact(M.W [some 0])
  ·intro _;(repeat' first|refine M.gw ?_|fail);rw[he];simp[zi,V.wk,V.An,zd]
theorem Ypd(by_:Int)(hby: -549755813888<=by_/\by_<=549755813888):∀(n:Nat) (t:Tm) (fr:Int),t.full<=n->n<274877906944->-274877906944<=fr->fr+n<549755813888->t.shape=true->(∀p∈t.vars 0,0<=p.1/\p.1<9223372036854775808/\p.1+by_<9223372036854775808)->
 PC E 115 [.agg t.view,.i fr,.i by_] (.agg (t.re (zo fr by_) 0).view):=by
 intro n;induction n with
 |zero=>intro t fr h;have:=t.Aa;omega
 |succ n ih=>
 intro t fr hsz hn h1 h2 hs hix;have hsz':=Tm.Ag t;have hlen:=zg Tm.full Tm.Aa t.args;have hup:=LN t.kind fr;have hpl:=NI t.kind fr;have hb:=LZ t;by_cases hv:t.kind=1
 ·have ht:=KQ hs hv;have hi:=hix (t.index,0) (by rw[vu hs hv];simp);rw[ht];generalize t.index=i at hi;simp only at hi;rw[FT,x7];have hvi:(vT i).index=i:=rfl;refine M.F Tryz.func115 ?_;(repeat' first|refine M.gw ?_|refine M.cs ?_ ?_<;>intro h|fail);all_goals first
   |(exfalso;simp at h;done)
   |skip
  ·have h3:i-0>=fr:=by simp at h;omega
   rw[if_pos h3];refine AW.range 0 (fun m=>True) (fun m=>([(1,.i fr),(2,.i by_),(3,.ptr 0 0),(6,.ptr 1 0),(7,.ptr 2 0),(32,.s .tm []),(33,.i 0),(34,.i m)],⟨3,[(0,.var (vT i).view),(1,.var [.i 0,.i 0,.i 0,.slice .nil (.t .ty []),.slice .nil (.t .tm [])]),(2,.var [.i 1,.i (i+by_),.i 0,.s .ty [],.slice .nil (.t .tm [])])]⟩))
    (by omega) (fun m=>rfl) (fun m=>rfl) rfl trivial (M.W [some 0,some 1,some 2]) ?_ ?_
   ·intro m hm;omega
   ·intro _;(repeat' first|refine M.gw ?_|fail)
    rfl
  ·have h3:¬i-0>=fr:=by simp at h;omega
   rw[if_neg h3];refine AW.range 0 (fun m=>True) (fun m=>([(1,.i fr),(2,.i by_),(3,.ptr 0 0),(6,.ptr 1 0),(7,.ptr 2 0),(32,.s .tm []),(33,.i 0),(34,.i m)],⟨3,[(0,.var (vT i).view),(1,.var [.i 0,.i 0,.i 0,.slice .nil (.t .ty []),.slice .nil (.t .tm [])]),(2,.var [.i 1,.i i,.i 0,.s .ty [],.slice .nil (.t .tm [])])]⟩))
    (by omega) (fun m=>rfl) (fun m=>rfl) rfl trivial (M.W [some 0,some 1,some 2]) ?_ ?_
   ·intro m hm;omega
   ·intro _;(repeat' first|refine M.gw ?_|fail)
    rfl
 have he:=Zzx (fr:=fr) (by_:=by_) hv;refine M.F Tryz.func115 ?_;(repeat' first|refine M.gw ?_|refine M.gs ?_ ?_<;>intro h|refine M.cs ?_ ?_<;>intro h|fail);all_goals first
  |(exfalso;simp_all;done)
  |skip
 all_goals
  refine AW.range t.args.length (fun m=>True) (fun m=>([(1,.i fr),(2,.i by_),(3,.ptr 0 0),(6,.ptr 1 0),(7,.ptr 2 0),(32,.s .tm t.args),(33,.i t.args.length),(34,.i m)],⟨4,[(0,.var t.view),(1,.var [.i 0,.i 0,.i 0,.slice .nil (.t .ty []),.slice .nil (.t .tm [])]),(2,.var [.i t.kind,.i t.index,.i t.ty.kind,.s .ty t.ty.args,.slice (.own 3) (.t .tm ((t.args.take m).map fun x=>x.re (zo (up t.kind fr) by_) 0))]),(3,.row)]⟩))
   (by omega) (fun m=>rfl) (fun m=>rfl) rfl trivial (M.W [some 0,some 1,some 2,none]) ?_ ?_
  ·intro m hm _;have hs2:=ze Tm.full (List.getElem_mem hm);have hc:=ih t.args[m] (up t.kind fr) (by omega) (by omega) (by omega) (by omega) (zh hs _ (List.getElem_mem hm)) (fun p hp=>by
    obtain⟨q,hq,hqe⟩:=OV (b':=up t.kind 0) p hp;have:=hix q (Kp hv (List.getElem_mem hm) hq);rw[<-hqe];exact this)
   rw[<-hpl] at hc;simp only[<-hpl];(repeat' first|refine M.gw ?_|refine M.c2 (hb) ?_|refine M.c2 (hc) ?_|fail);exact⟨rfl,trivial,(M.W [some 0,some 1,some 2,some 5] (he:=(by(repeat'(first|exact trivial|exact Or.inr ⟨_,U,rfl⟩|refine And.intro ?_ ?_|refine⟨_,U,_,U,_,U,?_⟩|exact Aj.refl _|exact Aj.of_eq (by simp[Ao.Ar,ya _ _ _ hm])));done)))⟩
  ·intro _;simp only[List.take_length];(repeat' first|refine M.gw ?_|fail);rw[he];simp[zi,V.wk,V.An,zd,Ty.view,Tm.view]
theorem M0(by_:Int)(hby: -549755813888<=by_/\by_<=549755813888):∀(n:Nat) (t:Tm) (fr:Int),t.full<=n->n<274877906944->-274877906944<=fr->fr+n<549755813888->t.shape=true->(∀p∈t.vars 0,0<=p.1/\p.1<549755813888)->
 PC E 115 [.agg t.view,.i fr,.i by_] (.agg (t.re (zo fr by_) 0).view):=
 fun n t fr h1 h2 h3 h4 h5 h6=>Ypd by_ hby n t fr h1 h2 h3 h4 h5 fun p hp=>by have:=h6 p hp;omega
theorem Rl(k:Int):PC E 160 [.i k] (.bool (xq k)):=by
 have e:xq k=decide (k=4\/k=5\/k=6\/k=7):=by rw[Bool.eq_iff_iff,Bf,decide_eq_true_iff];omega
 rw[e];refine M.F Tryz.func160 ?_;(repeat' first|refine M.gw ?_|refine M.gs ?_ ?_<;>intro h|fail);all_goals(simp_all[zi,V.wk,V.An,zd];try(first|omega|(rw[Bool.eq_iff_iff];simp)))
theorem P8(f:Fm):PC E 184 [.agg f.view] (.i (AE f.kind 0)):=by
 have h1:=Rl f.kind;cases hq:xq f.kind with
 |true=>
  have e:AE f.kind 0=1:=by simp[AE,hq]
  rw[hq] at h1;rw[e];refine M.F Tryz.func184 ?_;(repeat' first|refine M.gw ?_|refine M.c2 (h1) ?_|fail)
  rfl
 |false=>
  have e:AE f.kind 0=0:=by simp[AE,hq]
  rw[hq] at h1;rw[e];refine M.F Tryz.func184 ?_;(repeat' first|refine M.gw ?_|refine M.c2 (h1) ?_|fail)
  rfl
theorem OQ(k b:Int):b+AE k 0=AE k b:=by simp only[AE];split<;>omega
theorem Q1(t:Ty):t.ok=(t.err==0):=Ty.EK t
theorem Ycw{f:Fm}(hk:f.kind=1):f.shape=(decide (f.args.length=0)&&f.ty.BJ&&decide (f.terms.length=2)&&f.terms.all Tm.shape):=by
 rw[Fm.Ai];simp only[Fm.head,hk,if_true];by_cases h:f.args.length=0
 ·have ha:f.args=[]:=List.length_eq_zero_iff.1 h;rw[ha];cases f.ty.BJ<;>simp;rw[Bool.eq_iff_iff];simp
 ·simp[h]
theorem Yae{f:Fm}(hk:f.kind=2\/f.kind=3):f.shape=(decide (f.terms.length=0)&&f.ty.BJ&&decide (f.args.length=2)&&f.args.all Fm.shape):=by
 rw[Fm.Ai];have h1:¬f.kind=1:=by omega
 simp only[Fm.head,if_neg h1,if_pos hk];by_cases h:f.terms.length=0
 ·have ha:f.terms=[]:=List.length_eq_zero_iff.1 h;rw[ha];cases f.ty.BJ<;>simp;rw[Bool.eq_iff_iff];simp
 ·simp[h]
theorem Xt{f:Fm}(hk:xq f.kind=true):f.shape=(decide (f.terms.length=0)&&f.ty.ok&&decide (f.args.length=1)&&f.args.all Fm.shape):=by
 rw[Fm.Ai];rw[Bf] at hk;have h1:¬f.kind=1:=by omega
 have h2:¬(f.kind=2\/f.kind=3):=by omega
 have h3:f.kind=4\/f.kind=5\/f.kind=6\/f.kind=7:=by omega
 simp only[Fm.head,if_neg h1,if_neg h2,if_pos h3];by_cases h:f.terms.length=0
 ·have ha:f.terms=[]:=List.length_eq_zero_iff.1 h;rw[ha];cases f.ty.ok<;>simp;rw[Bool.eq_iff_iff];simp
 ·simp[h]
theorem Xc{f:Fm}(h1:f.kind≠1)(h2:¬(f.kind=2\/f.kind=3))(h3:xq f.kind=false):f.shape=false:=by
 rw[Fm.Ai];have h4:¬(f.kind=4\/f.kind=5\/f.kind=6\/f.kind=7):=by
  intro hc;have:xq f.kind=true:=by rw[Bf];omega
  rw[h3] at this;cases this
 simp only[Fm.head,if_neg h1,if_neg h2,if_neg h4,Bool.false_and]
theorem Xg:∀(n:Nat) (f:Fm),f.full<=n->n<549755813888->PC E 95 [.agg f.view] (.bool f.shape):=by
 intro n;induction n with
 |zero=>intro f h;have:=f.Aa;omega
 |succ n ih=>
 intro f hsz hn;have hsz':=f.Ag;have hlen:=zg Fm.full Fm.Aa f.args;have hlen2:=zg Tm.full Tm.Aa f.terms;have hz:=SO f.ty;have hty:=LQ f.ty (by omega);have hq:=Rl f.kind;have ht:∀x∈f.terms,PC E 144 [.agg x.view] (.bool x.shape):=fun x hx=>TB _ x (Nat.le_refl _) (by have:=ze Tm.full hx;omega);have ha:∀x∈f.args,PC E 95 [.agg x.view] (.bool x.shape):=fun x hx=>ih x (by have:=ze Fm.full hx;omega) (by omega);clear ih;by_cases k1:f.kind=1
 ·have e:=Ycw k1;obtain⟨k,ty,ts,fs⟩:=f;simp only[Fm.Ah,Fm.AL,Fm.Am,Fm.Ac] at*;subst k1;by_cases hl:ts.length=2
  ·obtain ⟨a,b,rfl⟩:=JY hl;have t1:=ht a (by simp);have t2:=ht b (by simp);rw[e];refine M.F Tryz.func95 ?_;(repeat' first|refine M.gw ?_|refine M.c2 (hz) ?_|refine M.c2 (t1) ?_|refine M.c2 (t2) ?_|refine M.gs ?_ ?_<;>intro h|refine M.zb ?_|fail);all_goals(simp at*;simp_all[zi,V.wk,V.An,zd];done)
  ·have e2:(Fm.mk 1 ty ts fs).shape=false:=by rw[e];simp[hl]
   rw[e2];refine M.F Tryz.func95 ?_;(repeat' first|refine M.gw ?_|refine M.c2 (hz) ?_|refine M.gs ?_ ?_<;>intro h|refine M.zb ?_|fail);all_goals first|simp at*;simp_all[zi,V.wk,V.An,zd];done|exfalso;simp at*;omega
 by_cases k2:f.kind=2\/f.kind=3
 ·have e:=Yae k2;obtain⟨k,ty,ts,fs⟩:=f;simp only[Fm.Ah,Fm.AL,Fm.Am,Fm.Ac] at*;by_cases hl:fs.length=2
  ·obtain ⟨a,b,rfl⟩:=JY hl;have t1:=ha a (by simp);have t2:=ha b (by simp);rw[e];rcases k2 with rfl|rfl;all_goals
    refine M.F Tryz.func95 ?_;(repeat' first|refine M.gw ?_|refine M.c2 (hz) ?_|refine M.c2 (t1) ?_|refine M.c2 (t2) ?_|refine M.gs ?_ ?_<;>intro h|refine M.zb ?_|fail);all_goals(simp at*;simp_all[zi,V.wk,V.An,zd];done)
  ·have e2:(Fm.mk k ty ts fs).shape=false:=by rw[e];simp[hl]
   rw[e2];rcases k2 with rfl|rfl;all_goals
    refine M.F Tryz.func95 ?_;(repeat' first|refine M.gw ?_|refine M.c2 (hz) ?_|refine M.gs ?_ ?_<;>intro h|refine M.zb ?_|fail);all_goals first|simp at*;simp_all[zi,V.wk,V.An,zd];done|exfalso;simp at*;omega
 cases k3:xq f.kind with
 |true=>
  have e:=Xt k3;rw[k3] at hq;have hk:f.kind=4\/f.kind=5\/f.kind=6\/f.kind=7:=by rw[Bf] at k3;omega
  obtain⟨k,ty,ts,fs⟩:=f;simp only[Fm.Ah,Fm.AL,Fm.Am,Fm.Ac] at*;rw[Q1] at e;by_cases hl:fs.length=1
  ·obtain ⟨a,rfl⟩:=J9 hl;have t1:=ha a (by simp);rw[e];rcases hk with rfl|rfl|rfl|rfl;all_goals
    refine M.F Tryz.func95 ?_;(repeat' first|refine M.gw ?_|refine M.c2 (hty) ?_|refine M.c2 (hq) ?_|refine M.c2 (t1) ?_|refine M.gs ?_ ?_<;>intro h|refine M.zb ?_|fail);all_goals(simp at*;simp_all[zi,V.wk,V.An,zd];done)
  ·have e2:(Fm.mk k ty ts fs).shape=false:=by rw[e];simp[hl]
   rw[e2];rcases hk with rfl|rfl|rfl|rfl;all_goals
    refine M.F Tryz.func95 ?_;(repeat' first|refine M.gw ?_|refine M.c2 (hty) ?_|refine M.c2 (hq) ?_|refine M.gs ?_ ?_<;>intro h|refine M.zb ?_|fail);all_goals first|simp at*;simp_all[zi,V.wk,V.An,zd];done|exfalso;simp at*;omega
 |false=>
  have e:=Xc k1 k2 k3;rw[k3] at hq;rw[e];refine M.F Tryz.func95 ?_;(repeat' first|refine M.gw ?_|refine M.c2 (hq) ?_|refine M.gs ?_ ?_<;>intro h|refine M.zb ?_|refine M.cs ?_ ?_<;>intro h|fail);all_goals first
   |rfl
   |(exfalso;simp at*;omega)
theorem Py:∀(n:Nat) (f:Fm),f.full<=n->n<549755813888->PC E 96 [.agg f.view] (.i f.size):=by
 intro n;induction n with
 |zero=>intro f h;have:=f.Aa;omega
 |succ n ih=>
 intro f hsz hn;have hsz':=f.Ag;have hse:=f.size_eq;have hlen:=zg Fm.full Fm.Aa f.args;have hlen2:=zg Tm.full Tm.Aa f.terms;have hle1:=xi (f:=Tm.size) (g:=Tm.full) f.terms fun x _=>x.Ak;have hle2:=xi (f:=Fm.size) (g:=Fm.full) f.args fun x _=>x.Ak;refine M.F Tryz.func96 ?_;(repeat' first|refine M.gw ?_|fail);refine AW.range f.terms.length (fun m=>True)
  (fun m=>([(1,.ptr 0 0),(3,.i (1+((f.terms.take m).map Tm.size).sum:Nat)),(9,.s .tm f.terms),(10,.i f.terms.length),(11,.i m)],⟨1,[(0,.var f.view)]⟩))
  (by omega) (fun m=>rfl) (fun m=>rfl) rfl trivial (M.W [some 0]) ?_ ?_
 ·intro m hm _;have hs1:=yv Tm.size f.terms m hm;have hs2:=ze Tm.full (List.getElem_mem hm);have hs3:=zw Tm.size f.terms (m+1);have hc:=y6 _ f.terms[m] (Nat.le_refl _) (by omega);(repeat' first|refine M.gw ?_|refine M.c2 (hc) ?_|fail);refine⟨rfl,trivial,?_⟩;simp only[hs1];exact(M.W [some 0] (hf:=(by(repeat'(first|exact trivial|refine And.intro ?_ ?_|refine⟨_,U,_,U,?_⟩|exact Aj.refl _|exact Aj.of_eq (by simp[Ao.Ar,Int.natCast_add,Int.add_assoc])));done)))
 ·intro _;simp only[List.take_length];(repeat' first|refine M.gw ?_|fail);refine AW.range f.args.length (fun m=>True)
   (fun m=>([(1,.ptr 0 0),(3,.i (1+(f.terms.map Tm.size).sum+((f.args.take m).map Fm.size).sum:Nat)),(21,.s .fm f.args),(22,.i f.args.length),(23,.i m)],⟨1,[(0,.var f.view)]⟩))
   (by omega) (fun m=>rfl) (fun m=>rfl) rfl trivial (M.W [some 0]) ?_ ?_
  ·intro m hm _;have hs1:=yv Fm.size f.args m hm;have hs2:=ze Fm.full (List.getElem_mem hm);have hs3:=zw Fm.size f.args (m+1);have hc:=ih f.args[m] (by omega) (by omega);(repeat' first|refine M.gw ?_|refine M.c2 (hc) ?_|fail);refine⟨rfl,trivial,?_⟩;simp only[hs1];exact(M.W [some 0] (hf:=(by(repeat'(first|exact trivial|refine And.intro ?_ ?_|refine⟨_,U,_,U,?_⟩|exact Aj.refl _|exact Aj.of_eq (by simp[Ao.Ar,Int.natCast_add,Int.add_assoc])));done)))
  ·intro _;simp only[List.take_length];(repeat' first|refine M.gw ?_|fail);rw[hse]
   rfl
theorem vq(f:Fm)(hf:f.full<549755813888):PC E 47 [.agg f.view] (.i f.err):=by
 have h1:=Xg _ f (Nat.le_refl _) hf;have h2:=Py _ f (Nat.le_refl _) hf;have hle:=f.Ak;cases hs:f.shape with
 |false=>
  have e:f.err=2:=by simp[Fm.err,hs]
  rw[hs] at h1;rw[e];refine M.F Tryz.func47 ?_;(repeat' first|refine M.gw ?_|refine M.c2 (h1) ?_|fail)
  rfl
 |true=>
  rw[hs] at h1;by_cases hz:f.size>4096
  ·have e:f.err=4:=by simp[Fm.err,hs,hz]
   rw[e];refine M.F Tryz.func47 ?_;(repeat' first|refine M.gw ?_|refine M.c2 (h1) ?_|refine M.c2 (h2) ?_|refine M.cs ?_ ?_<;>intro h|fail)
   ·rfl
   ·exfalso;simp at h;omega
  ·have e:f.err=0:=by simp[Fm.err,hs,hz]
   rw[e];refine M.F Tryz.func47 ?_;(repeat' first|refine M.gw ?_|refine M.c2 (h1) ?_|refine M.c2 (h2) ?_|refine M.cs ?_ ?_<;>intro h|fail)
   ·exfalso;simp at h;omega
   ·rfl
theorem Yj:∀(n:Nat) (f:Fm) (at_:Int),f.full<=n->n<274877906944->-274877906944<=at_->at_+n<549755813888->f.shape=true->PC E 222 [.agg f.view,.i at_] (.bool (decide (xy at_ f≠0))):=by
 intro n;induction n with
 |zero=>intro f at_ h;have:=f.Aa;omega
 |succ n ih=>
 intro f at_ hsz hn h1 h2 hs;have hsz':=f.Ag;have hlen:=zg Fm.full Fm.Aa f.args;have hlen2:=zg Tm.full Tm.Aa f.terms;have he:=Uw (at_:=at_) hs;have hup:=Jj f.kind at_;have hpl:=OQ f.kind at_;have hb:=P8 f;refine M.F Tryz.func222 ?_;(repeat' first|refine M.gw ?_|fail);refine AW.range f.terms.length (fun m=>∀j (hj:j<f.terms.length),j<m->yw at_ f.terms[j]=0)
  (fun m=>([(1,.i at_),(2,.ptr 0 0),(10,.s .tm f.terms),(11,.i f.terms.length),(12,.i m)],⟨1,[(0,.var f.view)]⟩))
  (by omega) (fun m=>rfl) (fun m=>rfl) rfl (fun j hj h=>by omega) (M.W [some 0]) ?_ ?_
 ·intro m hm hP;have hs2:=ze Tm.full (List.getElem_mem hm);have hc:=Uh _ f.terms[m] at_ (Nat.le_refl _) (by omega) (by omega) (by omega) (zy hs (List.getElem_mem hm));(repeat' first|refine M.gw ?_|refine M.c2 (hc) ?_|refine M.cs ?_ ?_<;>intro h|fail)
  ·have hx:yw at_ f.terms[m]≠0:=by simpa using h
   have:=Sc hm hx;rw[he,decide_eq_true (show _≠0 by omega)];rfl
  ·have hx:yw at_ f.terms[m]=0:=by simpa using h
   exact⟨rfl,yb (p:=fun t'=>yw at_ t'=0) hm hP hx,(M.W [some 0])⟩
 ·intro hP;rw[Si (f:=yw at_) fun j hj=>hP j hj hj,Nat.zero_add] at he;(repeat' first|refine M.gw ?_|fail);refine AW.range f.args.length (fun m=>∀j (hj:j<f.args.length),j<m->xy (AE f.kind at_) f.args[j]=0)
   (fun m=>([(1,.i at_),(2,.ptr 0 0),(21,.s .fm f.args),(22,.i f.args.length),(23,.i m)],⟨1,[(0,.var f.view)]⟩))
   (by omega) (fun m=>rfl) (fun m=>rfl) rfl (fun j hj h=>by omega) (M.W [some 0]) ?_ ?_
  ·intro m hm hP;have hs2:=ze Fm.full (List.getElem_mem hm);have hc:=ih f.args[m] (AE f.kind at_) (by omega) (by omega) (by omega) (by omega) (zn hs (List.getElem_mem hm));rw[<-hpl] at hc;rw[<-hpl] at hP he;(repeat' first|refine M.gw ?_|refine M.c2 (hb) ?_|refine M.c2 (hc) ?_|refine M.cs ?_ ?_<;>intro h|fail)
   ·have hx:xy (at_+AE f.kind 0) f.args[m]≠0:=by simpa using h
    rw[he,decide_eq_true (Sc hm hx)];rfl
   ·have hx:xy (at_+AE f.kind 0) f.args[m]=0:=by simpa using h
    exact⟨rfl,by rw[<-hpl];exact yb (p:=fun t'=>xy (at_+AE f.kind 0) t'=0) hm hP hx,(M.W [some 0])⟩
  ·intro hP;rw[he,Si fun j hj=>hP j hj hj];(repeat' first|refine M.gw ?_|fail)
   rfl
theorem Yc6:∀(n:Nat) (f:Fm) (g:List Ty),f.full<=n->n<100000000->f.shape=true->(∀x∈g,x.err=0)->g.length+n<274877906944->g.length+f.size<100000->PC E 210 [.s .ty g,.agg f.view] (.i (f.B9 g)):=by
 intro n;induction n with
 |zero=>intro f g h;have:=f.Aa;omega
 |succ n ih=>
 intro f g hsz hn hs hg hgl hgz;have hsz':=f.Ag;have hse:=f.size_eq;have hlen:=zg Fm.full Fm.Aa f.args;have hlen2:=zg Tm.full Tm.Aa f.terms;have he:=Fm.EN g f;have hq:=Rl f.kind;refine M.F Tryz.func210 ?_;(repeat' first|refine M.gw ?_|fail);refine AW.range f.terms.length (fun m=>∀j (hj:j<f.terms.length),j<m->tE g f.terms[j]=0)
  (fun m=>([(0,.s .ty g),(3,.ptr 0 0),(13,.s .tm f.terms),(14,.i f.terms.length),(15,.i m)],⟨1,[(0,.var f.view)]⟩))
  (by omega) (fun m=>rfl) (fun m=>rfl) rfl (fun j hj h=>by omega) (M.W [some 0]) ?_ ?_
 ·intro m hm hP;have hs2:=ze Tm.full (List.getElem_mem hm);have hc:=UK g f.terms[m] (by omega) hg (by omega);have hfi:tE g f.terms[m]≠0->f.B9 g=tE g f.terms[m]:=fun hx=>by
   have h1:=yx hm hP hx;rw[he,h1,if_pos hx]
  by_cases hx:(Ec g f.terms[m]).2=0
  ·by_cases hk:(Ec g f.terms[m]).1.kind=1
   ·have ht:tE g f.terms[m]=0:=by simp[tE,hx,hk]
    rw[hx] at hc;(repeat' first|refine M.gw ?_|refine M.c2 (hc) ?_|refine M.cs ?_ ?_<;>intro h|fail)
    ·exfalso;simp at h;exact h hk
    ·exact ⟨rfl,yb (p:=fun t'=>tE g t'=0) hm hP ht,(M.W [some 0])⟩
   ·have ht:tE g f.terms[m]=7:=by simp[tE,hx,hk]
    rw[ht] at hfi;rw[hfi (by decide)];rw[hx] at hc;(repeat' first|refine M.gw ?_|refine M.c2 (hc) ?_|refine M.cs ?_ ?_<;>intro h|fail)
    ·rfl
    ·exfalso;simp at h;exact hk h
  ·have ht:tE g f.terms[m]=(Ec g f.terms[m]).2:=by simp[tE,hx]
   rw[ht] at hfi;rw[hfi hx];(repeat' first|refine M.gw ?_|refine M.c2 (hc) ?_|refine M.cs ?_ ?_<;>intro h|fail)
   ·rfl
   all_goals(exfalso;simp_all)
 ·intro hP;have h0:yz (tE g) f.terms=0:=yh fun j hj _=>hP j hj hj;rw[if_neg (by simp[h0])] at he;have htyl:=f.ty.size_pos;have hrest:∀g',g'=Dd g f->(∀x∈g',x.err=0)/\g'.length<=g.length+1/\∀(m:Nat) (hm:m<f.args.length),PC E 210 [.s .ty g',.agg f.args[m].view] (.i (f.args[m].B9 g')):=fun g' hg'=>by
   have hl:g'.length<=g.length+1:=by rw[hg'];simp only[Dd];split<;>simp
   have hee:∀x∈g',x.err=0:=fun x hx=>by
    rw[hg'] at hx;simp only[Dd] at hx;split at hx
    ·rename_i hqk;rcases List.mem_append.1 hx with hx|hx
     ·exact hg x hx
     ·rw[List.mem_singleton] at hx;subst hx;have h1:=Xt hqk;rw[hs] at h1;have h2:f.ty.ok=true:=by
       cases ho:f.ty.ok with
       |true=>rfl
       |false=>rw[ho] at h1;simp at h1
      rw[Q1] at h2;simpa using h2
    ·exact hg x hx
   refine⟨hee,hl,fun m hm=> ?_⟩;have hs2:=ze Fm.full (List.getElem_mem hm);have hs3:=ze Fm.size (List.getElem_mem hm);exact ih f.args[m] g' (by omega) (by omega) (zn hs (List.getElem_mem hm)) hee (by omega) (by omega)
  cases hqk:xq f.kind with
  |true=>
   rw[hqk] at hq;have hcx:Dd g f=g++[f.ty]:=IG hqk;obtain⟨_,_,hcall⟩:=hrest (g++[f.ty]) hcx.symm;rw[hcx] at he;(repeat' first|refine M.gw ?_|refine M.c2 (hq) ?_|fail);refine AW.range f.args.length (fun m=>∀j (hj:j<f.args.length),j<m->f.args[j].B9 (g++[f.ty])=0)
    (fun m=>([(0,.s .ty (g++[f.ty])),(3,.ptr 0 0),(46,.s .fm f.args),(47,.i f.args.length),(48,.i m)],⟨1,[(0,.var f.view)]⟩))
    (by omega) (fun m=>rfl) (fun m=>rfl) rfl (fun j hj h=>by omega) (M.W [some 0]) ?_ ?_
   ·intro m hm hP;have hc:=hcall m hm;by_cases hx:f.args[m].B9 (g++[f.ty])=0
    ·rw[hx] at hc;(repeat' first|refine M.gw ?_|refine M.c2 (hc) ?_|fail);exact⟨rfl,yb (p:=fun t'=>Fm.B9 (g++[f.ty]) t'=0) hm hP hx,(M.W [some 0])⟩
    ·rw[he,yx hm hP hx];(repeat' first|refine M.gw ?_|refine M.c2 (hc) ?_|refine M.cs ?_ ?_<;>intro h|fail)
     ·rfl
     ·exfalso;simp at h;exact hx h
   ·intro hP;rw[he,yh fun j hj _=>hP j hj hj];(repeat' first|refine M.gw ?_|fail)
    rfl
  |false=>
   rw[hqk] at hq;have hcx:Dd g f=g:=It (by simp[hqk]);obtain⟨_,_,hcall⟩:=hrest g hcx.symm;rw[hcx] at he;(repeat' first|refine M.gw ?_|refine M.c2 (hq) ?_|fail);refine AW.range f.args.length (fun m=>∀j (hj:j<f.args.length),j<m->f.args[j].B9 g=0)
    (fun m=>([(0,.s .ty g),(3,.ptr 0 0),(46,.s .fm f.args),(47,.i f.args.length),(48,.i m)],⟨1,[(0,.var f.view)]⟩))
    (by omega) (fun m=>rfl) (fun m=>rfl) rfl (fun j hj h=>by omega) (M.W [some 0]) ?_ ?_
   ·intro m hm hP;have hc:=hcall m hm;by_cases hx:f.args[m].B9 g=0
    ·rw[hx] at hc;(repeat' first|refine M.gw ?_|refine M.c2 (hc) ?_|fail);exact⟨rfl,yb (p:=fun t'=>Fm.B9 g t'=0) hm hP hx,(M.W [some 0])⟩
    ·rw[he,yx hm hP hx];(repeat' first|refine M.gw ?_|refine M.c2 (hc) ?_|refine M.cs ?_ ?_<;>intro h|fail)
     ·rfl
     ·exfalso;simp at h;exact hx h
   ·intro hP;rw[he,yh fun j hj _=>hP j hj hj];(repeat' first|refine M.gw ?_|fail)
    rfl
theorem OB(g:List Ty)(f:Fm)(hf:f.full<549755813888)(hg:∀x∈g,x.err=0)(hgl:g.length<90000):PC E 140 [.s .ty g,.agg f.view] (.i (vp g f)):=by
 have h1:=vq f hf;by_cases he:f.err=0
 ·have h2:=(Fm.Ae f).1 he;have h3:=ye he;have h4:=Yc6 _ f g (Nat.le_refl _) (by omega) h2.1 hg (by omega) (by omega);have e:vp g f=f.B9 g:=by simp only[vp];rw[if_neg (by simp[he])]
  rw[he] at h1;rw[e];refine M.F Tryz.func140 ?_;(repeat' first|refine M.gw ?_|refine M.c2 (h1) ?_|refine M.c2 (h4) ?_|fail)
  rfl
 ·have e:vp g f=f.err:=by simp only[vp];rw[if_pos he]
  rw[e];refine M.F Tryz.func140 ?_;(repeat' first|refine M.gw ?_|refine M.c2 (h1) ?_|refine M.cs ?_ ?_<;>intro h|fail)
  ·rfl
  ·exfalso;simp at h;exact he h
theorem NJ(g:List Ty)(f:Fm)(hf:f.full<549755813888)(hg:(g.map Ty.size).sum<1099511627776):PC E 89 [.s .ty g,.agg f.view] (.i (yg g f)):=by
 have h1:=SE g hg;by_cases he:xg g=0
 ·have h2:=ua he;have h4:=OB g f hf h2.2 (by omega);have e:yg g f=vp g f:=by simp only[yg];rw[if_neg (by simp[he])]
  rw[he] at h1;rw[e];refine M.F Tryz.func89 ?_;(repeat' first|refine M.gw ?_|refine M.c2 (h1) ?_|refine M.c2 (h4) ?_|fail)
  rfl
 ·have e:yg g f=xg g:=by simp only[yg];rw[if_pos he]
  rw[e];refine M.F Tryz.func89 ?_;(repeat' first|refine M.gw ?_|refine M.c2 (h1) ?_|refine M.cs ?_ ?_<;>intro h|fail)
  ·rfl
  ·exfalso;simp at h;exact he h
theorem Zz9{at_ b:Int}{s t:Tm}(h:t.kind≠1):t.re (xu at_ s) b= .mk t.kind t.index t.ty (t.args.map fun x=>x.re (xu at_ s) (up t.kind b)):=x8 h
theorem YT(at_:Int)(s:Tm)(hat:0<=at_/\at_<137438953472)(hs:s.shape=true)(hsf:s.full<137438953472)(hsi:∀p∈s.vars 0,0<=p.1/\p.1<274877906944):∀(n:Nat) (t:Tm) (dp:Int),t.full<=n->n<137438953472->0<=dp->dp+n<274877906944->t.shape=true->(∀p∈t.vars 0,0<=p.1/\p.1<274877906944)->
 PC E 185 [.agg t.view,.i at_,.i dp,.agg s.view] (.agg (t.re (xu at_ s) dp).view):=by
 intro n;induction n with
 |zero=>intro t dp h;have:=t.Aa;omega
 |succ n ih=>
 intro t dp hsz hn h1 h2 ht hix;have hsz':=Tm.Ag t;have hlen:=zg Tm.full Tm.Aa t.args;have hup:=LN t.kind dp;have hpl:=NI t.kind dp;have hb:=LZ t;by_cases hv:t.kind=1
 ·have hti:=hix (t.index,0) (by rw[vu ht hv];simp);rw[KQ ht hv];generalize t.index=i at hti;simp only at hti;rw[FT,uv];have hvi:(vT i).index=i:=rfl;have hu:=M0 (at_+dp) (by omega) _ s 0 (Nat.le_refl _) (by omega) (by omega) (by omega) hs fun p hp=>by have:=hsi p hp;omega
  have hvc:=Er (i-1);clear ih hix;by_cases h3:i-dp=at_
  ·rw[if_pos h3];have h3':i=at_+dp:=by omega
   subst h3';refine M.F Tryz.func185 ?_;(repeat' first|refine M.go ?_|refine M.c2 (hu) ?_|refine M.z1 4 ?_|refine M.cs ?_ ?_<;>intro h|refine M.gk ?_|fail);all_goals first
    |rfl
    |(exfalso;simp at h;done)
    |(exfalso;simp at h;omega)
  ·rw[if_neg h3];by_cases h4:i-dp>at_
   ·rw[if_pos h4];refine M.F Tryz.func185 ?_;(repeat' first|refine M.go ?_|refine M.z3 3 5 6 ?_|refine M.cs ?_ ?_<;>intro h|refine M.gk ?_|fail);all_goals first
     |(exfalso;simp at h;omega)
     |skip
    (repeat' first|refine M.gw ?_|refine M.c2 (hvc) ?_|fail)
    rfl
   ·rw[if_neg h4];refine M.F Tryz.func185 ?_;(repeat' first|refine M.go ?_|refine M.z3 3 5 6 ?_|refine M.cs ?_ ?_<;>intro h|refine M.gk ?_|fail);all_goals first
     |(exfalso;simp at h;omega)
     |skip
    (repeat' first|refine M.gw ?_|fail)
    rfl
 have he:=Zz9 (at_:=at_) (b:=dp) (s:=s) hv;refine M.F Tryz.func185 ?_;(repeat' first|refine M.go ?_|refine M.z1 2 ?_|refine M.cs ?_ ?_<;>intro h|refine M.gk ?_|fail);all_goals first
  |(exfalso;simp at h;exact hv h)
  |skip
 skip;refine AW.range t.args.length (fun m=>True) (fun m=>([(1,.i at_),(2,.i dp),(4,.ptr 0 0),(7,.ptr 1 0),(8,.ptr 2 0),(9,.ptr 3 0),(45,.s .tm t.args),(46,.i t.args.length),(47,.i m)],⟨5,[(0,.var t.view),(1,.var s.view),(2,.var [.i 0,.i 0,.i 0,.slice .nil (.t .ty []),.slice .nil (.t .tm [])]),(3,.var [.i t.kind,.i t.index,.i t.ty.kind,.s .ty t.ty.args,.slice (.own 4) (.t .tm ((t.args.take m).map fun x=>x.re (xu at_ s) (up t.kind dp)))]),(4,.row)]⟩))
  (by omega) (fun m=>rfl) (fun m=>rfl) rfl trivial (M.W [some 0,some 1,some 2,some 3,none]) ?_ ?_
 ·intro m hm _;have hs2:=ze Tm.full (List.getElem_mem hm);have hc:=ih t.args[m] (up t.kind dp) (by omega) (by omega) (by omega) (by omega) (zh ht _ (List.getElem_mem hm)) (fun p hp=>by
   obtain⟨q,hq,hqe⟩:=OV (b':=up t.kind 0) p hp;have:=hix q (Kp hv (List.getElem_mem hm) hq);rw[<-hqe];exact this)
  rw[<-hpl] at hc;simp only[<-hpl];(repeat' first|refine M.gw ?_|refine M.c2 (hb) ?_|refine M.c2 (hc) ?_|fail);exact⟨rfl,trivial,(M.W [some 0,some 1,some 2,some 3,some 6] (he:=(by(repeat'(first|exact trivial|exact Or.inr ⟨_,U,rfl⟩|refine And.intro ?_ ?_|refine⟨_,U,_,U,_,U,?_⟩|exact Aj.refl _|exact Aj.of_eq (by simp[Ao.Ar,ya _ _ _ hm])));done)))⟩
 ·intro _;simp only[List.take_length];(repeat' first|refine M.gw ?_|fail);rw[he];simp[zi,V.wk,V.An,zd,Ty.view,Tm.view]
theorem O0{t:Tm}(h:t.near=true):∀q∈t.vars 0,q.1<=536870912:=fun q hq=>by simpa using List.all_eq_true.1 h q hq
theorem Zzu:∀(n:Nat) (f:Fm) (at_:Int),f.full<=n->n<274877906944->-274877906944<=at_->at_+n<549755813888->f.shape=true->PC E 117 [.agg f.view,.i at_] (.i (xy at_ f)):=by
 intro n;induction n with
 |zero=>intro f at_ h;have:=f.Aa;omega
 |succ n ih=>
 intro f at_ hsz hn h1 h2 hs;have hsz':=f.Ag;have hlen:=zg Fm.full Fm.Aa f.args;have hlen2:=zg Tm.full Tm.Aa f.terms;have he:=Uw (at_:=at_) hs;have hup:=Jj f.kind at_;have hpl:=OQ f.kind at_;have hb:=P8 f;have hle1:∀m,((f.terms.take m).map (yw at_)).sum<=(f.terms.map Tm.full).sum:=fun m=>by
  have a1:=zw Tm.full f.terms m;have a2:=xi (f:=yw at_) (g:=Tm.full) (f.terms.take m) fun x _=>Nat.le_trans (LY x _) x.Ak;omega
 have hle2:∀m,((f.args.take m).map (xy (AE f.kind at_))).sum<=(f.args.map Fm.full).sum:=fun m=>by
  have a1:=zw Fm.full f.args m;have a2:=xi (f:=xy (AE f.kind at_)) (g:=Fm.full) (f.args.take m) fun x _=>Nat.le_trans (R7 _ x) x.Ak;omega
 refine M.F Tryz.func117 ?_;(repeat' first|refine M.gw ?_|fail);refine AW.range f.terms.length (fun m=>True)
  (fun m=>([(1,.i at_),(2,.ptr 0 0),(5,.i (((f.terms.take m).map (yw at_)).sum:Nat)),(11,.s .tm f.terms),(12,.i f.terms.length),(13,.i m)],⟨1,[(0,.var f.view)]⟩))
  (by omega) (fun m=>rfl) (fun m=>rfl) rfl trivial (M.W [some 0]) ?_ ?_
 ·intro m hm _;have hs1:=yv (yw at_) f.terms m hm;have hs2:=ze Tm.full (List.getElem_mem hm);have hs3:=hle1 m;have hs4:=LY f.terms[m] at_;have hs5:=f.terms[m].Ak;have hc:=YE _ f.terms[m] at_ (Nat.le_refl _) (by omega) (by omega) (by omega) (zy hs (List.getElem_mem hm));(repeat' first|refine M.gw ?_|refine M.c2 (hc) ?_|fail);refine⟨rfl,trivial,?_⟩;simp only[hs1];exact(M.W [some 0])
 ·intro _;have hs6:=hle1 f.terms.length;simp only[List.take_length] at hs6 ⊢;(repeat' first|refine M.gw ?_|fail);refine AW.range f.args.length (fun m=>True)
   (fun m=>([(1,.i at_),(2,.ptr 0 0),(5,.i ((f.terms.map (yw at_)).sum+((f.args.take m).map (xy (AE f.kind at_))).sum:Nat)),(24,.s .fm f.args),(25,.i f.args.length),(26,.i m)],⟨1,[(0,.var f.view)]⟩))
   (by omega) (fun m=>rfl) (fun m=>rfl) rfl trivial (M.W [some 0]) ?_ ?_
  ·intro m hm _;have hs1:=yv (xy (AE f.kind at_)) f.args m hm;have hs2:=ze Fm.full (List.getElem_mem hm);have hs3:=hle2 m;have hs4:=R7 (AE f.kind at_) f.args[m];have hs5:=f.args[m].Ak;have hc:=ih f.args[m] (AE f.kind at_) (by omega) (by omega) (by omega) (by omega) (zn hs (List.getElem_mem hm));rw[<-hpl] at hc hs1 hs3 hs4;simp only[<-hpl];(repeat' first|refine M.gw ?_|refine M.c2 (hb) ?_|refine M.c2 (hc) ?_|fail);refine⟨rfl,trivial,?_⟩;simp only[hs1];exact(M.W [some 0] (hf:=(by(repeat'(first|exact trivial|refine And.intro ?_ ?_|refine⟨_,U,_,U,?_⟩|exact Aj.refl _|exact Aj.of_eq (by simp[Ao.Ar,Int.natCast_add,Int.add_assoc])));done)))
  ·intro _;simp only[List.take_length];(repeat' first|refine M.gw ?_|fail);rw[he]
   rfl
theorem QX(most:Int)(h0:0<=most):∀(n:Nat) (f:Fm),f.full<=n->n<549755813888->f.shape=true->PC E 116 [.agg f.view,.i most] (.bool (Fy most f)):=by
 intro n;induction n with
 |zero=>intro f h;have:=f.Aa;omega
 |succ n ih=>
 intro f hsz hn hs;have hsz':=f.Ag;have hlen:=zg Fm.full Fm.Aa f.args;have hlen2:=zg Tm.full Tm.Aa f.terms;have he:=Zx4 most f;refine M.F Tryz.func116 ?_;(repeat' first|refine M.gw ?_|fail);refine AW.range f.terms.length (fun m=>∀j (hj:j<f.terms.length),j<m->we most f.terms[j]=true)
  (fun m=>([(1,.i most),(2,.ptr 0 0),(10,.s .tm f.terms),(11,.i f.terms.length),(12,.i m)],⟨1,[(0,.var f.view)]⟩))
  (by omega) (fun m=>rfl) (fun m=>rfl) rfl (fun j hj h=>by omega) (M.W [some 0]) ?_ ?_
 ·intro m hm hP;have hs2:=ze Tm.full (List.getElem_mem hm);have hc:=OJ most h0 _ f.terms[m] (Nat.le_refl _) (by omega) (zy hs (List.getElem_mem hm));(repeat' first|refine M.gw ?_|refine M.c2 (hc) ?_|refine M.cs ?_ ?_<;>intro h|fail)
  ·have hx:we most f.terms[m]=false:=by simpa using h
   rw[he,vx (we most) hm hx];rfl
  ·have hx:we most f.terms[m]=true:=by simpa using h
   exact⟨rfl,yb (p:=fun t=>we most t=true) hm hP hx,(M.W [some 0])⟩
 ·intro hP;rw[FL (we most) f.terms fun j hj=>hP j hj hj,Bool.true_and] at he;(repeat' first|refine M.gw ?_|fail);refine AW.range f.args.length (fun m=>∀j (hj:j<f.args.length),j<m->Fy most f.args[j]=true)
   (fun m=>([(1,.i most),(2,.ptr 0 0),(22,.s .fm f.args),(23,.i f.args.length),(24,.i m)],⟨1,[(0,.var f.view)]⟩))
   (by omega) (fun m=>rfl) (fun m=>rfl) rfl (fun j hj h=>by omega) (M.W [some 0]) ?_ ?_
  ·intro m hm hP;have hs2:=ze Fm.full (List.getElem_mem hm);have hc:=ih f.args[m] (by omega) (by omega) (zn hs (List.getElem_mem hm));(repeat' first|refine M.gw ?_|refine M.c2 (hc) ?_|refine M.cs ?_ ?_<;>intro h|fail)
   ·have hx:Fy most f.args[m]=false:=by simpa using h
    rw[he,vx (Fy most) hm hx];rfl
   ·have hx:Fy most f.args[m]=true:=by simpa using h
    exact⟨rfl,yb (p:=fun t=>Fy most t=true) hm hP hx,(M.W [some 0])⟩
  ·intro hP;rw[he,FL (Fy most) f.args fun j hj=>hP j hj hj];(repeat' first|refine M.gw ?_|fail)
   rfl
theorem Yl3(t:Tm)(hs:t.shape=true):PC E 254 [.agg t.view] (.bool (un t)):=by
 by_cases k3:t.kind=3
 ·obtain ⟨i,th,f,a,rfl,hf,ha⟩:=Ke hs k3 rfl;refine M.F Tryz.func254 ?_;(repeat' first|refine M.gw ?_|refine M.bl ?_|fail)
  rfl
 ·by_cases k6:t.kind=6
  ·obtain ⟨i,th,x,y,z,rfl,_,_,_⟩:=KO hs k6 rfl;by_cases h4:z.kind=4
   ·have e:un (.mk 6 i th [x,y,z])=true:=by simp[un,Tm.arg,h4]
    rw[e];refine M.F Tryz.func254 ?_;(repeat' first|refine M.gw ?_|refine M.gs ?_ ?_<;>intro h|refine M.bl ?_|fail);all_goals first
     |rfl
     |(exfalso;simp_all;done)
   ·have e:un (.mk 6 i th [x,y,z])=(z.kind==5):=by simp[un,Tm.arg,h4]
    rw[e];refine M.F Tryz.func254 ?_;(repeat' first|refine M.gw ?_|refine M.gs ?_ ?_<;>intro h|refine M.bl ?_|fail);all_goals first
     |rfl
     |(exfalso;simp_all;done)
  ·by_cases k9:t.kind=9
   ·obtain ⟨i,th,x,y,z,rfl,_,_,_⟩:=KO hs k9 rfl;by_cases h4:z.kind=7
    ·have e:un (.mk 9 i th [x,y,z])=true:=by simp[un,Tm.arg,h4]
     rw[e];refine M.F Tryz.func254 ?_;(repeat' first|refine M.gw ?_|refine M.gs ?_ ?_<;>intro h|refine M.bl ?_|fail);all_goals first
      |rfl
      |(exfalso;simp_all;done)
    ·have e:un (.mk 9 i th [x,y,z])=(z.kind==8):=by simp[un,Tm.arg,h4]
     rw[e];refine M.F Tryz.func254 ?_;(repeat' first|refine M.gw ?_|refine M.gs ?_ ?_<;>intro h|refine M.bl ?_|fail);all_goals first
      |rfl
      |(exfalso;simp_all;done)
   ·by_cases k11:t.kind=11
    ·obtain ⟨i,th,x,rfl,_⟩:=H9 hs k11 rfl;refine M.F Tryz.func254 ?_;(repeat' first|refine M.gw ?_|refine M.bl ?_|fail)
     rfl
    ·by_cases k12:t.kind=12
     ·obtain ⟨i,th,x,rfl,_⟩:=H9 hs k12 rfl;refine M.F Tryz.func254 ?_;(repeat' first|refine M.gw ?_|refine M.bl ?_|fail)
      rfl
     ·have e:un t=false:=by simp[un,k3,k6,k9,k11,k12]
      rw[e];have b3:¬(t.kind==3)=true:=by simpa using k3
      have b6:¬(t.kind==6)=true:=by simpa using k6
      have b9:¬(t.kind==9)=true:=by simpa using k9
      have b11:¬(t.kind==11)=true:=by simpa using k11
      have b12:¬(t.kind==12)=true:=by simpa using k12
      refine M.F Tryz.func254 ?_;(repeat' first|refine M.gw ?_|refine M.gs ?_ ?_<;>intro h|refine M.bl ?_|refine M.cs ?_ ?_<;>intro h|fail);all_goals first
       |rfl
       |contradiction
theorem Yhi{t x:Tm}(hv:RV t x)(hs:t.shape=true)(hz:t.size<=4096):PC E 255 [.agg t.view] (.i (FY t)):=by
 have hfull:=yy t hs;have h0:=y6 _ t (Nat.le_refl _) (by omega);cases hv with
 |beta i th j s b a=>
  have hb:b.shape=true:=zh (zh hs (.mk 2 j s [b]) (by simp)) b (by simp);have ha:a.shape=true:=zh hs a (by simp);have hsz:(Tm.mk 3 i th [Tm.mk 2 j s [b],a]).size=2+b.size+a.size:=by simp[Tm.size,Tm.sizes];omega
  have fb:=yy b hb;have fa:=yy a ha;have h1:=y6 _ b (Nat.le_refl _) (by omega);have h2:=YE _ b 0 (Nat.le_refl _) (by omega) (by omega) (by omega) hb;have h3:=y6 _ a (Nat.le_refl _) (by omega);have htl:=LY b 0;have hap:=a.size_pos;have hm:=RA (yw 0 b) (a.size-1) (by omega) (by omega);have hm': -9223372036854775808<=(yw 0 b:Int)*(a.size-1)/\(yw 0 b:Int)*(a.size-1)<=9223372036854775807:=by omega
  have e:FY (Tm.mk 3 i th [Tm.mk 2 j s [b],a])=b.size+yw 0 b*(a.size-1)-(Tm.mk 3 i th [Tm.mk 2 j s [b],a]).size:=by
   have hc:=Pe b 0 0 hb;rw[Int.add_zero] at hc;show((b.re (xu 0 a) 0).size:Int)-_=_;rw[OM 0 a b ha 0 hb,hc];congr 1;rw[Int.natCast_add,Int.natCast_mul];congr 2;omega
  rw[e];clear e;refine M.F Tryz.func255 ?_;(repeat' first|refine M.gw ?_|refine M.c2 (h0) ?_|refine M.c2 (h1) ?_|refine M.c2 (h2) ?_|refine M.c2 (h3) ?_|refine M.bl ?_|fail)
  rfl
 |rz i th _ f j s=>
  have h1:=y6 _ x (Nat.le_refl _) (by have:=yy x (zh hs x (by simp));have:=ze Tm.size (l:=[x,f,Tm.mk 4 j s []]) (t:=x) (by simp);have:=Tm.size_eq (Tm.mk 6 i th [x,f,Tm.mk 4 j s []]);simp only[Tm.Ac] at this;omega);have e:(x.size:Int)<=4096:=by have:=ze Tm.size (l:=[x,f,Tm.mk 4 j s []]) (t:=x) (by simp);have:=Tm.size_eq (Tm.mk 6 i th [x,f,Tm.mk 4 j s []]);simp only[Tm.Ac] at this;omega
  have e2:FY (Tm.mk 6 i th [x,f,Tm.mk 4 j s []])=x.size-(Tm.mk 6 i th [x,f,Tm.mk 4 j s []]).size:=rfl;rw[e2];refine M.F Tryz.func255 ?_;(repeat' first|refine M.gw ?_|refine M.c2 (h0) ?_|refine M.c2 (h1) ?_|refine M.bl ?_|fail)
  rfl
 |fz i th _ f j s=>
  have h1:=y6 _ x (Nat.le_refl _) (by have:=yy x (zh hs x (by simp));have:=ze Tm.size (l:=[x,f,Tm.mk 7 j s []]) (t:=x) (by simp);have:=Tm.size_eq (Tm.mk 9 i th [x,f,Tm.mk 7 j s []]);simp only[Tm.Ac] at this;omega);have e:(x.size:Int)<=4096:=by have:=ze Tm.size (l:=[x,f,Tm.mk 7 j s []]) (t:=x) (by simp);have:=Tm.size_eq (Tm.mk 9 i th [x,f,Tm.mk 7 j s []]);simp only[Tm.Ac] at this;omega
  have e2:FY (Tm.mk 9 i th [x,f,Tm.mk 7 j s []])=x.size-(Tm.mk 9 i th [x,f,Tm.mk 7 j s []]).size:=rfl;rw[e2];refine M.F Tryz.func255 ?_;(repeat' first|refine M.gw ?_|refine M.c2 (h0) ?_|refine M.c2 (h1) ?_|refine M.bl ?_|fail)
  rfl
 |rs i th x f j s n=>
  have hn:n.shape=true:=zh (zh hs (.mk 5 j s [n]) (by simp)) n (by simp);have hsz:(Tm.mk 6 i th [x,f,Tm.mk 5 j s [n]]).size=2+x.size+f.size+n.size:=by simp[Tm.size,Tm.sizes];omega
  have h1:=y6 _ f (Nat.le_refl _) (by have:=yy f (zh hs f (by simp));omega);have h2:=y6 _ n (Nat.le_refl _) (by have:=yy n hn;omega);have e2:FY (Tm.mk 6 i th [x,f,Tm.mk 5 j s [n]])=2+f.size+n.size+(Tm.mk 6 i th [x,f,Tm.mk 5 j s [n]]).size-1-(Tm.mk 6 i th [x,f,Tm.mk 5 j s [n]]).size:=by
   show((A0 (A0 f n) (.mk 6 0 th [x,f,n])).size:Int)-_=_;simp[A0,Tm.size,Tm.sizes];omega
  rw[e2];clear e2;refine M.F Tryz.func255 ?_;(repeat' first|refine M.gw ?_|refine M.c2 (h0) ?_|refine M.c2 (h1) ?_|refine M.c2 (h2) ?_|refine M.bl ?_|fail)
  rfl
 |fs i th x f j s n l=>
  have hn:n.shape=true:=zh (zh hs (.mk 8 j s [n,l]) (by simp)) n (by simp);have hl:l.shape=true:=zh (zh hs (.mk 8 j s [n,l]) (by simp)) l (by simp);have hsz:(Tm.mk 9 i th [x,f,Tm.mk 8 j s [n,l]]).size=2+x.size+f.size+n.size+l.size:=by simp[Tm.size,Tm.sizes];omega
  have h1:=y6 _ f (Nat.le_refl _) (by have:=yy f (zh hs f (by simp));omega);have h2:=y6 _ n (Nat.le_refl _) (by have:=yy n hn;omega);have h3:=y6 _ l (Nat.le_refl _) (by have:=yy l hl;omega);have e2:FY (Tm.mk 9 i th [x,f,Tm.mk 8 j s [n,l]])=3+f.size+n.size+l.size+(Tm.mk 9 i th [x,f,Tm.mk 8 j s [n,l]]).size-1-n.size-(Tm.mk 9 i th [x,f,Tm.mk 8 j s [n,l]]).size:=by
   show((A0 (A0 (A0 f n) l) (.mk 9 0 th [x,f,l])).size:Int)-_=_;simp[A0,Tm.size,Tm.sizes];omega
  rw[e2];clear e2;refine M.F Tryz.func255 ?_;(repeat' first|refine M.gw ?_|refine M.c2 (h0) ?_|refine M.c2 (h1) ?_|refine M.c2 (h2) ?_|refine M.c2 (h3) ?_|refine M.bl ?_|fail)
  rfl
 |p1 i th j s _ y=>
  have hsz:(Tm.mk 11 i th [Tm.mk 10 j s [x,y]]).size=2+x.size+y.size:=by simp[Tm.size,Tm.sizes];omega
  have hx:x.shape=true:=zh (zh hs (.mk 10 j s [x,y]) (by simp)) x (by simp);have h1:=y6 _ x (Nat.le_refl _) (by have:=yy x hx;omega);have e2:FY (Tm.mk 11 i th [Tm.mk 10 j s [x,y]])=x.size-(Tm.mk 11 i th [Tm.mk 10 j s [x,y]]).size:=rfl;rw[e2];clear e2;refine M.F Tryz.func255 ?_;(repeat' first|refine M.gw ?_|refine M.c2 (h0) ?_|refine M.c2 (h1) ?_|refine M.bl ?_|fail)
  rfl
 |p2 i th j s y _=>
  have hsz:(Tm.mk 12 i th [Tm.mk 10 j s [y,x]]).size=2+x.size+y.size:=by simp[Tm.size,Tm.sizes];omega
  have hx:x.shape=true:=zh (zh hs (.mk 10 j s [y,x]) (by simp)) x (by simp);have h1:=y6 _ x (Nat.le_refl _) (by have:=yy x hx;omega);have e2:FY (Tm.mk 12 i th [Tm.mk 10 j s [y,x]])=x.size-(Tm.mk 12 i th [Tm.mk 10 j s [y,x]]).size:=rfl;rw[e2];clear e2;refine M.F Tryz.func255 ?_;(repeat' first|refine M.gw ?_|refine M.c2 (h0) ?_|refine M.c2 (h1) ?_|refine M.bl ?_|fail)
  rfl
theorem Of{t x:Tm}{B:Int}(hx:x∈t.args)(h:∀p∈t.vars 0,0<=p.1/\p.1<B):∀p∈x.vars 0,0<=p.1/\p.1<B:=by
 intro p hp;have e:=KN x 0 (up t.kind 0);have hm:(p.1,p.2+up t.kind 0)∈t.vars 0:=by
  rw[Tm.AM];refine List.mem_append_right _ (List.mem_flatMap.2 ⟨x,hx,?_⟩);rw[Int.zero_add] at e;rw[e];exact List.mem_map.2 ⟨p,hp,rfl⟩
 have h3:=h (p.1,p.2+up t.kind 0) hm;exact h3
theorem Ylv{t x:Tm}(hv:RV t x)(hs:t.shape=true)(hz:t.size<=4096)(hix:∀p∈t.vars 0,0<=p.1/\p.1<1073741824):PC E 256 [.agg t.view] (.agg x.view):=by
 have hfull:=yy t hs;cases hv with
 |beta i th j s b a=>
  have hb:b.shape=true:=zh (zh hs (.mk 2 j s [b]) (by simp)) b (by simp);have ha:a.shape=true:=zh hs a (by simp);have hsz:(Tm.mk 3 i th [Tm.mk 2 j s [b],a]).size=2+b.size+a.size:=by simp[Tm.size,Tm.sizes];omega
  have fb:=yy b hb;have fa:=yy a ha;have hia:=Of (t:=Tm.mk 3 i th [Tm.mk 2 j s [b],a]) (x:=a) (by simp) hix;have hib:=Of (t:=Tm.mk 2 j s [b]) (x:=b) (by simp) (Of (t:=Tm.mk 3 i th [Tm.mk 2 j s [b],a]) (x:=Tm.mk 2 j s [b]) (by simp) hix);have h1:=YT 0 a (by omega) ha (by omega) (fun p hp=>by have:=hia p hp;omega) _ b 0 (Nat.le_refl _) (by omega) (by omega) (by omega) hb (fun p hp=>by have:=hib p hp;omega);refine M.F Tryz.func256 ?_;(repeat' first|refine M.gw ?_|refine M.c2 (h1) ?_|refine M.bl ?_|fail)
  rfl
 |rz i th _ f j s=>
  refine M.F Tryz.func256 ?_;(repeat' first|refine M.gw ?_|refine M.bl ?_|fail)
  rfl
 |fz i th _ f j s=>
  refine M.F Tryz.func256 ?_;(repeat' first|refine M.gw ?_|refine M.bl ?_|fail)
  rfl
 |rs i th x f j s n=>
  have hff:(Tm.mk 6 i th [x,f,Tm.mk 5 j s [n]]).full=2+th.size+s.size+x.full+f.full+n.full:=by simp[Tm.full,Tm.As];omega
  have h1:=CW 3 [f,n] (by simp;omega);have h2:=Gn 6 th [x,f,n] (by simp;omega) (by omega);have h3:=CW 3 [A0 f n,.mk 6 0 th [x,f,n]] (by simp[A0,Tm.full,Tm.As,Ty.size,Ty.sizes];omega);refine M.F Tryz.func256 ?_;(repeat' first|refine M.gw ?_|refine M.c2 (h1) ?_|refine M.c2 (h2) ?_|refine M.c2 (h3) ?_|refine M.bl ?_|fail)
  rfl
 |fs i th x f j s n l=>
  have hff:(Tm.mk 9 i th [x,f,Tm.mk 8 j s [n,l]]).full=2+th.size+s.size+x.full+f.full+n.full+l.full:=by simp[Tm.full,Tm.As];omega
  have h1:=CW 3 [f,n] (by simp;omega);have h2:=CW 3 [A0 f n,l] (by simp[A0,Tm.full,Tm.As,Ty.size,Ty.sizes];omega);have h3:=Gn 9 th [x,f,l] (by simp;omega) (by omega);have h4:=CW 3 [A0 (A0 f n) l,.mk 9 0 th [x,f,l]] (by simp[A0,Tm.full,Tm.As,Ty.size,Ty.sizes];omega);refine M.F Tryz.func256 ?_;(repeat' first|refine M.gw ?_|refine M.c2 (h1) ?_|refine M.c2 (h2) ?_|refine M.c2 (h3) ?_|refine M.c2 (h4) ?_|refine M.bl ?_|fail)
  rfl
 |p1 i th j s _ y=>
  refine M.F Tryz.func256 ?_;(repeat' first|refine M.gw ?_|refine M.bl ?_|fail)
  rfl
 |p2 i th j s y _=>
  refine M.F Tryz.func256 ?_;(repeat' first|refine M.gw ?_|refine M.bl ?_|fail)
  rfl
end Go.Ab
