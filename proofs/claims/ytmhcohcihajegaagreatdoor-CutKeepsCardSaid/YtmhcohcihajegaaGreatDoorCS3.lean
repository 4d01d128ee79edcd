/- A part of this seat's proofs. No conditions. -/
import Derived.Test.YtmhcohcihajegaaGreatDoorCS2
import Derived.Test.YtmhcohcihajegaaGreatDoorCS4
namespace Go.Ab
open Go Go.Proofs
set_option maxRecDepth 100000
set_option maxHeartbeats 4000000
set_option linter.all false
theorem N5(t:Tm):PC E 136 [.agg t.view] (.i (up t.kind 0)):=by
 refine M.F Tryz.func136 ?_;(repeat' first|refine M.w0 ?_|refine M.cs ?_ ?_<;>intro h|fail)
 .have e:up t.kind 0=1:=by simp only[beq_iff_eq] at h;rw[h];rfl
  rw[e];rfl
 .have e:up t.kind 0=0:=by simp only[beq_eq_false_iff_ne,ne_eq] at h;exact if_neg h
  rw[e];rfl
theorem OQ(k b:Int):b<=up k b/\up k b<=b+1:=kU
theorem OX(k b:Int):b+up k 0=up k b:=kU
theorem UD(most:Int)(h0:0<=most):∀(n:Nat) (t:Tm),t.full<=n->n<549755813888->t.shape=true->PC E 211 [.agg t.view,.i most] (.bool (vr most t)):=by
 intro n;induction n with
 |zero=>intro t h;have:=t.Ad;omega
 |succ n ih=>
 intro t hsz hn hs;have hsz':=Tm.Ag t;have hlen:=ze Tm.full Tm.Ad t.args;have he:=Yb3 h0 hs;refine M.F Tryz.func211 ?_;(repeat' first|refine M.w0 ?_|refine M.cs ?_ ?_<;>intro h|fail)
 .have h1:¬t.index<=most:=kS
  rw[he,decide_eq_false h1];rfl
 have h1:t.index<=most:=kS
 rw[decide_eq_true h1,gY] at he;refine M.rp t.args.length (fun m=>∀j (hj:j<t.args.length),j<m->vr most t.args[j]=true)
  (fun m=>([(1,.i most),(2,.ptr 0 0),(12,.s .tm t.args),(13,.i t.args.length),(14,.i m)],⟨1,[(0,.var t.view)]⟩))
  (fun j hj h=>kn) (M.W AJ) ?_ ?_
 .intro m hm hP;have hs2:=zc Tm.full (fA hm);have hc:=ih t.args[m] kn kn (zd hs _ (fA hm));(repeat' first|refine M.w1 @hc ?_|refine M.cs ?_ ?_<;>intro h|fail)
  .have hx:vr most t.args[m]=false:=ku
   rw[he,u2 (vr most) hm hx];rfl
  .have hx:vr most t.args[m]=true:=ku
   exact⟨rfl,ym (p:=fun t=>vr most t=true) hm hP hx,(M.W AJ)⟩
 .intro hP;rw[he,Gy (vr most) t.args fun j hj=>hP j hj hj];refine M.w0 ?_
  rfl
theorem Ypp:∀(n:Nat) (t:Tm) (at_:Int),t.full<=n->n<274877906944->-274877906944<=at_->at_+n<549755813888->t.shape=true->PC E 220 [.agg t.view,.i at_] (.bool (decide (xn at_ t≠0))):=by
 intro n;induction n with
 |zero=>intro t at_ h;have:=t.Ad;omega
 |succ n ih=>
 intro t at_ hsz hn h1 h2 hs;have hsz':=Tm.Ag t;have hlen:=ze Tm.full Tm.Ad t.args;have he:=SH at_ t;have hup:=OQ t.kind at_;have hpl:=OX t.kind at_;have hb:=N5 t;by_cases hv:t.kind=1/\t.index=at_
 .rw[if_pos hv] at he;rw[he];refine M.F Tryz.func220 ?_;(repeat' first|refine M.o0 ?_|refine M.gs ?_ ?_<;>intro h|refine M.z1 4 ?_|refine M.cs ?_ ?_<;>intro h|refine M.gk ?_|fail);all_goals first
   |rfl
   |(exfalso;simp[hv.1,hv.2] at*;done)
   |(exfalso;simp_all;done)
 rw[if_neg hv] at he;refine M.F Tryz.func220 ?_;(repeat' first|refine M.w0 ?_|refine M.gs ?_ ?_<;>intro h|refine M.cs ?_ ?_<;>intro h|fail);all_goals first
  |(exfalso;simp_all;done)
  |skip
 all_goals
  refine M.rp t.args.length (fun m=>∀j (hj:j<t.args.length),j<m->xn (up t.kind at_) t.args[j]=0)
   (fun m=>([(1,.i at_),(2,.ptr 0 0),(17,.s .tm t.args),(18,.i t.args.length),(19,.i m)],⟨1,[(0,.var t.view)]⟩))
   (fun j hj h=>kn) (M.W AJ) ?_ ?_
  .intro m hm hP;have hs2:=zc Tm.full (fA hm);have hc:=ih t.args[m] (up t.kind at_) kn kn kn kn (zd hs _ (fA hm));rw[<-hpl] at hc;rw[<-hpl] at hP he;(repeat' first|refine M.w2 @hb @hc ?_|refine M.cs ?_ ?_<;>intro h|fail)
   .have hx:xn (at_+up t.kind 0) t.args[m]≠0:=ku
    rw[he,decide_eq_true (VV hm hx)];rfl
   .have hx:xn (at_+up t.kind 0) t.args[m]=0:=ku
    exact⟨rfl,by rw[<-hpl];exact ym (p:=fun t'=>xn (at_+up t.kind 0) t'=0) hm hP hx,(M.W AJ)⟩
  .intro hP;rw[he,Up fun j hj=>hP j hj hj];refine M.w0 ?_
   rfl
theorem cU:∀(n:Nat) (t:Tm) (at_:Int),t.full<=n->n<274877906944->-274877906944<=at_->at_+n<549755813888->t.shape=true->PC E 253 [.agg t.view,.i at_] (.i (xn at_ t)):=by
 intro n;induction n with
 |zero=>intro t at_ h;have:=t.Ad;omega
 |succ n ih=>
 intro t at_ hsz hn h1 h2 hs;have hsz':=Tm.Ag t;have hlen:=ze Tm.full Tm.Ad t.args;have he:=SH at_ t;have hup:=OQ t.kind at_;have hpl:=OX t.kind at_;have hb:=N5 t;by_cases hv:t.kind=1/\t.index=at_
 .rw[if_pos hv] at he;rw[he];have ha:=KI hs hv.1;obtain⟨k,i,th,xs⟩:=t;simp only[Tm.Af] at ha;subst ha;obtain⟨hv1,hv2⟩:=hv;simp only[Tm.Ai,Tm.AG] at hv1 hv2;subst hv1;subst hv2;refine M.F Tryz.func253 ?_;(repeat' first|refine M.w0 ?_|refine M.cs ?_ ?_<;>intro h|fail);all_goals first
   |(exfalso;simp at h;done)
   |skip
  all_goals
   refine M.rt 0 (fun m=>([(1,.i i),(2,.ptr 0 0),(5,.i 1),(20,.s .tm []),(21,.i 0),(22,.i m)],⟨1,[(0,.var (Tm.mk 1 i th []).view)]⟩))
    (M.W AJ) ?_ ?_
   .intro m hm;omega
   .exact rI
 rw[if_neg hv] at he;refine M.F Tryz.func253 ?_;(repeat' first|refine M.w0 ?_|refine M.gs ?_ ?_<;>intro h|refine M.cs ?_ ?_<;>intro h|fail);all_goals first
  |(exfalso;simp_all;done)
  |skip
 all_goals
  refine M.rt t.args.length
   (fun m=>([(1,.i at_),(2,.ptr 0 0),(5,.i (((t.args.take m).map (xn (up t.kind at_))).sum:Nat)),(20,.s .tm t.args),(21,.i t.args.length),(22,.i m)],⟨1,[(0,.var t.view)]⟩))
   (M.W AJ) ?_ ?_
  .intro m hm _;have hs1:=yz (xn (up t.kind at_)) t.args m hm;have hs2:=zc Tm.full (fA hm);have hs3:((t.args.take m).map (xn (up t.kind at_))).sum<=(t.args.map Tm.full).sum:=by
    have a1:=zw Tm.full t.args m;have a2:=x6 (f:=xn (up t.kind at_)) (g:=Tm.full) (t.args.take m) fun x _=>gD (O2 x _) x.An;omega
   have hs4:=O2 t.args[m] (up t.kind at_);have hs5:=t.args[m].An;have hc:=ih t.args[m] (up t.kind at_) kn kn kn kn (zd hs _ (fA hm));rw[<-hpl] at hc hs1 hs3 hs4;simp only[<-hpl];refine M.w2 @hb @hc ?_;refine⟨rfl,trivial,?_⟩;simp only[hs1];exact(M.W AJ)
  .intro _;refine M.w0 ?_;rw[he];simp[zn,V.wk,V.Ar,za]
theorem Ysr(by_:Int)(hby: -549755813888<=by_/\by_<=549755813888):∀(n:Nat) (t:Tm) (fr:Int),t.full<=n->n<274877906944->-274877906944<=fr->fr+n<549755813888->t.shape=true->(∀p∈t.vars 0,0<=p.1/\p.1<9223372036854775808/\p.1+by_<9223372036854775808)->
 PC E 91 [.agg t.view,.i fr,.i by_] (.agg (t.re (zi fr by_) 0).view):=by
 intro n;induction n with
 |zero=>intro t fr h;have:=t.Ad;omega
 |succ n ih=>
 intro t fr hsz hn h1 h2 hs hix;have hsz':=Tm.Ag t;have hlen:=ze Tm.full Tm.Ad t.args;have hup:=OQ t.kind fr;have hpl:=OX t.kind fr;have hb:=N5 t;by_cases hv:t.kind=1
 .have ht:=NG hs hv;have hi:=hix (t.index,0) (by rw[Jq hs hv];simp);rw[ht];generalize t.index=i at hi;simp only at hi;rw[wh,z5];have hvi:(vT i).index=i:=rfl;refine M.F Tryz.func91 ?_;(repeat' first|refine M.w0 ?_|refine M.cs ?_ ?_<;>intro h|fail);all_goals first
   |(exfalso;simp at h;done)
   |skip
  .have h3:i-0>=fr:=kS
   rw[if_pos h3];refine M.rt 0 (fun m=>([(1,.i fr),(2,.i by_),(3,.ptr 0 0),(6,.ptr 1 0),(7,.ptr 2 0),(32,.s .tm []),(33,.i 0),(34,.i m)],⟨3,[(0,.var (vT i).view),(1,.var [.i 0,.i 0,.i 0,.slice .nil (.t .ty []),.slice .nil (.t .tm [])]),(2,.var [.i 1,.i (i+by_),.i 0,.s .ty [],.slice .nil (.t .tm [])])]⟩))
    (M.W F8) ?_ ?_
   .intro m hm;omega
   .exact rI
  .have h3:¬i-0>=fr:=kS
   rw[if_neg h3];refine M.rt 0 (fun m=>([(1,.i fr),(2,.i by_),(3,.ptr 0 0),(6,.ptr 1 0),(7,.ptr 2 0),(32,.s .tm []),(33,.i 0),(34,.i m)],⟨3,[(0,.var (vT i).view),(1,.var [.i 0,.i 0,.i 0,.slice .nil (.t .ty []),.slice .nil (.t .tm [])]),(2,.var [.i 1,.i i,.i 0,.s .ty [],.slice .nil (.t .tm [])])]⟩))
    (M.W F8) ?_ ?_
   .intro m hm;omega
   .exact rI
 have he:=Yeu (fr:=fr) (by_:=by_) hv;refine M.F Tryz.func91 ?_;(repeat' first|refine M.w0 ?_|refine M.gs ?_ ?_<;>intro h|refine M.cs ?_ ?_<;>intro h|fail);all_goals first
  |(exfalso;simp_all;done)
  |skip
 all_goals
  refine M.rt t.args.length (fun m=>([(1,.i fr),(2,.i by_),(3,.ptr 0 0),(6,.ptr 1 0),(7,.ptr 2 0),(32,.s .tm t.args),(33,.i t.args.length),(34,.i m)],⟨4,[(0,.var t.view),(1,.var [.i 0,.i 0,.i 0,.slice .nil (.t .ty []),.slice .nil (.t .tm [])]),(2,.var [.i t.kind,.i t.index,.i t.ty.kind,.s .ty t.ty.args,.slice (.own 3) (.t .tm ((t.args.take m).map fun x=>x.re (zi (up t.kind fr) by_) 0))]),(3,.row)]⟩))
   (M.W JU) ?_ ?_
  .intro m hm _;have hs2:=zc Tm.full (fA hm);have hc:=ih t.args[m] (up t.kind fr) kn kn kn kn (zd hs _ (fA hm)) (fun p hp=>by
    obtain⟨q,hq,hqe⟩:=Rl (b':=up t.kind 0) p hp;have:=hix q (Pk hv (fA hm) hq);rw[<-hqe];exact this)
   rw[<-hpl] at hc;simp only[<-hpl];refine M.w2 @hb @hc ?_;exact⟨rfl,trivial,(M.W [some 0,some 1,some 2,some 5] (he:=(by(repeat'(first|exact trivial|exact Or.inr ⟨_,U,rfl⟩|refine And.intro ?_ ?_|refine⟨_,U,_,U,_,U,?_⟩|exact Ap.refl _|exact Ap.of_eq kO));done)))⟩
  .exact sF
theorem SU(by_:Int)(hby: -549755813888<=by_/\by_<=549755813888):∀(n:Nat) (t:Tm) (fr:Int),t.full<=n->n<274877906944->-274877906944<=fr->fr+n<549755813888->t.shape=true->(∀p∈t.vars 0,0<=p.1/\p.1<549755813888)->
 PC E 91 [.agg t.view,.i fr,.i by_] (.agg (t.re (zi fr by_) 0).view):=
 fun n t fr h1 h2 h3 h4 h5 h6=>Ysr by_ hby n t fr h1 h2 h3 h4 h5 fun p hp=>by have:=h6 p hp;omega
end Go.Ab
namespace Go.Ab
open Go Go.Proofs
set_option maxRecDepth 100000
set_option linter.all false
theorem Ni:∀(n:Nat) (k:Int) (d:Dk),k<=n->n<=20->-100<=k->d.ok->AC E 54 [.ptr 0 0,.i k] ⟨1,[(0,.var d.cells)]⟩ (.agg (d.type k.toNat).1.view) ⟨1,[(0,.var (d.type k.toNat).2.cells)]⟩:=by
 intro n;induction n with
 |zero=>
  intro k d hk hn hk' hd;have h1:=FX d 7 hd kn;have e:=Dk.Fv k d;refine AC.mk Tryz.func54 rfl rfl rfl rfl rfl (fP rfl) ?_;repeat'(first|((with_reducible refine D.nil ?_);refine AX.Bh ?_)|((with_reducible refine D.move ?_);refine L.mv U U U ?_)|((with_reducible refine D.assign ?_);refine L.DB U U U ?_)|((with_reducible refine D.bin ?_);first|refine L.sb U U U U kn ?_|refine L.bn U U U U U ?_)|((with_reducible refine D.call ?_);first|(apply L.N3 (h1) [0] 0 rfl;rfl;rfl;rfl;rfl;rfl;rfl;(focus((repeat'(first|exact trivial|refine And.intro ?_ ?_|refine⟨_,U,_,U,_,U,?_⟩|exact Ap.refl _));done));rfl;rfl;rfl;rfl)|refine L.c2 (DR) U U U U ?_|refine L.c2 (Gu) U U U U ?_|refine L.c2 (VS) U U U U ?_)|((with_reducible refine D.alloc ?_);refine L.al U U U ?_)|((with_reducible refine D.store ?_);refine L.st U U U U U U U U U ?_)|((with_reducible refine D.aw ?_);first|((with_reducible refine D.blk ?_);refine AW.block ?_)|refine K.sq (AW.A5 ?_)|refine K.sq (K.sq ?_)|refine AW.A5 ?_|refine AW.Cn U ?_|refine AW.D6 U (fun h=> ?_) (fun h=> ?_)|refine AW.skip ?_|refine AW.ret ?_)|with_reducible refine K.tN ?_|with_reducible refine K.bN ?_|with_reducible refine K.tR ?_|with_reducible refine K.bR ?_)
  all_goals first
   |(exfalso;simp at*;omega)
   |(simp only[beq_iff_eq,beq_eq_false_iff_ne,ne_eq,decide_eq_true_eq,decide_eq_false_iff_not,gt_iff_lt] at*
     simp[*] at e
     (exact K.n2 [some 0] U U U U U (by(repeat'(first|exact trivial|refine And.intro ?_ ?_|refine⟨_,U,_,U,_,U,?_⟩|exact Ap.of_eq nE));done) U mL))
 |succ n ih=>
  intro k d hk hn hk' hd;have h1:=FX d 7 hd kn;have e:=Dk.Fv k d;have i1:k>0->_:=fun h=>ih (k-1) (d.next 7).2 kn kn kn (Dk.AQ hd 7);have i2:k>0->_:=fun h=>ih (k-1) ((d.next 7).2.type (k-1).toNat).2 kn kn kn (Dk.BG _ _ (Dk.AQ hd 7));have i3:=cF ((d.next 7).2.type (k-1).toNat).1 ((((d.next 7).2.type (k-1).toNat).2).type (k-1).toNat).1 (Dk.C1 _ _ kn) (Dk.C1 _ _ kn);have i4:=L5 ((d.next 7).2.type (k-1).toNat).1 ((((d.next 7).2.type (k-1).toNat).2).type (k-1).toNat).1 (Dk.C1 _ _ kn) (Dk.C1 _ _ kn);refine AC.mk Tryz.func54 rfl rfl rfl rfl rfl (fP rfl) ?_;repeat'(first|((with_reducible refine D.nil ?_);refine AX.Bh ?_)|((with_reducible refine D.move ?_);refine L.mv U U U ?_)|((with_reducible refine D.assign ?_);refine L.DB U U U ?_)|((with_reducible refine D.bin ?_);first|refine L.sb U U U U kn ?_|refine L.bn U U U U U ?_)|((with_reducible refine D.call ?_);first|(apply L.N3 (h1) [0] 0 rfl;rfl;rfl;rfl;rfl;rfl;rfl;(focus((repeat'(first|exact trivial|refine And.intro ?_ ?_|refine⟨_,U,_,U,_,U,?_⟩|exact Ap.refl _));done));rfl;rfl;rfl;rfl)|refine L.c2 (DR) U U U U ?_|refine L.c2 (Gu) U U U U ?_|refine L.c2 (VS) U U U U ?_|(apply L.N3 (i1 kP) [0] 0 rfl;rfl;rfl;rfl;rfl;rfl;rfl;(focus((repeat'(first|exact trivial|refine And.intro ?_ ?_|refine⟨_,U,_,U,_,U,?_⟩|exact Ap.refl _));done));rfl;rfl;rfl;rfl)|(apply L.N3 (i2 kP) [0] 0 rfl;rfl;rfl;rfl;rfl;rfl;rfl;(focus((repeat'(first|exact trivial|refine And.intro ?_ ?_|refine⟨_,U,_,U,_,U,?_⟩|exact Ap.refl _));done));rfl;rfl;rfl;rfl)|refine L.c2 (i3) U U U U ?_|refine L.c2 (i4) U U U U ?_)|((with_reducible refine D.alloc ?_);refine L.al U U U ?_)|((with_reducible refine D.store ?_);refine L.st U U U U U U U U U ?_)|((with_reducible refine D.aw ?_);first|((with_reducible refine D.blk ?_);refine AW.block ?_)|refine K.sq (AW.A5 ?_)|refine K.sq (K.sq ?_)|refine AW.A5 ?_|refine AW.Cn U ?_|refine AW.D6 U (fun h=> ?_) (fun h=> ?_)|refine AW.skip ?_|refine AW.ret ?_)|with_reducible refine K.tN ?_|with_reducible refine K.bN ?_|with_reducible refine K.tR ?_|with_reducible refine K.bR ?_)
  all_goals
   simp only[beq_iff_eq,beq_eq_false_iff_ne,ne_eq,decide_eq_true_eq,decide_eq_false_iff_not,gt_iff_lt] at*;simp[*] at e
   (exact K.n2 [some 0] U U U U U (by(repeat'(first|exact trivial|refine And.intro ?_ ?_|refine⟨_,U,_,U,_,U,?_⟩|exact Ap.of_eq nE));done) U mL)
theorem Yq9(k:Int):PC E 188 [.i k] (.i (Pv k)):=by
 refine M.F Tryz.func188 ?_;(repeat' first|refine M.v0 ?_|refine M.cs ?_ ?_<;>intro h|fail);all_goals
  simp only[beq_iff_eq,beq_eq_false_iff_ne,ne_eq] at*;simp[zn,V.wk,V.Ar,za,Pv, *]
theorem xo:∀(b:Nat) (t:Tm),t.full<=b->b<1099511627776->PC E 171 [.agg t.view] (.i t.size):=by
 intro b;induction b with
 |zero=>intro t h;have:=t.Ad;omega
 |succ b ih=>
 intro t hsz hb;have hsz':=Tm.Ag t;have hszz:=Tm.size_eq t;have hle:=Tm.An t;have hlen:=ze Tm.full Tm.Ad t.args;refine M.F Tryz.func171 ?_;refine M.w0 ?_;refine M.rt t.args.length
  (fun m=>([(3,.i (1+((t.args.take m).map Tm.size).sum)),(7,.s .tm t.args),(8,.i t.args.length),(9,.i m)],⟨1,[(0,.var t.view)]⟩))
  (M.W AJ) ?_ ?_
 .intro m hm hP;have hs1:=yz Tm.size t.args m hm;have hs2:=zc Tm.full (fA hm);have hs3:=zw Tm.size t.args (m+1);have e:(1+((((t.args.take (m+1)).map Tm.size).sum:Nat):Int))=1+(((t.args.take m).map Tm.size).sum:Nat)+t.args[m].size:=by rw[hs1];omega
  (repeat' first|refine M.w0 ?_|refine M.c2 (ih _ ?_ ?_) ?_|exact M.le|exact M.lt|fail);refine⟨rfl,trivial,?_⟩;simp only[e];exact(M.W AJ)
 .intro hP;refine M.w0 ?_;simp[zn,za,hszz,V.wk,V.Ar]
theorem wz:∀(n:Nat) (x y:Ty),x.size<=n->n<1099511627776->PC E 47 [.agg x.view,.agg y.view] (.bool (decide (x=y))):=by
 intro n;induction n with
 |zero=>intro x y h;have:=x.size_pos;omega
 |succ n ih=>
 intro x y hsz hb;have hsz':=Ty.size_eq x;have hlen:=ze Ty.size Ty.size_pos x.args;have heq:=Ty.eq_iff x y;refine M.F Tryz.func47 ?_;(repeat' first|refine M.w0 ?_|refine M.gs ?_ ?_<;>intro h|refine M.cs ?_ ?_<;>intro h|fail)
 .exact rQ
 .have:¬x=y:=by rintro rfl;simp at h
  simp[this,zn,za,V.wk,V.Ar]
 .rename_i hk;simp at h hk;have hl:x.args.length=y.args.length:=kn
  refine M.rp x.args.length (fun m=>∀j (hj:j<x.args.length),j<m->x.args[j]=y.args[j]' kn)
   (fun m=>([(2,.ptr 0 0),(3,.ptr 1 0),(22,.i x.args.length),(23,.i m)],⟨2,[(0,.var x.view),(1,.var y.view)]⟩))
   lI (M.W Bo) ?_ ?_
  .intro m hm hP;have hm':m<y.args.length:=kn
   have hs2:=zc Ty.size (fA hm);(repeat' first|refine M.w0 ?_|refine M.c2 (ih _ _ ?_ ?_) ?_|refine M.cs ?_ ?_<;>intro h|exact M.le|exact M.lt|fail)
   .have:¬x=y:=by rw[heq];exact fun hc=>Xm hm hm' ku hc.2
    simp[this,zn,za,V.wk,V.Ar]
   .exact ⟨rfl,XK hl hm hP ku,(M.W Bo)⟩
  .intro hP;have:x=y:=heq.2 ⟨hk,Y7 hl hP⟩;refine M.w0 ?_;simp[this,zn,za,V.wk,V.Ar]
theorem Wp:∀(n:Nat) (x y:Tm),x.full<=n->n<1099511627776->PC E 109 [.agg x.view,.agg y.view] (.bool (decide (x=y))):=by
 intro n;induction n with
 |zero=>intro x y h;have:=x.Ad;omega
 |succ n ih=>
 intro x y hsz hb;have hsz':=Tm.Ag x;have hlen:=ze Tm.full Tm.Ad x.args;have heq:=Tm.eq_iff x y;have hty:=wz _ x.ty y.ty (fB _) kn;refine M.F Tryz.func109 ?_;(repeat' first|refine M.w1 @hty ?_|refine M.gs ?_ ?_<;>intro h|refine M.cs ?_ ?_<;>intro h|fail)
 .exact rQ
 .exact rQ
 .exact rQ
 .have:¬x=y:=by rintro rfl;simp at h
  simp[this,zn,za,V.wk,V.Ar]
 .rename_i h1 h2 h3;simp at h h1 h2 h3;have hl:x.args.length=y.args.length:=kn
  refine M.rp x.args.length (fun m=>∀j (hj:j<x.args.length),j<m->x.args[j]=y.args[j]' kn)
   (fun m=>([(2,.ptr 0 0),(3,.ptr 1 0),(37,.i x.args.length),(38,.i m)],⟨2,[(0,.var x.view),(1,.var y.view)]⟩))
   lI (M.W Bo) ?_ ?_
  .intro m hm hP;have hm':m<y.args.length:=kn
   have hs2:=zc Tm.full (fA hm);(repeat' first|refine M.w0 ?_|refine M.c2 (ih _ _ ?_ ?_) ?_|refine M.cs ?_ ?_<;>intro h|exact M.le|exact M.lt|fail)
   .have:¬x=y:=by rw[heq];exact fun hc=>Xm hm hm' ku hc.2.2.2
    simp[this,zn,za,V.wk,V.Ar]
   .exact ⟨rfl,XK hl hm hP ku,(M.W Bo)⟩
  .intro hP;have:x=y:=heq.2 ⟨h1,h2,h3,Y7 hl hP⟩;refine M.w0 ?_;simp[this,zn,za,V.wk,V.Ar]
end Go.Ab
