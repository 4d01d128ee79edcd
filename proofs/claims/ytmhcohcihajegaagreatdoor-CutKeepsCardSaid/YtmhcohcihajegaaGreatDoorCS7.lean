/- A part of this seat's proofs. No conditions. -/
import Derived.Test.YtmhcohcihajegaaGreatDoorCS5
namespace Go.Ab
open Go Go.Proofs
set_option maxRecDepth 100000
set_option maxHeartbeats 4000000
set_option linter.all false
theorem Yhd(k:Int):Pv k=match CV k with|some n=>(n:Int)|none=> -1:=by
 simp only[Pv,CV];(repeat' split)<;>simp_all<;>omega
theorem Tm.FV(t:Tm):t.head=(!((t.args.length:Int) !=Pv t.kind)&& !decide (t.index<0)&&(!(t.kind !=1)|| !(t.index !=0))&&(bif x9 t.kind then !(t.ty.err !=0) else !(!t.ty.Bv))):=by
 simp only[Tm.head,Ty.Fq,Yhd];cases hk:CV t.kind with
 |none=>
  have:((t.args.length:Int) != -1)=true:=ko
  simp[this]
 |some n=>
  have h1:(t.args.length==n)= !((t.args.length:Int) !=((n:Nat):Int)):=m6
  have h2:decide (0<=t.index)= !decide (t.index<0):=by rw[ig];simp
  simp only[h1,h2,bne];cases(t.index==0)<;>cases(t.kind==1)<;>simp
theorem Vw:∀(b:Nat) (t:Tm),t.full<=b->b<1099511627776->PC E 147 [.agg t.view] (.bool t.shape):=by
 intro b;induction b with
 |zero=>intro t h;have:=t.Ad;omega
 |succ b ih=>
 intro t hsz hb;have hsz':=Tm.Ag t;have hlen:=ze Tm.full Tm.Ad t.args;have hsh:=Tm.Ak t;have h1:=Yq9 t.kind;have h3:=Wa t.ty;have h4:=Nf t.ty kn;refine M.F Tryz.func147 ?_;(repeat' first|refine M.w3 @h1 @h3 @h4 ?_|refine M.gs ?_ ?_<;>intro h|refine M.bl ?_|refine M.cs ?_ ?_<;>intro h|fail);all_goals first
  |(have hd:t.head=false:=by rw[t.FV];simp_all[x9]
    have:t.shape=false:=by rw[hsh,hd,iz]
    simp[this,zn,za,V.wk,V.Ar];done)
  |(have hd:t.head=true:=by rw[t.FV];simp_all[x9]
    refine M.rp t.args.length (fun m=>∀j (hj:j<t.args.length),j<m->(t.args[j]).shape=true)
     (fun m=>([(1,.ptr 0 0),(42,.s .tm t.args),(43,.i t.args.length),(44,.i m)],⟨1,[(0,.var t.view)]⟩))
     lI (M.W AJ) ?_ ?_
    .intro m hm hP;have hs2:=zc Tm.full (fA hm);(repeat' first|refine M.w0 ?_|refine M.c2 (ih _ ?_ ?_) ?_|refine M.cs ?_ ?_<;>intro h|exact M.le|exact M.lt|fail)
     .have h1:(t.args[m]).shape=false:=ku
      have:t.shape=false:=by rw[hsh,u2 Tm.shape hm h1,jF]
      simp[this,zn,za,V.wk,V.Ar]
     .have hh:(t.args[m]).shape=true:=ku
      exact⟨rfl,ym (p:=fun t=>Tm.shape t=true) hm hP hh,(M.W AJ)⟩
    .intro hP;have:t.shape=true:=oH
     refine M.w0 ?_;simp[this,zn,za,V.wk,V.Ar])
theorem LS(t:Tm)(ht:t.full<1099511627776):PC E 172 [.agg t.view] (.i t.err):=by
 have h1:=Vw _ t (fB _) ht;have h2:=xo _ t (fB _) ht;refine M.F Tryz.func172 ?_;(repeat' first|refine M.w2 @h1 @h2 ?_|refine M.cs ?_ ?_<;>intro h|fail);all_goals simp_all[zn,V.wk,V.Ar,za,Tm.err]
 all_goals(first|omega|(split<;>first|omega|simp_all))
theorem WV(k:Int):PC E 137 [.i k] (.bool (wc k)):=by
 have e:wc k=decide (k=4\/k=5\/k=6\/k=7):=by rw[ig,Bx,decide_eq_true_iff];omega
 rw[e];refine M.F Tryz.func137 ?_;(repeat' first|refine M.w0 ?_|refine M.gs ?_ ?_<;>intro h|fail);all_goals(simp_all[zn,V.wk,V.Ar,za];try(first|omega|(rw[ig];simp)))
theorem SJ(f:Fm):PC E 92 [.agg f.view] (.i (A3 f.kind 0)):=by
 have h1:=WV f.kind;cases hq:wc f.kind with
 |true=>
  have e:A3 f.kind 0=1:=by simp[A3,hq]
  rw[hq] at h1;rw[e];refine M.F Tryz.func92 ?_;refine M.w1 @h1 ?_
  rfl
 |false=>
  have e:A3 f.kind 0=0:=by simp[A3,hq]
  rw[hq] at h1;rw[e];refine M.F Tryz.func92 ?_;refine M.w1 @h1 ?_
  rfl
theorem QE(k b:Int):b+A3 k 0=A3 k b:=l5
theorem Wn(t:Ty):t.ok=(t.err==0):=Ty.Fq t
theorem Ye7{f:Fm}(hk:f.kind=1):f.shape=(decide (f.args.length=0)&&f.ty.Bv&&decide (f.terms.length=2)&&f.terms.all Tm.shape):=by
 rw[Fm.Ak];simp only[Fm.head,hk,if_true];by_cases h:f.args.length=0
 .have ha:f.args=[]:=ir.1 h;rw[ha];cases f.ty.Bv<;>simp;rw[ig];simp
 .simp[h]
theorem Yet{f:Fm}(hk:f.kind=2\/f.kind=3):f.shape=(decide (f.terms.length=0)&&f.ty.Bv&&decide (f.args.length=2)&&f.args.all Fm.shape):=by
 rw[Fm.Ak];have h1:¬f.kind=1:=kn
 simp only[Fm.head,if_neg h1,if_pos hk];by_cases h:f.terms.length=0
 .have ha:f.terms=[]:=ir.1 h;rw[ha];cases f.ty.Bv<;>simp;rw[ig];simp
 .simp[h]
theorem aD{f:Fm}(hk:wc f.kind=true):f.shape=(decide (f.terms.length=0)&&f.ty.ok&&decide (f.args.length=1)&&f.args.all Fm.shape):=by
 rw[Fm.Ak];rw[Bx] at hk;have h1:¬f.kind=1:=kn
 have h2:¬(f.kind=2\/f.kind=3):=kn
 have h3:f.kind=4\/f.kind=5\/f.kind=6\/f.kind=7:=kn
 simp only[Fm.head,if_neg h1,if_neg h2,if_pos h3];by_cases h:f.terms.length=0
 .have ha:f.terms=[]:=ir.1 h;rw[ha];cases f.ty.ok<;>simp;rw[ig];simp
 .simp[h]
theorem Yha{f:Fm}(h1:f.kind≠1)(h2:¬(f.kind=2\/f.kind=3))(h3:wc f.kind=false):f.shape=false:=by
 rw[Fm.Ak];have h4:¬(f.kind=4\/f.kind=5\/f.kind=6\/f.kind=7):=by
  intro hc;have:wc f.kind=true:=by rw[Bx];omega
  rw[h3] at this;cases this
 simp only[Fm.head,if_neg h1,if_neg h2,if_neg h4,iz]
theorem eF:∀(n:Nat) (f:Fm),f.full<=n->n<549755813888->PC E 111 [.agg f.view] (.bool f.shape):=by
 intro n;induction n with
 |zero=>intro f h;have:=f.Ad;omega
 |succ n ih=>
 intro f hsz hn;have hsz':=f.Ag;have hlen:=ze Fm.full Fm.Ad f.args;have hlen2:=ze Tm.full Tm.Ad f.terms;have hz:=Wa f.ty;have hty:=Nf f.ty kn;have hq:=WV f.kind;have ht:∀x∈f.terms,PC E 147 [.agg x.view] (.bool x.shape):=fun x hx=>Vw _ x (fB _) (by have:=zc Tm.full hx;omega);have ha:∀x∈f.args,PC E 111 [.agg x.view] (.bool x.shape):=fun x hx=>ih x (by have:=zc Fm.full hx;omega) kn;clear ih;by_cases k1:f.kind=1
 .have e:=Ye7 k1;obtain⟨k,ty,ts,fs⟩:=f;simp only[Fm.Ai,Fm.AO,Fm.Am,Fm.Af] at*;subst k1;by_cases hl:ts.length=2
  .obtain ⟨a,b,rfl⟩:=SQ hl;have t1:=ht a ko;have t2:=ht b ko;rw[e];refine M.F Tryz.func111 ?_;(repeat' first|refine M.w3 @hz @t1 @t2 ?_|refine M.gs ?_ ?_<;>intro h|refine M.zb ?_|fail);all_goals(simp at*;simp_all[zn,V.wk,V.Ar,za];done)
  .have e2:(Fm.mk 1 ty ts fs).shape=false:=by rw[e];simp[hl]
   rw[e2];refine M.F Tryz.func111 ?_;(repeat' first|refine M.w1 @hz ?_|refine M.gs ?_ ?_<;>intro h|refine M.zb ?_|fail);all_goals first|simp at*;simp_all[zn,V.wk,V.Ar,za];done|exfalso;simp at*;omega
 by_cases k2:f.kind=2\/f.kind=3
 .have e:=Yet k2;obtain⟨k,ty,ts,fs⟩:=f;simp only[Fm.Ai,Fm.AO,Fm.Am,Fm.Af] at*;by_cases hl:fs.length=2
  .obtain ⟨a,b,rfl⟩:=SQ hl;have t1:=ha a ko;have t2:=ha b ko;rw[e];rcases k2 with rfl|rfl;all_goals
    refine M.F Tryz.func111 ?_;(repeat' first|refine M.w3 @hz @t1 @t2 ?_|refine M.gs ?_ ?_<;>intro h|refine M.zb ?_|fail);all_goals(simp at*;simp_all[zn,V.wk,V.Ar,za];done)
  .have e2:(Fm.mk k ty ts fs).shape=false:=by rw[e];simp[hl]
   rw[e2];rcases k2 with rfl|rfl;all_goals
    refine M.F Tryz.func111 ?_;(repeat' first|refine M.w1 @hz ?_|refine M.gs ?_ ?_<;>intro h|refine M.zb ?_|fail);all_goals first|simp at*;simp_all[zn,V.wk,V.Ar,za];done|exfalso;simp at*;omega
 cases k3:wc f.kind with
 |true=>
  have e:=aD k3;rw[k3] at hq;have hk:f.kind=4\/f.kind=5\/f.kind=6\/f.kind=7:=by rw[Bx] at k3;omega
  obtain⟨k,ty,ts,fs⟩:=f;simp only[Fm.Ai,Fm.AO,Fm.Am,Fm.Af] at*;rw[Wn] at e;by_cases hl:fs.length=1
  .obtain ⟨a,rfl⟩:=Ww hl;have t1:=ha a ko;rw[e];rcases hk with rfl|rfl|rfl|rfl;all_goals
    refine M.F Tryz.func111 ?_;(repeat' first|refine M.w3 @hty @hq @t1 ?_|refine M.gs ?_ ?_<;>intro h|refine M.zb ?_|fail);all_goals(simp at*;simp_all[zn,V.wk,V.Ar,za];done)
  .have e2:(Fm.mk k ty ts fs).shape=false:=by rw[e];simp[hl]
   rw[e2];rcases hk with rfl|rfl|rfl|rfl;all_goals
    refine M.F Tryz.func111 ?_;(repeat' first|refine M.w2 @hty @hq ?_|refine M.gs ?_ ?_<;>intro h|refine M.zb ?_|fail);all_goals first|simp at*;simp_all[zn,V.wk,V.Ar,za];done|exfalso;simp at*;omega
 |false=>
  have e:=Yha k1 k2 k3;rw[k3] at hq;rw[e];refine M.F Tryz.func111 ?_;(repeat' first|refine M.w1 @hq ?_|refine M.gs ?_ ?_<;>intro h|refine M.zb ?_|refine M.cs ?_ ?_<;>intro h|fail);all_goals first
   |rfl
   |(exfalso;simp at*;omega)
theorem SK:∀(n:Nat) (f:Fm),f.full<=n->n<549755813888->PC E 112 [.agg f.view] (.i f.size):=by
 intro n;induction n with
 |zero=>intro f h;have:=f.Ad;omega
 |succ n ih=>
 intro f hsz hn;have hsz':=f.Ag;have hse:=f.size_eq;have hlen:=ze Fm.full Fm.Ad f.args;have hlen2:=ze Tm.full Tm.Ad f.terms;have hle1:=x6 (f:=Tm.size) (g:=Tm.full) f.terms fun x _=>x.An;have hle2:=x6 (f:=Fm.size) (g:=Fm.full) f.args fun x _=>x.An;refine M.F Tryz.func112 ?_;refine M.w0 ?_;refine M.rt f.terms.length
  (fun m=>([(1,.ptr 0 0),(3,.i (1+((f.terms.take m).map Tm.size).sum:Nat)),(9,.s .tm f.terms),(10,.i f.terms.length),(11,.i m)],⟨1,[(0,.var f.view)]⟩))
  (M.W AJ) ?_ ?_
 .intro m hm _;have hs1:=yz Tm.size f.terms m hm;have hs2:=zc Tm.full (fA hm);have hs3:=zw Tm.size f.terms (m+1);have hc:=xo _ f.terms[m] (fB _) kn;refine M.w1 @hc ?_;refine⟨rfl,trivial,?_⟩;simp only[hs1];exact(M.W AJ (hf:=(by(repeat'(first|exact trivial|refine And.intro ?_ ?_|refine⟨_,U,_,U,?_⟩|exact Ap.refl _|exact Ap.of_eq lJ));done)))
 .intro _;simp only[fH];refine M.w0 ?_;refine M.rt f.args.length
   (fun m=>([(1,.ptr 0 0),(3,.i (1+(f.terms.map Tm.size).sum+((f.args.take m).map Fm.size).sum:Nat)),(21,.s .fm f.args),(22,.i f.args.length),(23,.i m)],⟨1,[(0,.var f.view)]⟩))
   (M.W AJ) ?_ ?_
  .intro m hm _;have hs1:=yz Fm.size f.args m hm;have hs2:=zc Fm.full (fA hm);have hs3:=zw Fm.size f.args (m+1);have hc:=ih f.args[m] kn kn;refine M.w1 @hc ?_;refine⟨rfl,trivial,?_⟩;simp only[hs1];exact(M.W AJ (hf:=(by(repeat'(first|exact trivial|refine And.intro ?_ ?_|refine⟨_,U,_,U,?_⟩|exact Ap.refl _|exact Ap.of_eq lJ));done)))
  .intro _;simp only[fH];refine M.w0 ?_;rw[hse]
   rfl
theorem MU(f:Fm)(hf:f.full<549755813888):PC E 50 [.agg f.view] (.i f.err):=by
 have h1:=eF _ f (fB _) hf;have h2:=SK _ f (fB _) hf;have hle:=f.An;cases hs:f.shape with
 |false=>
  have e:f.err=2:=by simp[Fm.err,hs]
  rw[hs] at h1;rw[e];refine M.F Tryz.func50 ?_;refine M.w1 @h1 ?_
  rfl
 |true=>
  rw[hs] at h1;by_cases hz:f.size>4096
  .have e:f.err=4:=mX
   rw[e];refine M.F Tryz.func50 ?_;(repeat' first|refine M.w2 @h1 @h2 ?_|refine M.cs ?_ ?_<;>intro h|fail)
   .rfl
   .exact qW
  .have e:f.err=0:=mX
   rw[e];refine M.F Tryz.func50 ?_;(repeat' first|refine M.w2 @h1 @h2 ?_|refine M.cs ?_ ?_<;>intro h|fail)
   .exact qW
   .rfl
theorem Xg:∀(n:Nat) (f:Fm) (at_:Int),f.full<=n->n<274877906944->-274877906944<=at_->at_+n<549755813888->f.shape=true->PC E 197 [.agg f.view,.i at_] (.bool (decide (zq at_ f≠0))):=by
 intro n;induction n with
 |zero=>intro f at_ h;have:=f.Ad;omega
 |succ n ih=>
 intro f at_ hsz hn h1 h2 hs;have hsz':=f.Ag;have hlen:=ze Fm.full Fm.Ad f.args;have hlen2:=ze Tm.full Tm.Ad f.terms;have he:=dD (at_:=at_) hs;have hup:=Nk f.kind at_;have hpl:=QE f.kind at_;have hb:=SJ f;refine M.F Tryz.func197 ?_;refine M.w0 ?_;refine M.rp f.terms.length (fun m=>∀j (hj:j<f.terms.length),j<m->xn at_ f.terms[j]=0)
  (fun m=>([(1,.i at_),(2,.ptr 0 0),(10,.s .tm f.terms),(11,.i f.terms.length),(12,.i m)],⟨1,[(0,.var f.view)]⟩))
  (fun j hj h=>kn) (M.W AJ) ?_ ?_
 .intro m hm hP;have hs2:=zc Tm.full (fA hm);have hc:=Ypp _ f.terms[m] at_ (fB _) kn kn kn (yi hs (fA hm));(repeat' first|refine M.w1 @hc ?_|refine M.cs ?_ ?_<;>intro h|fail)
  .have hx:xn at_ f.terms[m]≠0:=ku
   have:=VV hm hx;rw[he,decide_eq_true (show _≠0 by omega)];rfl
  .have hx:xn at_ f.terms[m]=0:=ku
   exact⟨rfl,ym (p:=fun t'=>xn at_ t'=0) hm hP hx,(M.W AJ)⟩
 .intro hP;rw[Up (f:=xn at_) fun j hj=>hP j hj hj,gN] at he;refine M.w0 ?_;refine M.rp f.args.length (fun m=>∀j (hj:j<f.args.length),j<m->zq (A3 f.kind at_) f.args[j]=0)
   (fun m=>([(1,.i at_),(2,.ptr 0 0),(21,.s .fm f.args),(22,.i f.args.length),(23,.i m)],⟨1,[(0,.var f.view)]⟩))
   (fun j hj h=>kn) (M.W AJ) ?_ ?_
  .intro m hm hP;have hs2:=zc Fm.full (fA hm);have hc:=ih f.args[m] (A3 f.kind at_) kn kn kn kn (zp hs (fA hm));rw[<-hpl] at hc;rw[<-hpl] at hP he;(repeat' first|refine M.w2 @hb @hc ?_|refine M.cs ?_ ?_<;>intro h|fail)
   .have hx:zq (at_+A3 f.kind 0) f.args[m]≠0:=ku
    rw[he,decide_eq_true (VV hm hx)];rfl
   .have hx:zq (at_+A3 f.kind 0) f.args[m]=0:=ku
    exact⟨rfl,by rw[<-hpl];exact ym (p:=fun t'=>zq (at_+A3 f.kind 0) t'=0) hm hP hx,(M.W AJ)⟩
  .intro hP;rw[he,Up fun j hj=>hP j hj hj];refine M.w0 ?_
   rfl
theorem Qq:∀(b:Nat) (t:Tm),t.full<=b->b<1099511627776->PC E 169 [.agg t.view] (.agg t.view):=by
 intro b;induction b with
 |zero=>intro t h;have:=t.Ad;omega
 |succ b ih=>
 intro t hsz hb;have hsz':=Tm.Ag t;have hlen:=ze Tm.full Tm.Ad t.args;have hty:=It _ t.ty (fB _) kn;refine M.F Tryz.func169 ?_;refine M.w1 @hty ?_;refine M.rt t.args.length
  (fun m=>([(1,.ptr 0 0),(2,.ptr 1 0),(3,.ptr 2 0),(15,.s .tm t.args),(16,.i t.args.length),(17,.i m)],⟨4,[(0,.var t.view),(1,.var [.i 0,.i 0,.i 0,.slice .nil (.t .ty []),.slice .nil (.t .tm [])]),(2,.var [.i t.kind,.i t.index,.i t.ty.kind,.s .ty t.ty.args,.slice (.own 3) (.t .tm (t.args.take m))]),(3,.row)]⟩))
  (M.W JU) ?_ ?_
 .intro m hm hP;have hs2:=zc Tm.full (fA hm);(repeat' first|refine M.w0 ?_|refine M.c2 (ih _ ?_ ?_) ?_|exact M.le|exact M.lt|fail);exact⟨rfl,trivial,(M.W [some 0,some 1,some 2,some 5] (he:=(by(repeat'(first|exact trivial|exact Or.inr ⟨_,U,rfl⟩|refine And.intro ?_ ?_|refine⟨_,U,_,U,_,U,?_⟩|exact Ap.refl _|exact Ap.of_eq kQ));done)))⟩
 .exact qJ
theorem Ybg{at_ b:Int}{s t:Tm}(h:t.kind≠1):t.re (yq at_ s) b= .mk t.kind t.index t.ty (t.args.map fun x=>x.re (yq at_ s) (up t.kind b)):=wr h
theorem XE(at_:Int)(s:Tm)(hat:0<=at_/\at_<137438953472)(hs:s.shape=true)(hsf:s.full<137438953472)(hsi:∀p∈s.vars 0,0<=p.1/\p.1<274877906944):∀(n:Nat) (t:Tm) (dp:Int),t.full<=n->n<137438953472->0<=dp->dp+n<274877906944->t.shape=true->(∀p∈t.vars 0,0<=p.1/\p.1<274877906944)->
 PC E 254 [.agg t.view,.i at_,.i dp,.agg s.view] (.agg (t.re (yq at_ s) dp).view):=by
 intro n;induction n with
 |zero=>intro t dp h;have:=t.Ad;omega
 |succ n ih=>
 intro t dp hsz hn h1 h2 ht hix;have hsz':=Tm.Ag t;have hlen:=ze Tm.full Tm.Ad t.args;have hup:=OQ t.kind dp;have hpl:=OX t.kind dp;have hb:=N5 t;by_cases hv:t.kind=1
 .have hti:=hix (t.index,0) (by rw[Jq ht hv];simp);rw[NG ht hv];generalize t.index=i at hti;simp only at hti;rw[wh,xt];have hvi:(vT i).index=i:=rfl;have hu:=SU (at_+dp) kn _ s 0 (fB _) kn kn kn hs fun p hp=>by have:=hsi p hp;omega
  have hvc:=Fg (i-1);clear ih hix;by_cases h3:i-dp=at_
  .rw[if_pos h3];have h3':i=at_+dp:=kn
   subst h3';refine M.F Tryz.func254 ?_;(repeat' first|refine M.o1 @hu ?_|refine M.z1 4 ?_|refine M.cs ?_ ?_<;>intro h|refine M.gk ?_|fail);all_goals first
    |rfl
    |(exfalso;simp at h;done)
    |(exfalso;simp at h;omega)
  .rw[if_neg h3];by_cases h4:i-dp>at_
   .rw[if_pos h4];refine M.F Tryz.func254 ?_;(repeat' first|refine M.o0 ?_|refine M.z3 3 5 6 ?_|refine M.cs ?_ ?_<;>intro h|refine M.gk ?_|fail);all_goals first
     |(exfalso;simp at h;omega)
     |skip
    refine M.w1 @hvc ?_
    rfl
   .rw[if_neg h4];refine M.F Tryz.func254 ?_;(repeat' first|refine M.o0 ?_|refine M.z3 3 5 6 ?_|refine M.cs ?_ ?_<;>intro h|refine M.gk ?_|fail);all_goals first
     |(exfalso;simp at h;omega)
     |skip
    refine M.w0 ?_
    rfl
 have he:=Ybg (at_:=at_) (b:=dp) (s:=s) hv;refine M.F Tryz.func254 ?_;(repeat' first|refine M.o0 ?_|refine M.z1 2 ?_|refine M.cs ?_ ?_<;>intro h|refine M.gk ?_|fail);all_goals first
  |(exfalso;simp at h;exact hv h)
  |skip
 skip;refine M.rt t.args.length (fun m=>([(1,.i at_),(2,.i dp),(4,.ptr 0 0),(7,.ptr 1 0),(8,.ptr 2 0),(9,.ptr 3 0),(45,.s .tm t.args),(46,.i t.args.length),(47,.i m)],⟨5,[(0,.var t.view),(1,.var s.view),(2,.var [.i 0,.i 0,.i 0,.slice .nil (.t .ty []),.slice .nil (.t .tm [])]),(3,.var [.i t.kind,.i t.index,.i t.ty.kind,.s .ty t.ty.args,.slice (.own 4) (.t .tm ((t.args.take m).map fun x=>x.re (yq at_ s) (up t.kind dp)))]),(4,.row)]⟩))
  (M.W Ke) ?_ ?_
 .intro m hm _;have hs2:=zc Tm.full (fA hm);have hc:=ih t.args[m] (up t.kind dp) kn kn kn kn (zd ht _ (fA hm)) (fun p hp=>by
   obtain⟨q,hq,hqe⟩:=Rl (b':=up t.kind 0) p hp;have:=hix q (Pk hv (fA hm) hq);rw[<-hqe];exact this)
  rw[<-hpl] at hc;simp only[<-hpl];refine M.w2 @hb @hc ?_;exact⟨rfl,trivial,(M.W [some 0,some 1,some 2,some 3,some 6] (he:=(by(repeat'(first|exact trivial|exact Or.inr ⟨_,U,rfl⟩|refine And.intro ?_ ?_|refine⟨_,U,_,U,_,U,?_⟩|exact Ap.refl _|exact Ap.of_eq kO));done)))⟩
 .exact sF
theorem TO{t:Tm}(h:t.near=true):∀q∈t.vars 0,q.1<=536870912:=fun q hq=>by simpa using List.all_eq_true.1 h q hq
theorem Ydb:∀(n:Nat) (f:Fm) (at_:Int),f.full<=n->n<274877906944->-274877906944<=at_->at_+n<549755813888->f.shape=true->PC E 242 [.agg f.view,.i at_] (.i (zq at_ f)):=by
 intro n;induction n with
 |zero=>intro f at_ h;have:=f.Ad;omega
 |succ n ih=>
 intro f at_ hsz hn h1 h2 hs;have hsz':=f.Ag;have hlen:=ze Fm.full Fm.Ad f.args;have hlen2:=ze Tm.full Tm.Ad f.terms;have he:=dD (at_:=at_) hs;have hup:=Nk f.kind at_;have hpl:=QE f.kind at_;have hb:=SJ f;have hle1:∀m,((f.terms.take m).map (xn at_)).sum<=(f.terms.map Tm.full).sum:=fun m=>by
  have a1:=zw Tm.full f.terms m;have a2:=x6 (f:=xn at_) (g:=Tm.full) (f.terms.take m) fun x _=>gD (O2 x _) x.An;omega
 have hle2:∀m,((f.args.take m).map (zq (A3 f.kind at_))).sum<=(f.args.map Fm.full).sum:=fun m=>by
  have a1:=zw Fm.full f.args m;have a2:=x6 (f:=zq (A3 f.kind at_)) (g:=Fm.full) (f.args.take m) fun x _=>gD (MF _ x) x.An;omega
 refine M.F Tryz.func242 ?_;refine M.w0 ?_;refine M.rt f.terms.length
  (fun m=>([(1,.i at_),(2,.ptr 0 0),(5,.i (((f.terms.take m).map (xn at_)).sum:Nat)),(11,.s .tm f.terms),(12,.i f.terms.length),(13,.i m)],⟨1,[(0,.var f.view)]⟩))
  (M.W AJ) ?_ ?_
 .intro m hm _;have hs1:=yz (xn at_) f.terms m hm;have hs2:=zc Tm.full (fA hm);have hs3:=hle1 m;have hs4:=O2 f.terms[m] at_;have hs5:=f.terms[m].An;have hc:=cU _ f.terms[m] at_ (fB _) kn kn kn (yi hs (fA hm));refine M.w1 @hc ?_;refine⟨rfl,trivial,?_⟩;simp only[hs1];exact(M.W AJ)
 .intro _;have hs6:=hle1 f.terms.length;simp only[fH] at hs6 ⊢;refine M.w0 ?_;refine M.rt f.args.length
   (fun m=>([(1,.i at_),(2,.ptr 0 0),(5,.i ((f.terms.map (xn at_)).sum+((f.args.take m).map (zq (A3 f.kind at_))).sum:Nat)),(24,.s .fm f.args),(25,.i f.args.length),(26,.i m)],⟨1,[(0,.var f.view)]⟩))
   (M.W AJ) ?_ ?_
  .intro m hm _;have hs1:=yz (zq (A3 f.kind at_)) f.args m hm;have hs2:=zc Fm.full (fA hm);have hs3:=hle2 m;have hs4:=MF (A3 f.kind at_) f.args[m];have hs5:=f.args[m].An;have hc:=ih f.args[m] (A3 f.kind at_) kn kn kn kn (zp hs (fA hm));rw[<-hpl] at hc hs1 hs3 hs4;simp only[<-hpl];refine M.w2 @hb @hc ?_;refine⟨rfl,trivial,?_⟩;simp only[hs1];exact(M.W AJ (hf:=(by(repeat'(first|exact trivial|refine And.intro ?_ ?_|refine⟨_,U,_,U,?_⟩|exact Ap.refl _|exact Ap.of_eq lJ));done)))
  .exact sC
theorem Yaz(most:Int)(h0:0<=most):∀(n:Nat) (f:Fm),f.full<=n->n<549755813888->f.shape=true->PC E 241 [.agg f.view,.i most] (.bool (Ia most f)):=by
 intro n;induction n with
 |zero=>intro f h;have:=f.Ad;omega
 |succ n ih=>
 intro f hsz hn hs;have hsz':=f.Ag;have hlen:=ze Fm.full Fm.Ad f.args;have hlen2:=ze Tm.full Tm.Ad f.terms;have he:=Yap most f;refine M.F Tryz.func241 ?_;refine M.w0 ?_;refine M.rp f.terms.length (fun m=>∀j (hj:j<f.terms.length),j<m->vr most f.terms[j]=true)
  (fun m=>([(1,.i most),(2,.ptr 0 0),(10,.s .tm f.terms),(11,.i f.terms.length),(12,.i m)],⟨1,[(0,.var f.view)]⟩))
  (fun j hj h=>kn) (M.W AJ) ?_ ?_
 .intro m hm hP;have hs2:=zc Tm.full (fA hm);have hc:=UD most h0 _ f.terms[m] (fB _) kn (yi hs (fA hm));(repeat' first|refine M.w1 @hc ?_|refine M.cs ?_ ?_<;>intro h|fail)
  .have hx:vr most f.terms[m]=false:=ku
   rw[he,u2 (vr most) hm hx];rfl
  .have hx:vr most f.terms[m]=true:=ku
   exact⟨rfl,ym (p:=fun t=>vr most t=true) hm hP hx,(M.W AJ)⟩
 .intro hP;rw[Gy (vr most) f.terms fun j hj=>hP j hj hj,gY] at he;refine M.w0 ?_;refine M.rp f.args.length (fun m=>∀j (hj:j<f.args.length),j<m->Ia most f.args[j]=true)
   (fun m=>([(1,.i most),(2,.ptr 0 0),(22,.s .fm f.args),(23,.i f.args.length),(24,.i m)],⟨1,[(0,.var f.view)]⟩))
   (fun j hj h=>kn) (M.W AJ) ?_ ?_
  .intro m hm hP;have hs2:=zc Fm.full (fA hm);have hc:=ih f.args[m] kn kn (zp hs (fA hm));(repeat' first|refine M.w1 @hc ?_|refine M.cs ?_ ?_<;>intro h|fail)
   .have hx:Ia most f.args[m]=false:=ku
    rw[he,u2 (Ia most) hm hx];rfl
   .have hx:Ia most f.args[m]=true:=ku
    exact⟨rfl,ym (p:=fun t=>Ia most t=true) hm hP hx,(M.W AJ)⟩
  .intro hP;rw[he,Gy (Ia most) f.args fun j hj=>hP j hj hj];refine M.w0 ?_
   rfl
theorem Jd:∀(b:Nat) (f:Fm),f.full<=b->b<1099511627776->PC E 42 [.agg f.view] (.agg f.view):=by
 intro b;induction b with
 |zero=>intro f h;have:=f.Ad;omega
 |succ b ih=>
 intro f hsz hb;have hsz':=f.Ag;have hlen:=ze Fm.full Fm.Ad f.args;have hlen2:=ze Tm.full Tm.Ad f.terms;have hty:=uh _ f.ty (fB _) kn;refine M.F Tryz.func42 ?_;refine M.w1 @hty ?_;refine M.rt f.terms.length
  (fun m=>([(1,.ptr 0 0),(2,.ptr 1 0),(3,.ptr 2 0),(15,.s .tm f.terms),(16,.i f.terms.length),(17,.i m)],⟨4,[(0,.var f.view),(1,.var [.i 0,.i 0,.slice .nil (.t .ty []),.slice .nil (.t .tm []),.slice .nil (.t .fm [])]),(2,.var [.i f.kind,.i f.ty.kind,.s .ty f.ty.args,.slice (.own 3) (.t .tm (f.terms.take m)),.slice .nil (.t .fm [])]),(3,.row)]⟩))
  (M.W JU) ?_ ?_
 .exact ql
 .intro _;simp only[fH];refine M.w0 ?_;refine M.rt f.args.length
   (fun m=>([(1,.ptr 0 0),(2,.ptr 1 0),(3,.ptr 2 0),(30,.s .fm f.args),(31,.i f.args.length),(32,.i m)],⟨5,[(0,.var f.view),(1,.var [.i 0,.i 0,.slice .nil (.t .ty []),.slice .nil (.t .tm []),.slice .nil (.t .fm [])]),(2,.var [.i f.kind,.i f.ty.kind,.s .ty f.ty.args,.slice (.own 3) (.t .tm f.terms),.slice (.own 4) (.t .fm (f.args.take m))]),(3,.row),(4,.row)]⟩))
   (M.W Ke) ?_ ?_
  .intro m hm _;have hs2:=zc Fm.full (fA hm);(repeat' first|refine M.w0 ?_|refine M.c2 (ih _ ?_ ?_) ?_|exact M.le|exact M.lt|fail);exact⟨rfl,trivial,(M.W [some 0,some 1,some 2,some 3,some 6] (he:=(by(repeat'(first|exact trivial|exact Or.inr ⟨_,U,rfl⟩|refine And.intro ?_ ?_|refine⟨_,U,_,U,_,U,?_⟩|exact Ap.refl _|exact Ap.of_eq kQ));done)))⟩
  .exact qt
theorem JY(a b:Tm)(ha:a.full<1099511627776)(hb:b.full<1099511627776):PC E 60 [.agg a.view,.agg b.view] (.agg (AV a b).view):=by
 have h1:=Kp _ a (fB _) ha;have h2:=Kp _ b (fB _) hb;refine M.F Tryz.func60 ?_;refine M.w2 @h1 @h2 ?_
 rfl
theorem Pm(k:Int)(a b:Fm)(ha:a.full<1099511627776)(hb:b.full<1099511627776):PC E 89 [.i k,.agg a.view,.agg b.view] (.agg (Fm.mk k (.mk 0 []) [] [a,b]).view):=by
 have h1:=Jd _ a (fB _) ha;have h2:=Jd _ b (fB _) hb;refine M.F Tryz.func89 ?_;refine M.w2 @h1 @h2 ?_
 rfl
theorem HS(k:Int)(s:Ty)(f:Fm)(hs:s.size<1099511627776)(hf:f.full<1099511627776):PC E 59 [.i k,.agg s.view,.agg f.view] (.agg (Fm.mk k s [] [f]).view):=by
 have h1:=uh _ s (fB _) hs;have h2:=Jd _ f (fB _) hf;refine M.F Tryz.func59 ?_;refine M.w2 @h1 @h2 ?_
 rfl
theorem Ykv(t:Tm)(b:Int)(ht:t.full<1099511627776):PC E 210 [.agg t.view,.i b] (.agg t.view):=by
 have h1:=Qq _ t (fB _) ht;refine M.F Tryz.func210 ?_;refine M.w1 @h1 ?_;simp[zn,V.wk,V.Ar,za,Ty.view,Tm.view]
theorem Ykw:∀(n:Nat) (f:Fm) (bl:Int),f.full<=n->n<549755813888->0<=bl->bl+n<549755813888->PC E 182 [.agg f.view,.i bl,.fn (.func 210) [] []] (.agg f.view):=by
 intro n;induction n with
 |zero=>intro f bl h;have:=f.Ad;omega
 |succ n ih=>
 intro f bl hsz hb hbl hbn;have hsz':=f.Ag;have hlen:=ze Fm.full Fm.Ad f.args;have hlen2:=ze Tm.full Tm.Ad f.terms;have hty:=It _ f.ty (fB _) kn;have hq:=OZ f.kind;refine M.F Tryz.func182 ?_;refine M.w1 @hty ?_;refine M.rt f.terms.length
  (fun m=>([(1,.i bl),(2,.fn (.func 210) [] []),(3,.ptr 0 0),(6,.ptr 1 0),(7,.ptr 2 0),(19,.s .tm f.terms),(20,.i f.terms.length),(21,.i m)],⟨4,[(0,.var f.view),(1,.var [.i 0,.i 0,.slice .nil (.t .ty []),.slice .nil (.t .tm []),.slice .nil (.t .fm [])]),(2,.var [.i f.kind,.i f.ty.kind,.s .ty f.ty.args,.slice (.own 3) (.t .tm (f.terms.take m)),.slice .nil (.t .fm [])]),(3,.row)]⟩))
  (M.W JU) ?_ ?_
 .intro m hm _;have hs2:=zc Tm.full (fA hm);have hc:=Ykv f.terms[m] bl kn;(repeat' first|refine M.w0 ?_|refine M.cv (hc) [] 0 ?_|fail);exact⟨rfl,trivial,(M.W [some 0,some 1,some 2,some 5] (he:=(by(repeat'(first|exact trivial|exact Or.inr ⟨_,U,rfl⟩|refine And.intro ?_ ?_|refine⟨_,U,_,U,_,U,?_⟩|exact Ap.refl _|exact Ap.of_eq kQ));done)))⟩
 .intro _;simp only[fH];cases hqk:wc f.kind with
  |true=>
   rw[hqk] at hq;refine M.w1 @hq ?_;refine M.rt f.args.length
    (fun m=>([(1,.i (bl+1)),(2,.fn (.func 210) [] []),(3,.ptr 0 0),(6,.ptr 1 0),(7,.ptr 2 0),(41,.s .fm f.args),(42,.i f.args.length),(43,.i m)],⟨5,[(0,.var f.view),(1,.var [.i 0,.i 0,.slice .nil (.t .ty []),.slice .nil (.t .tm []),.slice .nil (.t .fm [])]),(2,.var [.i f.kind,.i f.ty.kind,.s .ty f.ty.args,.slice (.own 3) (.t .tm f.terms),.slice (.own 4) (.t .fm (f.args.take m))]),(3,.row),(4,.row)]⟩))
    (M.W Ke) ?_ ?_
   .intro m hm _;have hs2:=zc Fm.full (fA hm);have hc:=ih f.args[m] (bl+1) kn kn kn kn;refine M.w1 @hc ?_;exact⟨rfl,trivial,(M.W [some 0,some 1,some 2,some 3,some 6] (he:=(by(repeat'(first|exact trivial|exact Or.inr ⟨_,U,rfl⟩|refine And.intro ?_ ?_|refine⟨_,U,_,U,_,U,?_⟩|exact Ap.refl _|exact Ap.of_eq kQ));done)))⟩
   .exact qt
  |false=>
   rw[hqk] at hq;refine M.w1 @hq ?_;refine M.rt f.args.length
    (fun m=>([(1,.i bl),(2,.fn (.func 210) [] []),(3,.ptr 0 0),(6,.ptr 1 0),(7,.ptr 2 0),(41,.s .fm f.args),(42,.i f.args.length),(43,.i m)],⟨5,[(0,.var f.view),(1,.var [.i 0,.i 0,.slice .nil (.t .ty []),.slice .nil (.t .tm []),.slice .nil (.t .fm [])]),(2,.var [.i f.kind,.i f.ty.kind,.s .ty f.ty.args,.slice (.own 3) (.t .tm f.terms),.slice (.own 4) (.t .fm (f.args.take m))]),(3,.row),(4,.row)]⟩))
    (M.W Ke) ?_ ?_
   .intro m hm _;have hs2:=zc Fm.full (fA hm);have hc:=ih f.args[m] bl kn kn kn kn;refine M.w1 @hc ?_;exact⟨rfl,trivial,(M.W [some 0,some 1,some 2,some 3,some 6] (he:=(by(repeat'(first|exact trivial|exact Or.inr ⟨_,U,rfl⟩|refine And.intro ?_ ?_|refine⟨_,U,_,U,_,U,?_⟩|exact Ap.refl _|exact Ap.of_eq kQ));done)))⟩
   .exact qt
theorem Vt(f:Fm)(hf:f.full<274877906944):PC E 170 [.agg f.view] (.agg f.view):=by
 have h1:=Ykw _ f 0 (fB _) kn kn kn;refine M.F Tryz.func170 ?_;refine M.w1 @h1 ?_
 rfl
end Go.Ab
