/- A part of this seat's proofs. No conditions. -/
import Derived.Test.YtgjekifepogehaaGreatDoorPS4
namespace Go.Ab
open Go Go.Proofs
set_option maxRecDepth 100000
set_option maxHeartbeats 4000000
set_option linter.all false
theorem Zww{at_ b:Int}{s t:Tm}(h:t.kind≠1):t.re (xt at_ s) b= .mk t.kind t.index t.ty (t.args.map fun x=>x.re (xt at_ s) (up t.kind b)):=vm h
theorem Sa(at_:Int)(s:Tm)(hat:0<=at_/\at_<137438953472)(hs:s.shape=true)(hsf:s.full<137438953472)(hsi:∀p∈s.vars 0,0<=p.1/\p.1<274877906944):∀(n:Nat) (t:Tm) (dp:Int),t.full<=n->n<137438953472->0<=dp->dp+n<274877906944->t.shape=true->(∀p∈t.vars 0,0<=p.1/\p.1<274877906944)->
 PC E 191 [.agg t.view,.i at_,.i dp,.agg s.view] (.agg (t.re (xt at_ s) dp).view):=by
 intro n;induction n with
 |zero=>intro t dp h;have:=t.Ac;omega
 |succ n ih=>
 intro t dp hsz hn h1 h2 ht hix;have hsz':=Tm.Af t;have hlen:=zd Tm.full Tm.Ac t.args;have hup:=M0 t.kind dp;have hpl:=NL t.kind dp;have hb:=NC t;by_cases hv:t.kind=1
 .have hti:=hix (t.index,0) (by rw[I5 ht hv];simp);rw[L0 ht hv];generalize t.index=i at hti;simp only at hti;rw[Xg,Pm];have hvi:(vT i).index=i:=rfl;have hu:=O6 (at_+dp) dY _ s 0 (ZB _) dY dY dY hs fun p hp=>by have:=hsi p hp;omega
  have hvc:=E7 (i-1);clear ih hix;by_cases h3:i-dp=at_
  .rw[if_pos h3];have h3':i=at_+dp:=dY
   subst h3';refine M.F Tryz.func191 ?_;(repeat' first|refine M.o1 @hu ?_|refine M.z1 4 ?_|refine M.cs ?_ ?_<;>intro h|refine M.gk ?_|fail);all_goals first
    |rfl
    |(exfalso;simp at h;done)
    |(exfalso;simp at h;omega)
  .rw[if_neg h3];by_cases h4:i-dp>at_
   .rw[if_pos h4];refine M.F Tryz.func191 ?_;(repeat' first|refine M.o0 ?_|refine M.z3 3 5 6 ?_|refine M.cs ?_ ?_<;>intro h|refine M.gk ?_|fail);all_goals first
     |(exfalso;simp at h;omega)
     |skip
    refine M.w1 @hvc ?_
    rfl
   .rw[if_neg h4];refine M.F Tryz.func191 ?_;(repeat' first|refine M.o0 ?_|refine M.z3 3 5 6 ?_|refine M.cs ?_ ?_<;>intro h|refine M.gk ?_|fail);all_goals first
     |(exfalso;simp at h;omega)
     |skip
    refine M.w0 ?_
    rfl
 have he:=Zww (at_:=at_) (b:=dp) (s:=s) hv;refine M.F Tryz.func191 ?_;(repeat' first|refine M.o0 ?_|refine M.z1 2 ?_|refine M.cs ?_ ?_<;>intro h|refine M.gk ?_|fail);all_goals first
  |(exfalso;simp at h;exact hv h)
  |skip
 skip;refine M.rt t.args.length (fun m=>([(1,.i at_),(2,.i dp),(4,.ptr 0 0),(7,.ptr 1 0),(8,.ptr 2 0),(9,.ptr 3 0),(45,.s .tm t.args),(46,.i t.args.length),(47,.i m)],⟨5,[(0,.var t.view),(1,.var s.view),(2,.var [.i 0,.i 0,.i 0,.slice .nil (.t .ty []),.slice .nil (.t .tm [])]),(3,.var [.i t.kind,.i t.index,.i t.ty.kind,.s .ty t.ty.args,.slice (.own 4) (.t .tm ((t.args.take m).map fun x=>x.re (xt at_ s) (up t.kind dp)))]),(4,.row)]⟩))
  (M.W HR) ?_ ?_
 .intro m hm _;have hs2:=zc Tm.full (ZA hm);have hc:=ih t.args[m] (up t.kind dp) dY dY dY dY (ze ht _ (ZA hm)) (fun p hp=>by
   obtain⟨q,hq,hqe⟩:=Sg (b':=up t.kind 0) p hp;have:=hix q (M6 hv (ZA hm) hq);rw[<-hqe];exact this)
  rw[<-hpl] at hc;simp only[<-hpl];refine M.w2 @hb @hc ?_;exact⟨rfl,trivial,(M.W [some 0,some 1,some 2,some 3,some 6] (he:=(by(repeat'(first|exact trivial|exact Or.inr ⟨_,U,rfl⟩|refine And.intro ?_ ?_|refine⟨_,U,_,U,_,U,?_⟩|exact Ai.refl _|exact Ai.of_eq eL));done)))⟩
 .exact mO
theorem RN{t:Tm}(h:t.near=true):∀q∈t.vars 0,q.1<=536870912:=fun q hq=>by simpa using List.all_eq_true.1 h q hq
theorem Zwi:∀(n:Nat) (f:Fm) (at_:Int),f.full<=n->n<274877906944->-274877906944<=at_->at_+n<549755813888->f.shape=true->PC E 281 [.agg f.view,.i at_] (.i (xq at_ f)):=by
 intro n;induction n with
 |zero=>intro f at_ h;have:=f.Ac;omega
 |succ n ih=>
 intro f at_ hsz hn h1 h2 hs;have hsz':=f.Af;have hlen:=zd Fm.full Fm.Ac f.args;have hlen2:=zd Tm.full Tm.Ac f.terms;have he:=We (at_:=at_) hs;have hup:=Mh f.kind at_;have hpl:=Oo f.kind at_;have hb:=Nz f;have hle1:∀m,((f.terms.take m).map (xd at_)).sum<=(f.terms.map Tm.full).sum:=fun m=>by
  have a1:=zl Tm.full f.terms m;have a2:=xh (f:=xd at_) (g:=Tm.full) (f.terms.take m) fun x _=>ay (MM x _) x.Ah;omega
 have hle2:∀m,((f.args.take m).map (xq (AR f.kind at_))).sum<=(f.args.map Fm.full).sum:=fun m=>by
  have a1:=zl Fm.full f.args m;have a2:=xh (f:=xq (AR f.kind at_)) (g:=Fm.full) (f.args.take m) fun x _=>ay (Rw _ x) x.Ah;omega
 refine M.F Tryz.func281 ?_;refine M.w0 ?_;refine M.rt f.terms.length
  (fun m=>([(1,.i at_),(2,.ptr 0 0),(5,.i (((f.terms.take m).map (xd at_)).sum:Nat)),(11,.s .tm f.terms),(12,.i f.terms.length),(13,.i m)],⟨1,[(0,.var f.view)]⟩))
  (M.W Ay) ?_ ?_
 .intro m hm _;have hs1:=yq (xd at_) f.terms m hm;have hs2:=zc Tm.full (ZA hm);have hs3:=hle1 m;have hs4:=MM f.terms[m] at_;have hs5:=f.terms[m].Ah;have hc:=TC _ f.terms[m] at_ (ZB _) dY dY dY (yh hs (ZA hm));refine M.w1 @hc ?_;refine⟨rfl,trivial,?_⟩;simp only[hs1];exact(M.W Ay)
 .intro _;have hs6:=hle1 f.terms.length;simp only[ZF] at hs6 ⊢;refine M.w0 ?_;refine M.rt f.args.length
   (fun m=>([(1,.i at_),(2,.ptr 0 0),(5,.i ((f.terms.map (xd at_)).sum+((f.args.take m).map (xq (AR f.kind at_))).sum:Nat)),(24,.s .fm f.args),(25,.i f.args.length),(26,.i m)],⟨1,[(0,.var f.view)]⟩))
   (M.W Ay) ?_ ?_
  .intro m hm _;have hs1:=yq (xq (AR f.kind at_)) f.args m hm;have hs2:=zc Fm.full (ZA hm);have hs3:=hle2 m;have hs4:=Rw (AR f.kind at_) f.args[m];have hs5:=f.args[m].Ah;have hc:=ih f.args[m] (AR f.kind at_) dY dY dY dY (zv hs (ZA hm));rw[<-hpl] at hc hs1 hs3 hs4;simp only[<-hpl];refine M.w2 @hb @hc ?_;refine⟨rfl,trivial,?_⟩;simp only[hs1];exact(M.W Ay (hf:=(by(repeat'(first|exact trivial|refine And.intro ?_ ?_|refine⟨_,U,_,U,?_⟩|exact Ai.refl _|exact Ai.of_eq fD));done)))
  .exact mK
theorem VI(most:Int)(h0:0<=most):∀(n:Nat) (f:Fm),f.full<=n->n<549755813888->f.shape=true->PC E 174 [.agg f.view,.i most] (.bool (Hp most f)):=by
 intro n;induction n with
 |zero=>intro f h;have:=f.Ac;omega
 |succ n ih=>
 intro f hsz hn hs;have hsz':=f.Af;have hlen:=zd Fm.full Fm.Ac f.args;have hlen2:=zd Tm.full Tm.Ac f.terms;have he:=Zwq most f;refine M.F Tryz.func174 ?_;refine M.w0 ?_;refine M.rp f.terms.length (fun m=>∀j (hj:j<f.terms.length),j<m->wm most f.terms[j]=true)
  (fun m=>([(1,.i most),(2,.ptr 0 0),(10,.s .tm f.terms),(11,.i f.terms.length),(12,.i m)],⟨1,[(0,.var f.view)]⟩))
  (fun j hj h=>dY) (M.W Ay) ?_ ?_
 .intro m hm hP;have hs2:=zc Tm.full (ZA hm);have hc:=Mu most h0 _ f.terms[m] (ZB _) dY (yh hs (ZA hm));(repeat' first|refine M.w1 @hc ?_|refine M.cs ?_ ?_<;>intro h|fail)
  .have hx:wm most f.terms[m]=false:=ek
   rw[he,wb (wm most) hm hx];rfl
  .have hx:wm most f.terms[m]=true:=ek
   exact⟨rfl,ya (p:=fun t=>wm most t=true) hm hP hx,(M.W Ay)⟩
 .intro hP;rw[un (wm most) f.terms fun j hj=>hP j hj hj,aH] at he;refine M.w0 ?_;refine M.rp f.args.length (fun m=>∀j (hj:j<f.args.length),j<m->Hp most f.args[j]=true)
   (fun m=>([(1,.i most),(2,.ptr 0 0),(22,.s .fm f.args),(23,.i f.args.length),(24,.i m)],⟨1,[(0,.var f.view)]⟩))
   (fun j hj h=>dY) (M.W Ay) ?_ ?_
  .intro m hm hP;have hs2:=zc Fm.full (ZA hm);have hc:=ih f.args[m] dY dY (zv hs (ZA hm));(repeat' first|refine M.w1 @hc ?_|refine M.cs ?_ ?_<;>intro h|fail)
   .have hx:Hp most f.args[m]=false:=ek
    rw[he,wb (Hp most) hm hx];rfl
   .have hx:Hp most f.args[m]=true:=ek
    exact⟨rfl,ya (p:=fun t=>Hp most t=true) hm hP hx,(M.W Ay)⟩
  .intro hP;rw[he,un (Hp most) f.args fun j hj=>hP j hj hj];refine M.w0 ?_
   rfl
theorem Tp:∀(b:Nat) (t:Ty) (most:Int),t.size<=b->-1000<=most/\most<=1000000000->PC E 131 [.agg t.view,.i most] (.i (t.cn most)):=by
 intro b;induction b with
 |zero=>intro t most h;have:=t.size_pos;omega
 |succ b ih=>
 intro t most hsz hm;have hsz':=t.size_eq;have he:=Ty.Dc most t;have hbd:=t.BX most;refine M.F Tryz.func131 ?_;refine M.w0 ?_;refine AW.block (AW.upto t.args.length (fun i=>(i:Int)<Ty.AD most 1 (t.args.take i)/\(Ty.AD most 1 (t.args.take i)<=1\/Ty.AD most 1 (t.args.take i)<=most+1))
  (fun i=>([(1,.i most),(2,.ptr 0 0),(5,.i (Ty.AD most 1 (t.args.take i))),(6,.i i)],⟨1,[(0,.var t.view)]⟩))
  ⟨by simp[Ty.AD],.inl (by simp[Ty.AD])⟩ (M.W Ay) fun i hi hP=> ?_)
 obtain⟨p1,p2⟩:=hP;by_cases hlt:i<t.args.length
 .by_cases hle:Ty.AD most 1 (t.args.take i)<=most
  .have htk:=Ty.B5 hlt hle;have hs2:=zc Ty.size (ZA hlt);have hx:=t.args[i].BX (most-Ty.AD most 1 (t.args.take i));have hc:=ih t.args[i] (most-Ty.AD most 1 (t.args.take i)) dY dY;(repeat' first|refine M.o0 ?_|refine M.gs ?_ ?_<;>intro h|refine M.z1 5 ?_|refine M.cs ?_ ?_<;>intro h|refine M.gk ?_|fail);all_goals first
    |(exfalso;simp at h;omega)
    |(exfalso;simp at*;omega)
    |skip
   refine K.sq (AW.block ?_);refine M.w1 @hc ?_;refine⟨hlt,(show((i+1:Nat):Int)<Ty.AD most 1 (t.args.take (i+1))/\(Ty.AD most 1 (t.args.take (i+1))<=1\/Ty.AD most 1 (t.args.take (i+1))<=most+1) by omega),?_⟩;simp only[htk];exact(M.W Ay)
  .have e:=Ty.Cj hle;(repeat' first|refine M.o0 ?_|refine M.gs ?_ ?_<;>intro h|refine M.z1 5 ?_|refine M.cs ?_ ?_<;>intro h|refine M.gk ?_|fail);all_goals first|exfalso;simp at*;omega|(rw[he,e];rfl)
 .exact kQ
theorem Q6:∀(b:Nat) (t:Tm) (most:Int),t.full<=b->-100<=most/\most<=1000000000->PC E 41 [.agg t.view,.i most] (.i (t.cn most)):=by
 intro b;induction b with
 |zero=>intro t most h;have:=t.Ac;omega
 |succ b ih=>
 intro t most hsz hm;have hsz':=t.Af;have he:=Tm.Dc most t;have hbt:=t.ty.BX (most-1);have h1:=Tp _ t.ty (most-1) (ZB _) dY;refine M.F Tryz.func41 ?_;refine M.w1 @h1 ?_;generalize hn0:1+t.ty.cn (most-1)=n0 at*;have hn1:2<=n0/\(n0<=2\/n0<=most+1):=dY
 clear hbt h1 hn0;refine AW.block (AW.upto t.args.length (fun i=>(i:Int)<Tm.AD most n0 (t.args.take i)/\(Tm.AD most n0 (t.args.take i)<=2\/Tm.AD most n0 (t.args.take i)<=most+2))
  (fun i=>([(1,.i most),(2,.ptr 0 0),(5,.i (Tm.AD most n0 (t.args.take i))),(6,.i i)],⟨1,[(0,.var t.view)]⟩))
  ⟨gq,gq⟩ (M.W Ay) fun i hi hP=> ?_)
 obtain⟨p1,p2⟩:=hP;by_cases hlt:i<t.args.length
 .by_cases hle:Tm.AD most n0 (t.args.take i)<=most
  .have htk:=Tm.B5 hlt hle;have hs2:=zc Tm.full (ZA hlt);have hx:=t.args[i].BX (most-Tm.AD most n0 (t.args.take i));have hc:=ih t.args[i] (most-Tm.AD most n0 (t.args.take i)) dY dY;(repeat' first|refine M.o0 ?_|refine M.gs ?_ ?_<;>intro h|refine M.z1 5 ?_|refine M.cs ?_ ?_<;>intro h|refine M.gk ?_|fail);all_goals first
    |(exfalso;simp at h;omega)
    |(exfalso;simp at*;omega)
    |skip
   refine K.sq (AW.block ?_);refine M.w1 @hc ?_;refine⟨hlt,(show((i+1:Nat):Int)<Tm.AD most n0 (t.args.take (i+1))/\(Tm.AD most n0 (t.args.take (i+1))<=2\/Tm.AD most n0 (t.args.take (i+1))<=most+2) by omega),?_⟩;simp only[htk];exact(M.W Ay)
  .have e:=Tm.Cj hle;(repeat' first|refine M.o0 ?_|refine M.gs ?_ ?_<;>intro h|refine M.z1 5 ?_|refine M.cs ?_ ?_<;>intro h|refine M.gk ?_|fail);all_goals first|exfalso;simp at*;omega|(rw[he,e];rfl)
 .exact kQ
theorem Yg0:∀(b:Nat) (t:Fm) (most:Int),t.full<=b->-100<=most/\most<=1000000000->PC E 132 [.agg t.view,.i most] (.i (t.cn most)):=by
 intro b;induction b with
 |zero=>intro t most h;have:=t.Ac;omega
 |succ b ih=>
 intro t most hsz hm;have hsz':=t.Af;have he:=Fm.Dc most t;have hbt:=t.ty.BX (most-1);have h1:=Tp _ t.ty (most-1) (ZB _) dY;refine M.F Tryz.func132 ?_;refine M.w1 @h1 ?_;generalize hn0:1+t.ty.cn (most-1)=n0 at*;have hn1:2<=n0/\(n0<=2\/n0<=most+1):=dY
 have hall:=Tm.EF most t.terms n0;clear hbt h1 hn0;refine AW.GA (ι:=Unit) (fun _=>([(1,.i most),(2,.ptr 0 0),(5,.i (Tm.AD most n0 t.terms))],⟨1,[(0,.var t.view)]⟩)) ?_ ?_
 .exact j3
 intro _;generalize Tm.AD most n0 t.terms=n1 at*;have hn2:2<=n1/\(n1<=2\/n1<=most+2):=dY
 clear hall hn1;refine M.w0 ?_;refine AW.block (AW.upto t.args.length (fun i=>(i:Int)<Fm.AD most n1 (t.args.take i)/\(Fm.AD most n1 (t.args.take i)<=2\/Fm.AD most n1 (t.args.take i)<=most+2))
  (fun i=>([(1,.i most),(2,.ptr 0 0),(5,.i (Fm.AD most n1 (t.args.take i))),(7,.i i)],⟨1,[(0,.var t.view)]⟩))
  ⟨ir,ir⟩ (M.W Ay) fun i hi hP=> ?_)
 obtain⟨p1,p2⟩:=hP;by_cases hlt:i<t.args.length
 .by_cases hle:Fm.AD most n1 (t.args.take i)<=most
  .have htk:=Fm.B5 hlt hle;have hs2:=zc Fm.full (ZA hlt);have hx:=t.args[i].BX (most-Fm.AD most n1 (t.args.take i));have hc:=ih t.args[i] (most-Fm.AD most n1 (t.args.take i)) dY dY;(repeat' first|refine M.o0 ?_|refine M.gs ?_ ?_<;>intro h|refine M.z1 9 ?_|refine M.cs ?_ ?_<;>intro h|refine M.gk ?_|fail);all_goals first
    |(exfalso;simp at h;omega)
    |(exfalso;simp at*;omega)
    |skip
   refine K.sq (AW.block ?_);refine M.w1 @hc ?_;refine⟨hlt,(show((i+1:Nat):Int)<Fm.AD most n1 (t.args.take (i+1))/\(Fm.AD most n1 (t.args.take (i+1))<=2\/Fm.AD most n1 (t.args.take (i+1))<=most+2) by omega),?_⟩;simp only[htk];exact(M.W Ay)
  .have e:=Fm.Cj hle;(repeat' first|refine M.o0 ?_|refine M.gs ?_ ?_<;>intro h|refine M.z1 9 ?_|refine M.cs ?_ ?_<;>intro h|refine M.gk ?_|fail);all_goals first|exfalso;simp at*;omega|(rw[he,e];rfl)
 .have e:t.args.take i=t.args:=aC dY;rw[e];(repeat' first|refine M.o0 ?_|refine M.gs ?_ ?_<;>intro h|refine M.z1 9 ?_|refine M.cs ?_ ?_<;>intro h|refine M.gk ?_|fail);all_goals first|exfalso;simp at*;omega|(rw[he];rfl)
theorem Yi0(t:Tm)(hs:t.shape=true):PC E 290 [.agg t.view] (.bool (uo t)):=by
 by_cases k3:t.kind=3
 .obtain ⟨i,th,f,a,rfl,hf,ha⟩:=NY hs k3 rfl;refine M.F Tryz.func290 ?_;refine M.v0 ?_
  rfl
 .by_cases k6:t.kind=6
  .obtain ⟨i,th,x,y,z,rfl,_,_,_⟩:=OR hs k6 rfl;by_cases h4:z.kind=4
   .have e:uo (.mk 6 i th [x,y,z])=true:=hO
    rw[e];refine M.F Tryz.func290 ?_;(repeat' first|refine M.w0 ?_|refine M.gs ?_ ?_<;>intro h|refine M.bl ?_|fail);all_goals first
     |rfl
     |(exfalso;simp_all;done)
   .have e:uo (.mk 6 i th [x,y,z])=(z.kind==5):=hO
    rw[e];refine M.F Tryz.func290 ?_;(repeat' first|refine M.w0 ?_|refine M.gs ?_ ?_<;>intro h|refine M.bl ?_|fail);all_goals first
     |rfl
     |(exfalso;simp_all;done)
  .by_cases k9:t.kind=9
   .obtain ⟨i,th,x,y,z,rfl,_,_,_⟩:=OR hs k9 rfl;by_cases h4:z.kind=7
    .have e:uo (.mk 9 i th [x,y,z])=true:=hO
     rw[e];refine M.F Tryz.func290 ?_;(repeat' first|refine M.w0 ?_|refine M.gs ?_ ?_<;>intro h|refine M.bl ?_|fail);all_goals first
      |rfl
      |(exfalso;simp_all;done)
    .have e:uo (.mk 9 i th [x,y,z])=(z.kind==8):=hO
     rw[e];refine M.F Tryz.func290 ?_;(repeat' first|refine M.w0 ?_|refine M.gs ?_ ?_<;>intro h|refine M.bl ?_|fail);all_goals first
      |rfl
      |(exfalso;simp_all;done)
   .by_cases k11:t.kind=11
    .obtain ⟨i,th,x,rfl,_⟩:=KA hs k11 rfl;refine M.F Tryz.func290 ?_;refine M.v0 ?_
     rfl
    .by_cases k12:t.kind=12
     .obtain ⟨i,th,x,rfl,_⟩:=KA hs k12 rfl;refine M.F Tryz.func290 ?_;refine M.v0 ?_
      rfl
     .have e:uo t=false:=by simp[uo,k3,k6,k9,k11,k12]
      rw[e];have b3:¬(t.kind==3)=true:=by simpa using k3
      have b6:¬(t.kind==6)=true:=by simpa using k6
      have b9:¬(t.kind==9)=true:=by simpa using k9
      have b11:¬(t.kind==11)=true:=by simpa using k11
      have b12:¬(t.kind==12)=true:=by simpa using k12
      refine M.F Tryz.func290 ?_;(repeat' first|refine M.w0 ?_|refine M.gs ?_ ?_<;>intro h|refine M.bl ?_|refine M.cs ?_ ?_<;>intro h|fail);all_goals first
       |rfl
       |contradiction
theorem Ygp{t x:Tm}(hv:RV t x)(hs:t.shape=true)(hz:t.size<=4096):PC E 291 [.agg t.view] (.i (GY t)):=by
 have hfull:=yv t hs;have h0:=yu _ t (ZB _) dY;cases hv with
 |beta i th j s b a=>
  have hb:b.shape=true:=ze (ze hs (.mk 2 j s [b]) dZ) b dZ;have ha:a.shape=true:=ze hs a dZ;have hsz:(Tm.mk 3 i th [Tm.mk 2 j s [b],a]).size=2+b.size+a.size:=gi
  have fb:=yv b hb;have fa:=yv a ha;have h1:=yu _ b (ZB _) dY;have h2:=TC _ b 0 (ZB _) dY dY dY hb;have h3:=yu _ a (ZB _) dY;have htl:=MM b 0;have hap:=a.size_pos;have hm:=V9 (xd 0 b) (a.size-1) dY dY;have hm': -9223372036854775808<=(xd 0 b:Int)*(a.size-1)/\(xd 0 b:Int)*(a.size-1)<=9223372036854775807:=dY
  have e:GY (Tm.mk 3 i th [Tm.mk 2 j s [b],a])=b.size+xd 0 b*(a.size-1)-(Tm.mk 3 i th [Tm.mk 2 j s [b],a]).size:=by
   have hc:=Ta b 0 0 hb;rw[bD] at hc;show((b.re (xt 0 a) 0).size:Int)-_=_;rw[NX 0 a b ha 0 hb,hc];congr 1;rw[aA,Int.natCast_mul];congr 2;omega
  rw[e];clear e;refine M.F Tryz.func291 ?_;refine M.v4 @h0 @h1 @h2 @h3 ?_
  rfl
 |rz i th _ f j s=>
  have h1:=yu _ x (ZB _) (by have:=yv x (ze hs x dZ);have:=zc Tm.size (l:=[x,f,Tm.mk 4 j s []]) (t:=x) dZ;have:=Tm.size_eq (Tm.mk 6 i th [x,f,Tm.mk 4 j s []]);simp only[Tm.Ag] at this;omega);have e:(x.size:Int)<=4096:=by have:=zc Tm.size (l:=[x,f,Tm.mk 4 j s []]) (t:=x) dZ;have:=Tm.size_eq (Tm.mk 6 i th [x,f,Tm.mk 4 j s []]);simp only[Tm.Ag] at this;omega
  have e2:GY (Tm.mk 6 i th [x,f,Tm.mk 4 j s []])=x.size-(Tm.mk 6 i th [x,f,Tm.mk 4 j s []]).size:=rfl;rw[e2];refine M.F Tryz.func291 ?_;refine M.v2 @h0 @h1 ?_
  rfl
 |fz i th _ f j s=>
  have h1:=yu _ x (ZB _) (by have:=yv x (ze hs x dZ);have:=zc Tm.size (l:=[x,f,Tm.mk 7 j s []]) (t:=x) dZ;have:=Tm.size_eq (Tm.mk 9 i th [x,f,Tm.mk 7 j s []]);simp only[Tm.Ag] at this;omega);have e:(x.size:Int)<=4096:=by have:=zc Tm.size (l:=[x,f,Tm.mk 7 j s []]) (t:=x) dZ;have:=Tm.size_eq (Tm.mk 9 i th [x,f,Tm.mk 7 j s []]);simp only[Tm.Ag] at this;omega
  have e2:GY (Tm.mk 9 i th [x,f,Tm.mk 7 j s []])=x.size-(Tm.mk 9 i th [x,f,Tm.mk 7 j s []]).size:=rfl;rw[e2];refine M.F Tryz.func291 ?_;refine M.v2 @h0 @h1 ?_
  rfl
 |rs i th x f j s n=>
  have hn:n.shape=true:=ze (ze hs (.mk 5 j s [n]) dZ) n dZ;have hsz:(Tm.mk 6 i th [x,f,Tm.mk 5 j s [n]]).size=2+x.size+f.size+n.size:=gi
  have h1:=yu _ f (ZB _) (by have:=yv f (ze hs f dZ);omega);have h2:=yu _ n (ZB _) (by have:=yv n hn;omega);have e2:GY (Tm.mk 6 i th [x,f,Tm.mk 5 j s [n]])=2+f.size+n.size+(Tm.mk 6 i th [x,f,Tm.mk 5 j s [n]]).size-1-(Tm.mk 6 i th [x,f,Tm.mk 5 j s [n]]).size:=by
   show((Bd (Bd f n) (.mk 6 0 th [x,f,n])).size:Int)-_=_;simp[Bd,Tm.size,Tm.sizes];omega
  rw[e2];clear e2;refine M.F Tryz.func291 ?_;refine M.v3 @h0 @h1 @h2 ?_
  rfl
 |fs i th x f j s n l=>
  have hn:n.shape=true:=ze (ze hs (.mk 8 j s [n,l]) dZ) n dZ;have hl:l.shape=true:=ze (ze hs (.mk 8 j s [n,l]) dZ) l dZ;have hsz:(Tm.mk 9 i th [x,f,Tm.mk 8 j s [n,l]]).size=2+x.size+f.size+n.size+l.size:=gi
  have h1:=yu _ f (ZB _) (by have:=yv f (ze hs f dZ);omega);have h2:=yu _ n (ZB _) (by have:=yv n hn;omega);have h3:=yu _ l (ZB _) (by have:=yv l hl;omega);have e2:GY (Tm.mk 9 i th [x,f,Tm.mk 8 j s [n,l]])=3+f.size+n.size+l.size+(Tm.mk 9 i th [x,f,Tm.mk 8 j s [n,l]]).size-1-n.size-(Tm.mk 9 i th [x,f,Tm.mk 8 j s [n,l]]).size:=by
   show((Bd (Bd (Bd f n) l) (.mk 9 0 th [x,f,l])).size:Int)-_=_;simp[Bd,Tm.size,Tm.sizes];omega
  rw[e2];clear e2;refine M.F Tryz.func291 ?_;refine M.v4 @h0 @h1 @h2 @h3 ?_
  rfl
 |p1 i th j s _ y=>
  have hsz:(Tm.mk 11 i th [Tm.mk 10 j s [x,y]]).size=2+x.size+y.size:=gi
  have hx:x.shape=true:=ze (ze hs (.mk 10 j s [x,y]) dZ) x dZ;have h1:=yu _ x (ZB _) (by have:=yv x hx;omega);have e2:GY (Tm.mk 11 i th [Tm.mk 10 j s [x,y]])=x.size-(Tm.mk 11 i th [Tm.mk 10 j s [x,y]]).size:=rfl;rw[e2];clear e2;refine M.F Tryz.func291 ?_;refine M.v2 @h0 @h1 ?_
  rfl
 |p2 i th j s y _=>
  have hsz:(Tm.mk 12 i th [Tm.mk 10 j s [y,x]]).size=2+x.size+y.size:=gi
  have hx:x.shape=true:=ze (ze hs (.mk 10 j s [y,x]) dZ) x dZ;have h1:=yu _ x (ZB _) (by have:=yv x hx;omega);have e2:GY (Tm.mk 12 i th [Tm.mk 10 j s [y,x]])=x.size-(Tm.mk 12 i th [Tm.mk 10 j s [y,x]]).size:=rfl;rw[e2];clear e2;refine M.F Tryz.func291 ?_;refine M.v2 @h0 @h1 ?_
  rfl
theorem PS{t x:Tm}{B:Int}(hx:x∈t.args)(h:∀p∈t.vars 0,0<=p.1/\p.1<B):∀p∈x.vars 0,0<=p.1/\p.1<B:=by
 intro p hp;have e:=Lp x 0 (up t.kind 0);have hm:(p.1,p.2+up t.kind 0)∈t.vars 0:=by
  rw[Tm.AU];refine aD _ (ZZ.2 ⟨x,hx,?_⟩);rw[cy] at e;rw[e];exact ZQ.2 ⟨p,hp,rfl⟩
 have h3:=h (p.1,p.2+up t.kind 0) hm;exact h3
theorem Yj0{t x:Tm}(hv:RV t x)(hs:t.shape=true)(hz:t.size<=4096)(hix:∀p∈t.vars 0,0<=p.1/\p.1<1073741824):PC E 292 [.agg t.view] (.agg x.view):=by
 have hfull:=yv t hs;cases hv with
 |beta i th j s b a=>
  have hb:b.shape=true:=ze (ze hs (.mk 2 j s [b]) dZ) b dZ;have ha:a.shape=true:=ze hs a dZ;have hsz:(Tm.mk 3 i th [Tm.mk 2 j s [b],a]).size=2+b.size+a.size:=gi
  have fb:=yv b hb;have fa:=yv a ha;have hia:=PS (t:=Tm.mk 3 i th [Tm.mk 2 j s [b],a]) (x:=a) dZ hix;have hib:=PS (t:=Tm.mk 2 j s [b]) (x:=b) dZ (PS (t:=Tm.mk 3 i th [Tm.mk 2 j s [b],a]) (x:=Tm.mk 2 j s [b]) dZ hix);have h1:=Sa 0 a dY ha dY (fun p hp=>by have:=hia p hp;omega) _ b 0 (ZB _) dY dY dY hb (fun p hp=>by have:=hib p hp;omega);refine M.F Tryz.func292 ?_;refine M.v1 @h1 ?_
  rfl
 |rz i th _ f j s=>
  exact l5
 |fz i th _ f j s=>
  exact l5
 |rs i th x f j s n=>
  have hff:(Tm.mk 6 i th [x,f,Tm.mk 5 j s [n]]).full=2+th.size+s.size+x.full+f.full+n.full:=by simp[Tm.full,Tm.Av];omega
  have h1:=Dh 3 [f,n] eB;have h2:=GX 6 th [x,f,n] eB dY;have h3:=Dh 3 [Bd f n,.mk 6 0 th [x,f,n]] iQ;refine M.F Tryz.func292 ?_;refine M.v3 @h1 @h2 @h3 ?_
  rfl
 |fs i th x f j s n l=>
  have hff:(Tm.mk 9 i th [x,f,Tm.mk 8 j s [n,l]]).full=2+th.size+s.size+x.full+f.full+n.full+l.full:=by simp[Tm.full,Tm.Av];omega
  have h1:=Dh 3 [f,n] eB;have h2:=Dh 3 [Bd f n,l] iQ;have h3:=GX 9 th [x,f,l] eB dY;have h4:=Dh 3 [Bd (Bd f n) l,.mk 9 0 th [x,f,l]] iQ;refine M.F Tryz.func292 ?_;refine M.v4 @h1 @h2 @h3 @h4 ?_
  rfl
 |p1 i th j s _ y=>
  exact l5
 |p2 i th j s y _=>
  exact l5
def Kn(t:Tm)(o:Option (Tm×Bool)):V:= .AM [.agg ((o.map (·.1)).getD t).view,.bool o.isSome,.bool ((o.map (·.2)).getD true)]
theorem Ye7(room:Int):∀(n:Nat) (t:Tm),t.size<=n->t.shape=true->t.size<=4096->(∀p∈t.vars 0,0<=p.1/\p.1<1073741824)->PC E 282 [.agg t.view,.i room] (Kn t (DX room t)):=by
 intro n;induction n with
 |zero=>intro t h;have:=t.size_pos;omega
 |succ n ih=>
 intro t hsz hs hz hix;have hfull:=yv t hs;have hse:=t.size_eq;have hlen:=zd Tm.size Tm.size_pos t.args;have h1:=Yi0 t hs;have he:=HO room t;by_cases hr:uo t=true
 .have h2:=Ygp (Mq hs hr) hs hz;rw[hr] at h1;rw[if_pos hr] at he;by_cases hg:GY t>room
  .rw[if_pos hg] at he;rw[he];refine AC.mk Tryz.func282 rfl rfl rfl rfl rfl (ZP rfl) ?_;repeat'(first|((with_reducible refine D.nil ?_);refine AX.BO ?_)|((with_reducible refine D.load ?_);refine L.Ez U U U U U U ?_)|((with_reducible refine D.move ?_);refine L.mv U U U ?_)|((with_reducible refine D.assign ?_);refine L.EW U U U ?_)|((with_reducible refine D.bin ?_);refine L.bn U U U U U ?_)|((with_reducible refine D.call ?_);first|refine L.c2 (h1) U U U U ?_|refine L.c2 (h2) U U U U ?_)|((with_reducible refine D.box ?_);refine L.bx U U U U ?_)|((with_reducible refine D.alloc ?_);refine L.al U U U ?_)|((with_reducible refine D.store ?_);refine L.st U U U U U U U U U ?_)|((with_reducible refine D.ax ?_);refine L.bd U U U U U ?_)|((with_reducible refine D.aw ?_);first|refine K.sq (AW.AP ?_)|refine K.sq (K.sq ?_)|refine AW.AP ?_|refine AW.Ct U ?_|refine AW.E6 U (fun h=> ?_) (fun h=> ?_)|refine AW.skip ?_|refine AW.ret ?_)|with_reducible refine K.tN ?_|with_reducible refine K.tR ?_|with_reducible refine K.r1 eF eF ?_)
   all_goals first
    |rfl
    |(exfalso;simp at h;omega)
  .rw[if_neg hg] at he;rw[he];have h3:=Yj0 (Mq hs hr) hs hz hix;refine AC.mk Tryz.func282 rfl rfl rfl rfl rfl (ZP rfl) ?_;repeat'(first|((with_reducible refine D.nil ?_);refine AX.BO ?_)|((with_reducible refine D.load ?_);refine L.Ez U U U U U U ?_)|((with_reducible refine D.move ?_);refine L.mv U U U ?_)|((with_reducible refine D.assign ?_);refine L.EW U U U ?_)|((with_reducible refine D.bin ?_);refine L.bn U U U U U ?_)|((with_reducible refine D.call ?_);first|refine L.c2 (h1) U U U U ?_|refine L.c2 (h2) U U U U ?_|refine L.c2 (h3) U U U U ?_)|((with_reducible refine D.box ?_);refine L.bx U U U U ?_)|((with_reducible refine D.alloc ?_);refine L.al U U U ?_)|((with_reducible refine D.store ?_);refine L.st U U U U U U U U U ?_)|((with_reducible refine D.ax ?_);refine L.bd U U U U U ?_)|((with_reducible refine D.aw ?_);first|refine K.sq (AW.AP ?_)|refine K.sq (K.sq ?_)|refine AW.AP ?_|refine AW.Ct U ?_|refine AW.E6 U (fun h=> ?_) (fun h=> ?_)|refine AW.skip ?_|refine AW.ret ?_)|with_reducible refine K.tN ?_|with_reducible refine K.tR ?_|with_reducible refine K.r1 eF eF ?_)
   all_goals first
    |rfl
    |(exfalso;simp at h;omega)
 rw[if_neg hr] at he;rw[Bool.not_eq_true] at hr;rw[hr] at h1;have hih:∀m (hm:m<t.args.length),PC E 282 [.agg t.args[m].view,.i room] (Kn t.args[m] (DX room t.args[m])):=fun m hm=>by
  have h5:=zc Tm.size (ZA hm);exact ih t.args[m] dY (ze hs _ (ZA hm)) dY (PS (ZA hm) hix)
 clear ih;refine AC.mk Tryz.func282 rfl rfl rfl rfl rfl (ZP rfl) ?_;repeat'(first|((with_reducible refine D.nil ?_);refine AX.BO ?_)|((with_reducible refine D.load ?_);refine L.Ez U U U U U U ?_)|((with_reducible refine D.move ?_);refine L.mv U U U ?_)|((with_reducible refine D.fieldAddr ?_);refine L.G0 U U U U U ?_)|((with_reducible refine D.assign ?_);refine L.EW U U U ?_)|((with_reducible refine D.call ?_);first|refine L.Qc U U U U ?_|refine L.c2 (h1) U U U U ?_)|((with_reducible refine D.box ?_);refine L.bx U U U U ?_)|((with_reducible refine D.alloc ?_);refine L.al U U U ?_)|((with_reducible refine D.aw ?_);first|refine K.sq (AW.AP ?_)|refine K.sq (K.sq ?_)|refine AW.AP ?_|refine AW.Cu U ?_|refine AW.skip ?_)|with_reducible refine K.tN ?_)
 refine M.rp t.args.length (fun m=>∀j (hj:j<t.args.length),j<m->DX room t.args[j]=none)
  (fun m=>([(1,.i room),(2,.ptr 0 0),(4,.ptr 1 0),(23,.s .tm t.args),(24,.i t.args.length),(25,.i m)],⟨2,[(0,.var t.view),(1,.var [.i 0,.i 0,.i 0,.slice .nil (.t .ty []),.slice .nil (.t .tm [])])]⟩))
  (fun j hj h=>dY) (Bc.mk AQ _ _ _ U U U U (by(repeat'(first|exact trivial|refine And.intro ?_ ?_|refine⟨_,U,_,U,?_⟩|exact Ai.refl _));done) (by(repeat'(first|exact trivial|refine And.intro ?_ ?_|refine⟨_,U,_,U,_,U,?_⟩|exact Ai.refl _));done)) ?_ ?_
 .intro m hm hP;have hc:=hih m hm;cases hn:DX room t.args[m] with
  |none=>
   rw[hn] at hc;simp only[Kn,cD,dB,cZ] at hc;repeat'(first|((with_reducible refine D.nil ?_);refine AX.BO ?_)|((with_reducible refine D.load ?_);first|refine L.Ez U U U U U U ?_|refine L.Qf U U U U U ?_)|((with_reducible refine D.move ?_);refine L.mv U U U ?_)|((with_reducible refine D.assign ?_);refine L.EW U U U ?_)|((with_reducible refine D.call ?_);refine L.c2 (hc) U U U U ?_)|((with_reducible refine D.extract ?_);refine L.ex U U U U ?_)|((with_reducible refine D.alloc ?_);refine L.al U U U ?_)|((with_reducible refine D.store ?_);refine L.st U U U U U U U U U ?_)|((with_reducible refine D.indexAddr ?_);refine L.F3 _ U U U U U U U (by first|assumption|fail) ?_)|((with_reducible refine D.not ?_);refine L.nt U U U ?_)|((with_reducible refine D.aw ?_);first|refine K.sq (AW.AP ?_)|refine K.sq (K.sq ?_)|refine AW.AP ?_|refine AW.Ct U ?_|refine AW.exit ?_)|with_reducible refine K.tN ?_|with_reducible refine K.tE ?_|with_reducible refine K.bX eF ?_)
   exact⟨rfl,ya (p:=fun x:Tm=>DX room x=none) hm hP hn,(Bc.mk AQ _ _ _ U U U U (by(repeat'(first|exact trivial|refine And.intro ?_ ?_|refine⟨_,U,_,U,?_⟩|exact Ai.refl _));done) (by(repeat'(first|exact trivial|refine And.intro ?_ ?_|refine⟨_,U,_,U,_,U,?_⟩|exact Ai.refl _));done))⟩
  |some u=>
   obtain⟨u,f⟩:=u;rw[hn] at hc;simp only[Kn,ak,aQ,an] at hc;have e:DX room t=some (.mk t.kind t.index t.ty (t.args.set m u),f):=by rw[he,WK room t.args m hm (u,f) hn hP];rfl
   rw[e];simp only[Kn,ak,aQ,an];repeat'(first|((with_reducible refine D.nil ?_);refine AX.BO ?_)|((with_reducible refine D.load ?_);first|refine L.Ez U U U U U U ?_|refine L.Qf U U U U U ?_)|((with_reducible refine D.move ?_);refine L.mv U U U ?_)|((with_reducible refine D.assign ?_);refine L.EW U U U ?_)|((with_reducible refine D.call ?_);refine L.c2 (hc) U U U U ?_)|((with_reducible refine D.extract ?_);refine L.ex U U U U ?_)|((with_reducible refine D.alloc ?_);refine L.al U U U ?_)|((with_reducible refine D.store ?_);refine L.st U U U U U U U U U ?_)|((with_reducible refine D.indexAddr ?_);refine L.F3 _ U U U U U U U (by first|assumption|fail) ?_)|((with_reducible refine D.not ?_);refine L.nt U U U ?_)|((with_reducible refine D.aw ?_);(fail_if_success with_reducible refine D.H8 (id:=11) ?_);(fail_if_success with_reducible refine D.Ih (id:=11) ?_);first|refine K.sq (AW.AP ?_)|refine K.sq (K.sq ?_)|refine AW.AP ?_|refine AW.Cu U ?_|refine AW.skip ?_)|with_reducible refine K.tN ?_)
   refine K.sq (AW.AP ?_);refine L.G0 rfl rfl rfl rfl rfl ?_;refine L.Ez rfl rfl rfl rfl rfl rfl ?_;refine L.U8 (te:=32) rfl rfl rfl rfl ew rfl rfl rfl rfl dY dY ?_;repeat'(first|((with_reducible refine D.nil ?_);refine AX.BO ?_)|((with_reducible refine D.load ?_);refine L.Ez U U U U U U ?_)|((with_reducible refine D.move ?_);refine L.mv U U U ?_)|((with_reducible refine D.fieldAddr ?_);refine L.G0 U U U U U ?_)|((with_reducible refine D.store ?_);refine L.st U U U U U U U U U ?_)|((with_reducible refine D.aw ?_);refine K.sq (AW.AP ?_))|with_reducible refine K.tN ?_)
   refine L.B7 m rfl rfl rfl rfl rfl hm rfl ?_;refine L.sta (c:= .tm) (l:=t.args) (u:=u) m rfl rfl rfl rfl rfl rfl rfl rfl hm rfl ?_;repeat'(first|((with_reducible refine D.nil ?_);refine AX.BO ?_)|with_reducible refine K.tN ?_)
   refine AW.B1 (c:= .tm) 5 t.args.length (t.args.set m u) rfl dZ (by(repeat'(first|exact trivial|exact fun _=>rfl|exact fun h=>absurd rfl h|exact fun h=>absurd h ej|refine And.intro ?_ ?_|intro _));done) (by(repeat'(first|exact trivial|exact fun _=>rfl|exact fun h=>absurd rfl h|exact fun h=>absurd h ej|refine And.intro ?_ ?_|intro _));done) ?_;repeat'(first|((with_reducible refine D.nil ?_);refine AX.BO ?_)|((with_reducible refine D.load ?_);refine L.Ez U U U U U U ?_)|((with_reducible refine D.move ?_);refine L.mv U U U ?_)|((with_reducible refine D.assign ?_);refine L.EW U U U ?_)|((with_reducible refine D.store ?_);refine L.st U U U U U U U U U ?_)|((with_reducible refine D.aw ?_);first|refine K.sq (AW.AP ?_)|refine AW.ret ?_)|with_reducible refine K.tN ?_|with_reducible refine K.tR ?_|with_reducible refine K.bR ?_|with_reducible refine K.gR ?_|with_reducible refine K.r1 eF eF ?_)
   rfl
 .intro hP;have e:DX room t=none:=by rw[he,WB room t.args hP];rfl
  rw[e];simp only[Kn,cD,dB,cZ];repeat'(first|((with_reducible refine D.nil ?_);refine AX.BO ?_)|((with_reducible refine D.load ?_);refine L.Ez U U U U U U ?_)|((with_reducible refine D.assign ?_);refine L.EW U U U ?_)|((with_reducible refine D.store ?_);refine L.st U U U U U U U U U ?_)|((with_reducible refine D.aw ?_);first|refine K.sq (AW.AP ?_)|refine AW.ret ?_)|with_reducible refine K.tN ?_|with_reducible refine K.r1 eF eF ?_)
  simp[zh,V.wk,V.An,za,Tm.view]
theorem Zs4(t:Tm):∀b:Int,∀p∈t.vars b,p.2<b+t.size:=by
 induction t using Tm.ind with
 |h t ih=>
  intro b p hp;have hz:=t.size_eq;rw[t.AU,ZU] at hp;rcases hp with hp|hp
  .split at hp
   .simp at hp;subst hp;simp only;omega
   .cases hp
  .obtain ⟨x,hx,hp⟩:=ZZ.1 hp;have h1:=ih x hx _ p hp;have h2:=zc Tm.size hx;have:up t.kind b<=b+1:=eP
   omega
theorem Ybc{t:Tm}(he:t.err=0)(hf:∀p∈t.vars 0,p.1-p.2<=536870912):∀p∈t.vars 0,0<=p.1/\p.1<1073741824:=fun p hp=>by
 obtain⟨hs,hz⟩:=uc he;have h1:=t.AJ hs 0 p hp;have h2:=hf p hp;have h3:=Zs4 t 0 p hp;omega
theorem Yam{t:Tm}(h:DX (4096-t.size) t=none)(k n:Nat):EY k t n=(t,(n:Int),0):=by
 cases k<;>simp only[EY,h]
theorem To(t:Tm)(steps:Int)(ht:t.full<274877906944):PC E 268 [.agg t.view,.i steps] (.AM [.agg (wa t steps).1.view,.i (wa t steps).2.1,.i (wa t steps).2.2]):=by
 have h1:=ua t dY;unfold wa;by_cases he:t.err=0;case neg=>
  rw[if_pos he];refine M.F Tryz.func268 ?_;(repeat' first|refine M.o1 @h1 ?_|refine M.z1 4 ?_|refine M.cs ?_ ?_<;>intro h|refine M.gk ?_|fail);all_goals first
   |rfl
   |(exfalso;simp at h;exact he h)
 rw[he] at h1;rw[if_neg fY];obtain⟨hs,hz⟩:=uc he;have h2:=Mu 536870912 dY _ t (ZB _) dY hs;rw[<-PX] at h2;by_cases hst:0<=steps/\steps<=65536;case neg=>
  rw[if_pos (.inl hst)];refine M.F Tryz.func268 ?_;(repeat' first|refine M.w2 @h1 @h2 ?_|refine M.gs ?_ ?_<;>intro h|refine M.cs ?_ ?_<;>intro h|fail);all_goals first
   |rfl
   |(exfalso;simp at h;omega)
   |(exfalso;simp at*;omega)
 cases hn:t.near with
 |false=>
  rw[hn] at h2;rw[if_pos (.inr rfl)];refine M.F Tryz.func268 ?_;(repeat' first|refine M.w2 @h1 @h2 ?_|refine M.gs ?_ ?_<;>intro h|fail);all_goals first
   |rfl
   |(exfalso;simp at h;omega)
   |(exfalso;simp at*;omega)
 |true=>
 rw[hn] at h2;rw[if_neg (by simp[hst])];have hfr:∀p∈t.vars 0,p.1-p.2<=536870912:=fun p hp=>by have:=RN hn p hp;have:=Jj t 0 p hp;omega
 generalize hR:EY steps.toNat t 0=r;refine M.F Tryz.func268 ?_;(repeat' first|refine M.w2 @h1 @h2 ?_|refine M.gs ?_ ?_<;>intro h|fail);all_goals first
  |(exfalso;simp at h;omega)
  |skip
 refine AW.block (AW.loop (ι:={p:Tm×Nat // p.1.err=0/\(∀q∈p.1.vars 0,q.1-q.2<=536870912)/\p.2<=steps.toNat/\EY (steps.toNat-p.2) p.1 p.2=r})
  (fun p=>([(1,.i steps),(2,.ptr 0 0),(4,.ptr 1 0),(8,.i p.1.2)],⟨2,[(0,.var p.1.1.view),(1,.var [.i 0,.i 0,.i 0,.slice .nil (.t .ty []),.slice .nil (.t .tm [])])]⟩)) (fun p=>steps.toNat-p.1.2) ⟨(t,0),he,hfr,bL _,hR⟩ (M.W AQ) ?_)
 rintro⟨⟨x,n⟩,hx,hxf,hxn,hxe⟩;dsimp only at hx hxf hxn hxe ⊢;obtain⟨hxs,hxz⟩:=uc hx;have hfx:=yd hx;have c1:=yu _ x (Nat.le_refl _) dY;have c2:=Ye7 (4096-x.size) _ x (Nat.le_refl _) hxs hxz (Ybc hx hxf);have c3:=IU _ x (Nat.le_refl _) dY;cases hr:DX (4096-x.size) x with
 |none=>
  rw[hr] at c2;simp only[Kn,cD,dB,cZ] at c2;rw[Yam hr] at hxe;subst hxe;(repeat' first|refine M.w3 @c1 @c2 @c3 ?_|refine M.zb ?_|fail)
  rfl
 |some y=>
  obtain⟨y,f⟩:=y;rw[hr] at c2;simp only[Kn,ak,aQ,an] at c2;by_cases hns:n=steps.toNat
  .have e:r=(Da,0,5):=by rw[<-hxe,hns,cw];simp only[EY,hr]
   subst e;(repeat' first|refine M.w2 @c1 @c2 ?_|refine M.zb ?_|refine M.cs ?_ ?_<;>intro h|fail);all_goals first
    |rfl
    |(exfalso;simp at h;omega)
    |(exfalso;simp at*;omega)
  .obtain ⟨k,hk⟩:∃k,steps.toNat-n=k+1:=⟨steps.toNat-n-1,dY⟩;rw[hk] at hxe;cases f with
   |false=>
    have e:r=(Da,0,4):=by rw[<-hxe];simp only[EY,hr]
    subst e;(repeat' first|refine M.w2 @c1 @c2 ?_|refine M.zb ?_|refine M.cs ?_ ?_<;>intro h|fail);all_goals first
     |rfl
     |(exfalso;simp at h;omega)
     |(exfalso;simp at*;omega)
   |true=>
    have e:EY k y (n+1)=r:=by rw[<-hxe];simp only[EY,hr]
    obtain⟨f1,f2,f3⟩:=Ya _ x y hxs hr;(repeat' first|refine M.w2 @c1 @c2 ?_|refine M.zb ?_|refine M.cs ?_ ?_<;>intro h|fail);all_goals first
     |(exfalso;simp at h;omega)
     |skip
    refine⟨⟨(y,n+1),TJ hx hr,f3 _ dY 0 dY hxf,by show n+1<=_;omega,by rw[show steps.toNat-(n+1)=k by omega];exact e⟩,by show steps.toNat-(n+1)<steps.toNat-n;omega,?_⟩;exact(M.W AQ)
theorem Yfm(a b:Tm)(ha:a.full<274877906944)(hb:b.full<274877906944)(steps:Int):PC E 264 [.agg a.view,.agg b.view,.i steps] (.i (IQ a b steps)):=by
 have h1:=ua a dY;have h2:=ua b dY;have h3:=OG _ a b (ZB _) dY;have h4:=To a steps ha;have h5:=To b steps hb;unfold IQ;by_cases ea:a.err=0;case neg=>
  rw[if_pos ea];refine M.F Tryz.func264 ?_;(repeat' first|refine M.w1 @h1 ?_|refine M.cs ?_ ?_<;>intro h|fail);all_goals first
   |rfl
   |(exfalso;simp at h;exact ea h)
 rw[ea] at h1;rw[if_neg (by simp[ea])];by_cases eb:b.err=0;case neg=>
  rw[if_pos eb];refine M.F Tryz.func264 ?_;(repeat' first|refine M.w2 @h1 @h2 ?_|refine M.cs ?_ ?_<;>intro h|fail);all_goals first
   |rfl
   |(exfalso;simp at h;exact eb h)
 rw[eb] at h2;rw[if_neg (by simp[eb])];by_cases eq:a=b
 .rw[if_pos eq];rw[decide_eq_true eq] at h3;refine M.F Tryz.func264 ?_;refine M.w3 @h1 @h2 @h3 ?_
  rfl
 rw[if_neg eq];rw[decide_eq_false eq] at h3;have g1:(wa a steps).2.2=0->(wa a steps).1.full<274877906944:=fun h=>WT a steps h;have g2:(wa b steps).2.2=0->(wa b steps).1.full<274877906944:=fun h=>WT b steps h;generalize wa a steps=A at*;generalize wa b steps=B at*;obtain⟨x,n,e⟩:=A;obtain⟨y,m,f⟩:=B;dsimp only at h4 h5 g1 g2 ⊢;by_cases he:e=0;case neg=>
  rw[if_pos he];refine M.F Tryz.func264 ?_;(repeat' first|refine M.w4 @h1 @h2 @h3 @h4 ?_|refine M.cs ?_ ?_<;>intro h|fail);all_goals first
   |rfl
   |(exfalso;simp at h;exact he h)
 subst he;rw[if_neg dZ];by_cases hf:f=0;case neg=>
  rw[if_pos hf];refine M.F Tryz.func264 ?_;(repeat' first|refine M.w5 @h1 @h2 @h3 @h4 @h5 ?_|refine M.cs ?_ ?_<;>intro h|fail);all_goals first
   |rfl
   |(exfalso;simp at h;exact hf h)
 subst hf;rw[if_neg dZ];have h6:=OG _ x y (ZB _) (by have:=g1 rfl;omega);refine M.F Tryz.func264 ?_;(repeat' first|refine M.w6 @h1 @h2 @h3 @h4 @h5 @h6 ?_|refine M.cs ?_ ?_<;>intro h|fail)
 .have:¬x=y:=ek
  rw[if_neg this]
  rfl
 .have:x=y:=ek
  rw[if_pos this]
  rfl
theorem Zvu:∀(n:Nat) (f g:Fm),f.full<=n->n<274877906944->g.full<274877906944->f.shape=true->g.shape=true->PC E 250 [.agg f.view,.agg g.view] (.i (Ic f g)):=by
 intro n;induction n with
 |zero=>intro f g h;have:=f.Ac;omega
 |succ n ih=>
 intro f g hsz hb hg hfs hgs;have hfull:=Fm.Af f;have hgull:=Fm.Af g;have h1:=xp _ f.ty g.ty (ZB _) dY;have he:=Yjq f g;have hl:=zd Tm.full Tm.Ac f.terms;have hl2:=zd Fm.full Fm.Ac f.args;by_cases hk:f.kind=g.kind;case neg=>
  rw[if_neg (fun h=>hk h.1)] at he;rw[he];refine M.F Tryz.func250 ?_;(repeat' first|refine M.o1 @h1 ?_|refine M.gs ?_ ?_<;>intro h|refine M.z1 3 ?_|refine M.cs ?_ ?_<;>intro h|refine M.gk ?_|fail);all_goals first
   |rfl
   |(exfalso;simp_all;done)
 by_cases ht:f.ty=g.ty;case neg=>
  rw[if_neg (fun h=>ht h.2)] at he;rw[he];rw[decide_eq_false ht] at h1;refine M.F Tryz.func250 ?_;(repeat' first|refine M.o1 @h1 ?_|refine M.gs ?_ ?_<;>intro h|refine M.z1 3 ?_|refine M.gk ?_|fail);all_goals first
   |rfl
   |(exfalso;simp_all;done)
 rw[if_pos ⟨hk,ht⟩] at he;rw[decide_eq_true ht] at h1;obtain⟨l1,l2⟩:=Zun hfs hgs hk;refine M.F Tryz.func250 ?_;(repeat' first|refine M.w1 @h1 ?_|refine M.gs ?_ ?_<;>intro h|fail);all_goals first
  |(exfalso;simp at h;omega)
  |(exfalso;simp at h;exact h hk)
  |skip
 refine M.rp f.terms.length (fun m=>∀j (h1:j<f.terms.length) (h2:j<g.terms.length),j<m->IQ f.terms[j] g.terms[j] 1000=0)
  (fun m=>([(2,.ptr 0 0),(3,.ptr 1 0),(24,.i f.terms.length),(25,.i m)],⟨2,[(0,.var f.view),(1,.var g.view)]⟩))
  (fun j _ _ h=>dY) (M.W AQ) ?_ ?_
 .intro m hm hP;have hm2:m<g.terms.length:=dY
  have hs1:=zc Tm.full (ZA hm);have hs2:=zc Tm.full (ZA hm2);have hc:=Yfm f.terms[m] g.terms[m] dY dY 1000;by_cases e0:IQ f.terms[m] g.terms[m] 1000=0
  .rw[e0] at hc;refine M.w1 @hc ?_;refine⟨rfl,fun j h1 h2 hj=> ?_,(M.W AQ)⟩;by_cases hjm:j=m
   .subst hjm;exact e0
   .exact hP j h1 h2 dY
  .have e1:=U6 f.terms g.terms m hm hm2 hP e0;rw[if_pos (by rw[e1];exact e0),e1] at he;rw[he];(repeat' first|refine M.w1 @hc ?_|refine M.cs ?_ ?_<;>intro h|fail)
   .rfl
   .exfalso;simp at h;exact e0 h
 .intro hP;have e1:=VM f.terms g.terms fun j h1 h2=>hP j h1 h2 dY;rw[if_neg (by simp[e1])] at he;refine M.w0 ?_;refine M.rp f.args.length (fun m=>∀j (h1:j<f.args.length) (h2:j<g.args.length),j<m->Ic f.args[j] g.args[j]=0)
   (fun m=>([(2,.ptr 0 0),(3,.ptr 1 0),(45,.i f.args.length),(46,.i m)],⟨2,[(0,.var f.view),(1,.var g.view)]⟩))
   (fun j _ _ h=>dY) (M.W AQ) ?_ ?_
  .intro m hm hP2;have hm2:m<g.args.length:=dY
   have hs1:=zc Fm.full (ZA hm);have hs2:=zc Fm.full (ZA hm2);have hc:=ih f.args[m] g.args[m] dY dY dY (zv hfs (ZA hm)) (zv hgs (ZA hm2));by_cases e0:Ic f.args[m] g.args[m]=0
   .rw[e0] at hc;refine M.w1 @hc ?_;refine⟨rfl,fun j h1 h2 hj=> ?_,(M.W AQ)⟩;by_cases hjm:j=m
    .subst hjm;exact e0
    .exact hP2 j h1 h2 dY
   .have e3:=Vm f.args g.args m hm hm2 hP2 e0;rw[e3] at he;rw[he];(repeat' first|refine M.w1 @hc ?_|refine M.cs ?_ ?_<;>intro h|fail)
    .rfl
    .exfalso;simp at h;exact e0 h
  .intro hP2;have e3:=XH f.args g.args fun j h1 h2=>hP2 j h1 h2 dY;rw[e3] at he;rw[he];refine M.w0 ?_
   rfl
end Go.Ab
