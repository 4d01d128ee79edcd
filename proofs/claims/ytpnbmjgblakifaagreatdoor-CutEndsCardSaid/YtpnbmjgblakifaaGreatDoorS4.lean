/- A part of the proofs of this seat. No conditions. -/
import Derived.Test.YtpnbmjgblakifaaGreatDoorS3
namespace Go.Ab
open Go Go.Proofs
set_option maxRecDepth 100000
set_option maxHeartbeats 4000000
set_option linter.all false
theorem Ybp:∀(n:Nat) (f:Fm) (g:List Ty),f.full<=n->n<100000000->f.shape=true->(∀x∈g,x.err=0)->g.length+n<274877906944->g.length+f.size<100000->PC E 237 [.s .ty g,.agg f.view] (.i (f.EF g)):=by
 intro n;induction n with
 |zero=>intro f g h;have:=f.Aa;omega
 |succ n ih=>
 intro f g hsz hn hs hg hgl hgz;have hsz':=f.Ag;have hse:=f.size_eq;have hlen:=zd Fm.full Fm.Aa f.args;have hlen2:=zd Tm.full Tm.Aa f.terms;have he:=Fm.FD g f;have hq:=QF f.kind;refine M.F Tryz.func237 ?_;(repeat' first|refine M.gw ?_|fail);refine AW.range f.terms.length (fun m=>∀j (hj:j<f.terms.length),j<m->tE g f.terms[j]=0)
  (fun m=>([(0,.s .ty g),(3,.ptr 0 0),(13,.s .tm f.terms),(14,.i f.terms.length),(15,.i m)],⟨1,[(0,.var f.view)]⟩))
  (by omega) (fun m=>rfl) (fun m=>rfl) rfl (fun j hj h=>by omega) (M.W [some 0]) ?_ ?_
 ·intro m hm hP;have hs2:=zc Tm.full (List.getElem_mem hm);have hc:=TH g f.terms[m] (by omega) hg (by omega);have hfi:tE g f.terms[m]≠0->f.EF g=tE g f.terms[m]:=fun hx=>by
   have h1:=Kt hm hP hx;rw[he,h1,if_pos hx]
  by_cases hx:(Em g f.terms[m]).2=0
  ·by_cases hk:(Em g f.terms[m]).1.kind=1
   ·have ht:tE g f.terms[m]=0:=by simp[tE,hx,hk]
    rw[hx] at hc;(repeat' first|refine M.gw ?_|refine M.c2 (hc) ?_|refine M.cs ?_ ?_<;>intro h|fail)
    ·exfalso;simp at h;exact h hk
    ·exact ⟨rfl,yc (p:=fun t'=>tE g t'=0) hm hP ht,(M.W [some 0])⟩
   ·have ht:tE g f.terms[m]=7:=by simp[tE,hx,hk]
    rw[ht] at hfi;rw[hfi (by decide)];rw[hx] at hc;(repeat' first|refine M.gw ?_|refine M.c2 (hc) ?_|refine M.cs ?_ ?_<;>intro h|fail)
    ·rfl
    ·exfalso;simp at h;exact hk h
  ·have ht:tE g f.terms[m]=(Em g f.terms[m]).2:=by simp[tE,hx]
   rw[ht] at hfi;rw[hfi hx];(repeat' first|refine M.gw ?_|refine M.c2 (hc) ?_|refine M.cs ?_ ?_<;>intro h|fail)
   ·rfl
   all_goals(exfalso;simp_all)
 ·intro hP;have h0:xw (tE g) f.terms=0:=vg fun j hj _=>hP j hj hj;rw[if_neg (by simp[h0])] at he;have htyl:=f.ty.size_pos;have hrest:∀g',g'=Dx g f->(∀x∈g',x.err=0)/\g'.length<=g.length+1/\∀(m:Nat) (hm:m<f.args.length),PC E 237 [.s .ty g',.agg f.args[m].view] (.i (f.args[m].EF g')):=fun g' hg'=>by
   have hl:g'.length<=g.length+1:=by rw[hg'];simp only[Dx];split<;>simp
   have hee:∀x∈g',x.err=0:=fun x hx=>by
    rw[hg'] at hx;simp only[Dx] at hx;split at hx
    ·rename_i hqk;rcases List.mem_append.1 hx with hx|hx
     ·exact hg x hx
     ·rw[List.mem_singleton] at hx;subst hx;have h1:=Uk hqk;rw[hs] at h1;have h2:f.ty.ok=true:=by
       cases ho:f.ty.ok with
       |true=>rfl
       |false=>rw[ho] at h1;simp at h1
      rw[Rw] at h2;simpa using h2
    ·exact hg x hx
   refine⟨hee,hl,fun m hm=> ?_⟩;have hs2:=zc Fm.full (List.getElem_mem hm);have hs3:=zc Fm.size (List.getElem_mem hm);exact ih f.args[m] g' (by omega) (by omega) (zw hs (List.getElem_mem hm)) hee (by omega) (by omega)
  cases hqk:xp f.kind with
  |true=>
   rw[hqk] at hq;have hcx:Dx g f=g++[f.ty]:=H7 hqk;obtain⟨_,_,hcall⟩:=hrest (g++[f.ty]) hcx.symm;rw[hcx] at he;(repeat' first|refine M.gw ?_|refine M.c2 (hq) ?_|fail);refine AW.range f.args.length (fun m=>∀j (hj:j<f.args.length),j<m->f.args[j].EF (g++[f.ty])=0)
    (fun m=>([(0,.s .ty (g++[f.ty])),(3,.ptr 0 0),(46,.s .fm f.args),(47,.i f.args.length),(48,.i m)],⟨1,[(0,.var f.view)]⟩))
    (by omega) (fun m=>rfl) (fun m=>rfl) rfl (fun j hj h=>by omega) (M.W [some 0]) ?_ ?_
   ·intro m hm hP;have hc:=hcall m hm;by_cases hx:f.args[m].EF (g++[f.ty])=0
    ·rw[hx] at hc;(repeat' first|refine M.gw ?_|refine M.c2 (hc) ?_|fail);exact⟨rfl,yc (p:=fun t'=>Fm.EF (g++[f.ty]) t'=0) hm hP hx,(M.W [some 0])⟩
    ·rw[he,Kt hm hP hx];(repeat' first|refine M.gw ?_|refine M.c2 (hc) ?_|refine M.cs ?_ ?_<;>intro h|fail)
     ·rfl
     ·exfalso;simp at h;exact hx h
   ·intro hP;rw[he,vg fun j hj _=>hP j hj hj];(repeat' first|refine M.gw ?_|fail)
    rfl
  |false=>
   rw[hqk] at hq;have hcx:Dx g f=g:=HV (by simp[hqk]);obtain⟨_,_,hcall⟩:=hrest g hcx.symm;rw[hcx] at he;(repeat' first|refine M.gw ?_|refine M.c2 (hq) ?_|fail);refine AW.range f.args.length (fun m=>∀j (hj:j<f.args.length),j<m->f.args[j].EF g=0)
    (fun m=>([(0,.s .ty g),(3,.ptr 0 0),(46,.s .fm f.args),(47,.i f.args.length),(48,.i m)],⟨1,[(0,.var f.view)]⟩))
    (by omega) (fun m=>rfl) (fun m=>rfl) rfl (fun j hj h=>by omega) (M.W [some 0]) ?_ ?_
   ·intro m hm hP;have hc:=hcall m hm;by_cases hx:f.args[m].EF g=0
    ·rw[hx] at hc;(repeat' first|refine M.gw ?_|refine M.c2 (hc) ?_|fail);exact⟨rfl,yc (p:=fun t'=>Fm.EF g t'=0) hm hP hx,(M.W [some 0])⟩
    ·rw[he,Kt hm hP hx];(repeat' first|refine M.gw ?_|refine M.c2 (hc) ?_|refine M.cs ?_ ?_<;>intro h|fail)
     ·rfl
     ·exfalso;simp at h;exact hx h
   ·intro hP;rw[he,vg fun j hj _=>hP j hj hj];(repeat' first|refine M.gw ?_|fail)
    rfl
theorem M0(g:List Ty)(f:Fm)(hf:f.full<549755813888)(hg:∀x∈g,x.err=0)(hgl:g.length<90000):PC E 213 [.s .ty g,.agg f.view] (.i (v3 g f)):=by
 have h1:=KI f hf;by_cases he:f.err=0
 ·have h2:=(Fm.Ae f).1 he;have h3:=yf he;have h4:=Ybp _ f g (Nat.le_refl _) (by omega) h2.1 hg (by omega) (by omega);have e:v3 g f=f.EF g:=by simp only[v3];rw[if_neg (by simp[he])]
  rw[he] at h1;rw[e];refine M.F Tryz.func213 ?_;(repeat' first|refine M.gw ?_|refine M.c2 (h1) ?_|refine M.c2 (h4) ?_|fail)
  rfl
 ·have e:v3 g f=f.err:=by simp only[v3];rw[if_pos he]
  rw[e];refine M.F Tryz.func213 ?_;(repeat' first|refine M.gw ?_|refine M.c2 (h1) ?_|refine M.cs ?_ ?_<;>intro h|fail)
  ·rfl
  ·exfalso;simp at h;exact he h
theorem Of(g:List Ty)(f:Fm)(hf:f.full<549755813888)(hg:(g.map Ty.size).sum<1099511627776):PC E 178 [.s .ty g,.agg f.view] (.i (ym g f)):=by
 have h1:=So g hg;by_cases he:xq g=0
 ·have h2:=ug he;have h4:=M0 g f hf h2.2 (by omega);have e:ym g f=v3 g f:=by simp only[ym];rw[if_neg (by simp[he])]
  rw[he] at h1;rw[e];refine M.F Tryz.func178 ?_;(repeat' first|refine M.gw ?_|refine M.c2 (h1) ?_|refine M.c2 (h4) ?_|fail)
  rfl
 ·have e:ym g f=xq g:=by simp only[ym];rw[if_pos he]
  rw[e];refine M.F Tryz.func178 ?_;(repeat' first|refine M.gw ?_|refine M.c2 (h1) ?_|refine M.cs ?_ ?_<;>intro h|fail)
  ·rfl
  ·exfalso;simp at h;exact he h
theorem Zyb{at_ b:Int}{s t:Tm}(h:t.kind≠1):t.re (xd at_ s) b= .mk t.kind t.index t.ty (t.args.map fun x=>x.re (xd at_ s) (up t.kind b)):=xv h
theorem Wx(at_:Int)(s:Tm)(hat:0<=at_/\at_<137438953472)(hs:s.shape=true)(hsf:s.full<137438953472)(hsi:∀p∈s.vars 0,0<=p.1/\p.1<274877906944):∀(n:Nat) (t:Tm) (dp:Int),t.full<=n->n<137438953472->0<=dp->dp+n<274877906944->t.shape=true->(∀p∈t.vars 0,0<=p.1/\p.1<274877906944)->
 PC E 269 [.agg t.view,.i at_,.i dp,.agg s.view] (.agg (t.re (xd at_ s) dp).view):=by
 intro n;induction n with
 |zero=>intro t dp h;have:=t.Aa;omega
 |succ n ih=>
 intro t dp hsz hn h1 h2 ht hix;have hsz':=Tm.Ag t;have hlen:=zd Tm.full Tm.Aa t.args;have hup:=LN t.kind dp;have hpl:=LY t.kind dp;have hb:=LS t;by_cases hv:t.kind=1
 ·have hti:=hix (t.index,0) (by rw[uk ht hv];simp);rw[J0 ht hv];generalize t.index=i at hti;simp only at hti;rw[E9,GV];have hvi:(vT i).index=i:=rfl;have hu:=PU (at_+dp) (by omega) _ s 0 (Nat.le_refl _) (by omega) (by omega) (by omega) hs fun p hp=>by have:=hsi p hp;omega
  have hvc:=Ex (i-1);clear ih hix;by_cases h3:i-dp=at_
  ·rw[if_pos h3];have h3':i=at_+dp:=by omega
   subst h3';refine M.F Tryz.func269 ?_;(repeat' first|refine M.go ?_|refine M.c2 (hu) ?_|refine M.z1 4 ?_|refine M.cs ?_ ?_<;>intro h|refine M.gk ?_|fail);all_goals first
    |rfl
    |(exfalso;simp at h;done)
    |(exfalso;simp at h;omega)
  ·rw[if_neg h3];by_cases h4:i-dp>at_
   ·rw[if_pos h4];refine M.F Tryz.func269 ?_;(repeat' first|refine M.go ?_|refine M.z3 3 5 6 ?_|refine M.cs ?_ ?_<;>intro h|refine M.gk ?_|fail);all_goals first
     |(exfalso;simp at h;omega)
     |skip
    (repeat' first|refine M.gw ?_|refine M.c2 (hvc) ?_|fail)
    rfl
   ·rw[if_neg h4];refine M.F Tryz.func269 ?_;(repeat' first|refine M.go ?_|refine M.z3 3 5 6 ?_|refine M.cs ?_ ?_<;>intro h|refine M.gk ?_|fail);all_goals first
     |(exfalso;simp at h;omega)
     |skip
    (repeat' first|refine M.gw ?_|fail)
    rfl
 have he:=Zyb (at_:=at_) (b:=dp) (s:=s) hv;refine M.F Tryz.func269 ?_;(repeat' first|refine M.go ?_|refine M.z1 2 ?_|refine M.cs ?_ ?_<;>intro h|refine M.gk ?_|fail);all_goals first
  |(exfalso;simp at h;exact hv h)
  |skip
 skip;refine AW.range t.args.length (fun m=>True) (fun m=>([(1,.i at_),(2,.i dp),(4,.ptr 0 0),(7,.ptr 1 0),(8,.ptr 2 0),(9,.ptr 3 0),(45,.s .tm t.args),(46,.i t.args.length),(47,.i m)],⟨5,[(0,.var t.view),(1,.var s.view),(2,.var [.i 0,.i 0,.i 0,.slice .nil (.t .ty []),.slice .nil (.t .tm [])]),(3,.var [.i t.kind,.i t.index,.i t.ty.kind,.s .ty t.ty.args,.slice (.own 4) (.t .tm ((t.args.take m).map fun x=>x.re (xd at_ s) (up t.kind dp)))]),(4,.row)]⟩))
  (by omega) (fun m=>rfl) (fun m=>rfl) rfl trivial (M.W [some 0,some 1,some 2,some 3,none]) ?_ ?_
 ·intro m hm _;have hs2:=zc Tm.full (List.getElem_mem hm);have hc:=ih t.args[m] (up t.kind dp) (by omega) (by omega) (by omega) (by omega) (ze ht _ (List.getElem_mem hm)) (fun p hp=>by
   obtain⟨q,hq,hqe⟩:=OX (b':=up t.kind 0) p hp;have:=hix q (LZ hv (List.getElem_mem hm) hq);rw[<-hqe];exact this)
  rw[<-hpl] at hc;simp only[<-hpl];(repeat' first|refine M.gw ?_|refine M.c2 (hb) ?_|refine M.c2 (hc) ?_|fail);exact⟨rfl,trivial,(M.W [some 0,some 1,some 2,some 3,some 6] (he:=(by(repeat'(first|exact trivial|exact Or.inr ⟨_,U,rfl⟩|refine And.intro ?_ ?_|refine⟨_,U,_,U,_,U,?_⟩|exact An.refl _|exact An.of_eq (by simp[Ao.Ax,z8 _ _ _ hm])));done)))⟩
 ·intro _;simp only[List.take_length];(repeat' first|refine M.gw ?_|fail);rw[he];simp[zj,V.wk,V.Ap,za,Ty.view,Tm.view]
theorem RU{t:Tm}(h:t.near=true):∀q∈t.vars 0,q.1<=536870912:=fun q hq=>by simpa using List.all_eq_true.1 h q hq
theorem Zx9:∀(n:Nat) (f:Fm) (at_:Int),f.full<=n->n<274877906944->-274877906944<=at_->at_+n<549755813888->f.shape=true->PC E 275 [.agg f.view,.i at_] (.i (y8 at_ f)):=by
 intro n;induction n with
 |zero=>intro f at_ h;have:=f.Aa;omega
 |succ n ih=>
 intro f at_ hsz hn h1 h2 hs;have hsz':=f.Ag;have hlen:=zd Fm.full Fm.Aa f.args;have hlen2:=zd Tm.full Tm.Aa f.terms;have he:=Vr (at_:=at_) hs;have hup:=Ke f.kind at_;have hpl:=Nz f.kind at_;have hb:=OG f;have hle1:∀m,((f.terms.take m).map (yr at_)).sum<=(f.terms.map Tm.full).sum:=fun m=>by
  have a1:=zn Tm.full f.terms m;have a2:=y0 (f:=yr at_) (g:=Tm.full) (f.terms.take m) fun x _=>Nat.le_trans (Li x _) x.Aj;omega
 have hle2:∀m,((f.args.take m).map (y8 (A3 f.kind at_))).sum<=(f.args.map Fm.full).sum:=fun m=>by
  have a1:=zn Fm.full f.args m;have a2:=y0 (f:=y8 (A3 f.kind at_)) (g:=Fm.full) (f.args.take m) fun x _=>Nat.le_trans (SP _ x) x.Aj;omega
 refine M.F Tryz.func275 ?_;(repeat' first|refine M.gw ?_|fail);refine AW.range f.terms.length (fun m=>True)
  (fun m=>([(1,.i at_),(2,.ptr 0 0),(5,.i (((f.terms.take m).map (yr at_)).sum:Nat)),(11,.s .tm f.terms),(12,.i f.terms.length),(13,.i m)],⟨1,[(0,.var f.view)]⟩))
  (by omega) (fun m=>rfl) (fun m=>rfl) rfl trivial (M.W [some 0]) ?_ ?_
 ·intro m hm _;have hs1:=yl (yr at_) f.terms m hm;have hs2:=zc Tm.full (List.getElem_mem hm);have hs3:=hle1 m;have hs4:=Li f.terms[m] at_;have hs5:=f.terms[m].Aj;have hc:=Xa _ f.terms[m] at_ (Nat.le_refl _) (by omega) (by omega) (by omega) (ye hs (List.getElem_mem hm));(repeat' first|refine M.gw ?_|refine M.c2 (hc) ?_|fail);refine⟨rfl,trivial,?_⟩;simp only[hs1];exact(M.W [some 0])
 ·intro _;have hs6:=hle1 f.terms.length;simp only[List.take_length] at hs6 ⊢;(repeat' first|refine M.gw ?_|fail);refine AW.range f.args.length (fun m=>True)
   (fun m=>([(1,.i at_),(2,.ptr 0 0),(5,.i ((f.terms.map (yr at_)).sum+((f.args.take m).map (y8 (A3 f.kind at_))).sum:Nat)),(24,.s .fm f.args),(25,.i f.args.length),(26,.i m)],⟨1,[(0,.var f.view)]⟩))
   (by omega) (fun m=>rfl) (fun m=>rfl) rfl trivial (M.W [some 0]) ?_ ?_
  ·intro m hm _;have hs1:=yl (y8 (A3 f.kind at_)) f.args m hm;have hs2:=zc Fm.full (List.getElem_mem hm);have hs3:=hle2 m;have hs4:=SP (A3 f.kind at_) f.args[m];have hs5:=f.args[m].Aj;have hc:=ih f.args[m] (A3 f.kind at_) (by omega) (by omega) (by omega) (by omega) (zw hs (List.getElem_mem hm));rw[<-hpl] at hc hs1 hs3 hs4;simp only[<-hpl];(repeat' first|refine M.gw ?_|refine M.c2 (hb) ?_|refine M.c2 (hc) ?_|fail);refine⟨rfl,trivial,?_⟩;simp only[hs1];exact(M.W [some 0] (hf:=(by(repeat'(first|exact trivial|refine And.intro ?_ ?_|refine⟨_,U,_,U,?_⟩|exact An.refl _|exact An.of_eq (by simp[Ao.Ax,Int.natCast_add,Int.add_assoc])));done)))
  ·intro _;simp only[List.take_length];(repeat' first|refine M.gw ?_|fail);rw[he]
   rfl
theorem Zy7(most:Int)(h0:0<=most):∀(n:Nat) (f:Fm),f.full<=n->n<549755813888->f.shape=true->PC E 188 [.agg f.view,.i most] (.bool (Fj most f)):=by
 intro n;induction n with
 |zero=>intro f h;have:=f.Aa;omega
 |succ n ih=>
 intro f hsz hn hs;have hsz':=f.Ag;have hlen:=zd Fm.full Fm.Aa f.args;have hlen2:=zd Tm.full Tm.Aa f.terms;have he:=Zy0 most f;refine M.F Tryz.func188 ?_;(repeat' first|refine M.gw ?_|fail);refine AW.range f.terms.length (fun m=>∀j (hj:j<f.terms.length),j<m->xx most f.terms[j]=true)
  (fun m=>([(1,.i most),(2,.ptr 0 0),(10,.s .tm f.terms),(11,.i f.terms.length),(12,.i m)],⟨1,[(0,.var f.view)]⟩))
  (by omega) (fun m=>rfl) (fun m=>rfl) rfl (fun j hj h=>by omega) (M.W [some 0]) ?_ ?_
 ·intro m hm hP;have hs2:=zc Tm.full (List.getElem_mem hm);have hc:=Rf most h0 _ f.terms[m] (Nat.le_refl _) (by omega) (ye hs (List.getElem_mem hm));(repeat' first|refine M.gw ?_|refine M.c2 (hc) ?_|refine M.cs ?_ ?_<;>intro h|fail)
  ·have hx:xx most f.terms[m]=false:=by simpa using h
   rw[he,vh (xx most) hm hx];rfl
  ·have hx:xx most f.terms[m]=true:=by simpa using h
   exact⟨rfl,yc (p:=fun t=>xx most t=true) hm hP hx,(M.W [some 0])⟩
 ·intro hP;rw[Fk (xx most) f.terms fun j hj=>hP j hj hj,Bool.true_and] at he;(repeat' first|refine M.gw ?_|fail);refine AW.range f.args.length (fun m=>∀j (hj:j<f.args.length),j<m->Fj most f.args[j]=true)
   (fun m=>([(1,.i most),(2,.ptr 0 0),(22,.s .fm f.args),(23,.i f.args.length),(24,.i m)],⟨1,[(0,.var f.view)]⟩))
   (by omega) (fun m=>rfl) (fun m=>rfl) rfl (fun j hj h=>by omega) (M.W [some 0]) ?_ ?_
  ·intro m hm hP;have hs2:=zc Fm.full (List.getElem_mem hm);have hc:=ih f.args[m] (by omega) (by omega) (zw hs (List.getElem_mem hm));(repeat' first|refine M.gw ?_|refine M.c2 (hc) ?_|refine M.cs ?_ ?_<;>intro h|fail)
   ·have hx:Fj most f.args[m]=false:=by simpa using h
    rw[he,vh (Fj most) hm hx];rfl
   ·have hx:Fj most f.args[m]=true:=by simpa using h
    exact⟨rfl,yc (p:=fun t=>Fj most t=true) hm hP hx,(M.W [some 0])⟩
  ·intro hP;rw[he,Fk (Fj most) f.args fun j hj=>hP j hj hj];(repeat' first|refine M.gw ?_|fail)
   rfl
theorem Yjz(t:Tm)(hs:t.shape=true):PC E 289 [.agg t.view] (.bool (v7 t)):=by
 by_cases k3:t.kind=3
 ·obtain ⟨i,th,f,a,rfl,hf,ha⟩:=Js hs k3 rfl;refine M.F Tryz.func289 ?_;(repeat' first|refine M.gw ?_|refine M.bl ?_|fail)
  rfl
 ·by_cases k6:t.kind=6
  ·obtain ⟨i,th,x,y,z,rfl,_,_,_⟩:=Ko hs k6 rfl;by_cases h4:z.kind=4
   ·have e:v7 (.mk 6 i th [x,y,z])=true:=by simp[v7,Tm.arg,h4]
    rw[e];refine M.F Tryz.func289 ?_;(repeat' first|refine M.gw ?_|refine M.gs ?_ ?_<;>intro h|refine M.bl ?_|fail);all_goals first
     |rfl
     |(exfalso;simp_all;done)
   ·have e:v7 (.mk 6 i th [x,y,z])=(z.kind==5):=by simp[v7,Tm.arg,h4]
    rw[e];refine M.F Tryz.func289 ?_;(repeat' first|refine M.gw ?_|refine M.gs ?_ ?_<;>intro h|refine M.bl ?_|fail);all_goals first
     |rfl
     |(exfalso;simp_all;done)
  ·by_cases k9:t.kind=9
   ·obtain ⟨i,th,x,y,z,rfl,_,_,_⟩:=Ko hs k9 rfl;by_cases h4:z.kind=7
    ·have e:v7 (.mk 9 i th [x,y,z])=true:=by simp[v7,Tm.arg,h4]
     rw[e];refine M.F Tryz.func289 ?_;(repeat' first|refine M.gw ?_|refine M.gs ?_ ?_<;>intro h|refine M.bl ?_|fail);all_goals first
      |rfl
      |(exfalso;simp_all;done)
    ·have e:v7 (.mk 9 i th [x,y,z])=(z.kind==8):=by simp[v7,Tm.arg,h4]
     rw[e];refine M.F Tryz.func289 ?_;(repeat' first|refine M.gw ?_|refine M.gs ?_ ?_<;>intro h|refine M.bl ?_|fail);all_goals first
      |rfl
      |(exfalso;simp_all;done)
   ·by_cases k11:t.kind=11
    ·obtain ⟨i,th,x,rfl,_⟩:=G9 hs k11 rfl;refine M.F Tryz.func289 ?_;(repeat' first|refine M.gw ?_|refine M.bl ?_|fail)
     rfl
    ·by_cases k12:t.kind=12
     ·obtain ⟨i,th,x,rfl,_⟩:=G9 hs k12 rfl;refine M.F Tryz.func289 ?_;(repeat' first|refine M.gw ?_|refine M.bl ?_|fail)
      rfl
     ·have e:v7 t=false:=by simp[v7,k3,k6,k9,k11,k12]
      rw[e];have b3:¬(t.kind==3)=true:=by simpa using k3
      have b6:¬(t.kind==6)=true:=by simpa using k6
      have b9:¬(t.kind==9)=true:=by simpa using k9
      have b11:¬(t.kind==11)=true:=by simpa using k11
      have b12:¬(t.kind==12)=true:=by simpa using k12
      refine M.F Tryz.func289 ?_;(repeat' first|refine M.gw ?_|refine M.gs ?_ ?_<;>intro h|refine M.bl ?_|refine M.cs ?_ ?_<;>intro h|fail);all_goals first
       |rfl
       |contradiction
theorem Ygp{t x:Tm}(hv:RV t x)(hs:t.shape=true)(hz:t.size<=4096):PC E 290 [.agg t.view] (.i (FY t)):=by
 have hfull:=yo t hs;have h0:=yu _ t (Nat.le_refl _) (by omega);cases hv with
 |beta i th j s b a=>
  have hb:b.shape=true:=ze (ze hs (.mk 2 j s [b]) (by simp)) b (by simp);have ha:a.shape=true:=ze hs a (by simp);have hsz:(Tm.mk 3 i th [Tm.mk 2 j s [b],a]).size=2+b.size+a.size:=by simp[Tm.size,Tm.sizes];omega
  have fb:=yo b hb;have fa:=yo a ha;have h1:=yu _ b (Nat.le_refl _) (by omega);have h2:=Xa _ b 0 (Nat.le_refl _) (by omega) (by omega) (by omega) hb;have h3:=yu _ a (Nat.le_refl _) (by omega);have htl:=Li b 0;have hap:=a.size_pos;have hm:=VF (yr 0 b) (a.size-1) (by omega) (by omega);have hm': -9223372036854775808<=(yr 0 b:Int)*(a.size-1)/\(yr 0 b:Int)*(a.size-1)<=9223372036854775807:=by omega
  have e:FY (Tm.mk 3 i th [Tm.mk 2 j s [b],a])=b.size+yr 0 b*(a.size-1)-(Tm.mk 3 i th [Tm.mk 2 j s [b],a]).size:=by
   have hc:=SZ b 0 0 hb;rw[Int.add_zero] at hc;show((b.re (xd 0 a) 0).size:Int)-_=_;rw[OT 0 a b ha 0 hb,hc];congr 1;rw[Int.natCast_add,Int.natCast_mul];congr 2;omega
  rw[e];clear e;refine M.F Tryz.func290 ?_;(repeat' first|refine M.gw ?_|refine M.c2 (h0) ?_|refine M.c2 (h1) ?_|refine M.c2 (h2) ?_|refine M.c2 (h3) ?_|refine M.bl ?_|fail)
  rfl
 |rz i th _ f j s=>
  have h1:=yu _ x (Nat.le_refl _) (by have:=yo x (ze hs x (by simp));have:=zc Tm.size (l:=[x,f,Tm.mk 4 j s []]) (t:=x) (by simp);have:=Tm.size_eq (Tm.mk 6 i th [x,f,Tm.mk 4 j s []]);simp only[Tm.Ad] at this;omega);have e:(x.size:Int)<=4096:=by have:=zc Tm.size (l:=[x,f,Tm.mk 4 j s []]) (t:=x) (by simp);have:=Tm.size_eq (Tm.mk 6 i th [x,f,Tm.mk 4 j s []]);simp only[Tm.Ad] at this;omega
  have e2:FY (Tm.mk 6 i th [x,f,Tm.mk 4 j s []])=x.size-(Tm.mk 6 i th [x,f,Tm.mk 4 j s []]).size:=rfl;rw[e2];refine M.F Tryz.func290 ?_;(repeat' first|refine M.gw ?_|refine M.c2 (h0) ?_|refine M.c2 (h1) ?_|refine M.bl ?_|fail)
  rfl
 |fz i th _ f j s=>
  have h1:=yu _ x (Nat.le_refl _) (by have:=yo x (ze hs x (by simp));have:=zc Tm.size (l:=[x,f,Tm.mk 7 j s []]) (t:=x) (by simp);have:=Tm.size_eq (Tm.mk 9 i th [x,f,Tm.mk 7 j s []]);simp only[Tm.Ad] at this;omega);have e:(x.size:Int)<=4096:=by have:=zc Tm.size (l:=[x,f,Tm.mk 7 j s []]) (t:=x) (by simp);have:=Tm.size_eq (Tm.mk 9 i th [x,f,Tm.mk 7 j s []]);simp only[Tm.Ad] at this;omega
  have e2:FY (Tm.mk 9 i th [x,f,Tm.mk 7 j s []])=x.size-(Tm.mk 9 i th [x,f,Tm.mk 7 j s []]).size:=rfl;rw[e2];refine M.F Tryz.func290 ?_;(repeat' first|refine M.gw ?_|refine M.c2 (h0) ?_|refine M.c2 (h1) ?_|refine M.bl ?_|fail)
  rfl
 |rs i th x f j s n=>
  have hn:n.shape=true:=ze (ze hs (.mk 5 j s [n]) (by simp)) n (by simp);have hsz:(Tm.mk 6 i th [x,f,Tm.mk 5 j s [n]]).size=2+x.size+f.size+n.size:=by simp[Tm.size,Tm.sizes];omega
  have h1:=yu _ f (Nat.le_refl _) (by have:=yo f (ze hs f (by simp));omega);have h2:=yu _ n (Nat.le_refl _) (by have:=yo n hn;omega);have e2:FY (Tm.mk 6 i th [x,f,Tm.mk 5 j s [n]])=2+f.size+n.size+(Tm.mk 6 i th [x,f,Tm.mk 5 j s [n]]).size-1-(Tm.mk 6 i th [x,f,Tm.mk 5 j s [n]]).size:=by
   show((AO (AO f n) (.mk 6 0 th [x,f,n])).size:Int)-_=_;simp[AO,Tm.size,Tm.sizes];omega
  rw[e2];clear e2;refine M.F Tryz.func290 ?_;(repeat' first|refine M.gw ?_|refine M.c2 (h0) ?_|refine M.c2 (h1) ?_|refine M.c2 (h2) ?_|refine M.bl ?_|fail)
  rfl
 |fs i th x f j s n l=>
  have hn:n.shape=true:=ze (ze hs (.mk 8 j s [n,l]) (by simp)) n (by simp);have hl:l.shape=true:=ze (ze hs (.mk 8 j s [n,l]) (by simp)) l (by simp);have hsz:(Tm.mk 9 i th [x,f,Tm.mk 8 j s [n,l]]).size=2+x.size+f.size+n.size+l.size:=by simp[Tm.size,Tm.sizes];omega
  have h1:=yu _ f (Nat.le_refl _) (by have:=yo f (ze hs f (by simp));omega);have h2:=yu _ n (Nat.le_refl _) (by have:=yo n hn;omega);have h3:=yu _ l (Nat.le_refl _) (by have:=yo l hl;omega);have e2:FY (Tm.mk 9 i th [x,f,Tm.mk 8 j s [n,l]])=3+f.size+n.size+l.size+(Tm.mk 9 i th [x,f,Tm.mk 8 j s [n,l]]).size-1-n.size-(Tm.mk 9 i th [x,f,Tm.mk 8 j s [n,l]]).size:=by
   show((AO (AO (AO f n) l) (.mk 9 0 th [x,f,l])).size:Int)-_=_;simp[AO,Tm.size,Tm.sizes];omega
  rw[e2];clear e2;refine M.F Tryz.func290 ?_;(repeat' first|refine M.gw ?_|refine M.c2 (h0) ?_|refine M.c2 (h1) ?_|refine M.c2 (h2) ?_|refine M.c2 (h3) ?_|refine M.bl ?_|fail)
  rfl
 |p1 i th j s _ y=>
  have hsz:(Tm.mk 11 i th [Tm.mk 10 j s [x,y]]).size=2+x.size+y.size:=by simp[Tm.size,Tm.sizes];omega
  have hx:x.shape=true:=ze (ze hs (.mk 10 j s [x,y]) (by simp)) x (by simp);have h1:=yu _ x (Nat.le_refl _) (by have:=yo x hx;omega);have e2:FY (Tm.mk 11 i th [Tm.mk 10 j s [x,y]])=x.size-(Tm.mk 11 i th [Tm.mk 10 j s [x,y]]).size:=rfl;rw[e2];clear e2;refine M.F Tryz.func290 ?_;(repeat' first|refine M.gw ?_|refine M.c2 (h0) ?_|refine M.c2 (h1) ?_|refine M.bl ?_|fail)
  rfl
 |p2 i th j s y _=>
  have hsz:(Tm.mk 12 i th [Tm.mk 10 j s [y,x]]).size=2+x.size+y.size:=by simp[Tm.size,Tm.sizes];omega
  have hx:x.shape=true:=ze (ze hs (.mk 10 j s [y,x]) (by simp)) x (by simp);have h1:=yu _ x (Nat.le_refl _) (by have:=yo x hx;omega);have e2:FY (Tm.mk 12 i th [Tm.mk 10 j s [y,x]])=x.size-(Tm.mk 12 i th [Tm.mk 10 j s [y,x]]).size:=rfl;rw[e2];clear e2;refine M.F Tryz.func290 ?_;(repeat' first|refine M.gw ?_|refine M.c2 (h0) ?_|refine M.c2 (h1) ?_|refine M.bl ?_|fail)
  rfl
theorem Nf{t x:Tm}{B:Int}(hx:x∈t.args)(h:∀p∈t.vars 0,0<=p.1/\p.1<B):∀p∈x.vars 0,0<=p.1/\p.1<B:=by
 intro p hp;have e:=KU x 0 (up t.kind 0);have hm:(p.1,p.2+up t.kind 0)∈t.vars 0:=by
  rw[Tm.AQ];refine List.mem_append_right _ (List.mem_flatMap.2 ⟨x,hx,?_⟩);rw[Int.zero_add] at e;rw[e];exact List.mem_map.2 ⟨p,hp,rfl⟩
 have h3:=h (p.1,p.2+up t.kind 0) hm;exact h3
theorem Yim{t x:Tm}(hv:RV t x)(hs:t.shape=true)(hz:t.size<=4096)(hix:∀p∈t.vars 0,0<=p.1/\p.1<1073741824):PC E 291 [.agg t.view] (.agg x.view):=by
 have hfull:=yo t hs;cases hv with
 |beta i th j s b a=>
  have hb:b.shape=true:=ze (ze hs (.mk 2 j s [b]) (by simp)) b (by simp);have ha:a.shape=true:=ze hs a (by simp);have hsz:(Tm.mk 3 i th [Tm.mk 2 j s [b],a]).size=2+b.size+a.size:=by simp[Tm.size,Tm.sizes];omega
  have fb:=yo b hb;have fa:=yo a ha;have hia:=Nf (t:=Tm.mk 3 i th [Tm.mk 2 j s [b],a]) (x:=a) (by simp) hix;have hib:=Nf (t:=Tm.mk 2 j s [b]) (x:=b) (by simp) (Nf (t:=Tm.mk 3 i th [Tm.mk 2 j s [b],a]) (x:=Tm.mk 2 j s [b]) (by simp) hix);have h1:=Wx 0 a (by omega) ha (by omega) (fun p hp=>by have:=hia p hp;omega) _ b 0 (Nat.le_refl _) (by omega) (by omega) (by omega) hb (fun p hp=>by have:=hib p hp;omega);refine M.F Tryz.func291 ?_;(repeat' first|refine M.gw ?_|refine M.c2 (h1) ?_|refine M.bl ?_|fail)
  rfl
 |rz i th _ f j s=>
  refine M.F Tryz.func291 ?_;(repeat' first|refine M.gw ?_|refine M.bl ?_|fail)
  rfl
 |fz i th _ f j s=>
  refine M.F Tryz.func291 ?_;(repeat' first|refine M.gw ?_|refine M.bl ?_|fail)
  rfl
 |rs i th x f j s n=>
  have hff:(Tm.mk 6 i th [x,f,Tm.mk 5 j s [n]]).full=2+th.size+s.size+x.full+f.full+n.full:=by simp[Tm.full,Tm.Au];omega
  have h1:=CJ 3 [f,n] (by simp;omega);have h2:=FM 6 th [x,f,n] (by simp;omega) (by omega);have h3:=CJ 3 [AO f n,.mk 6 0 th [x,f,n]] (by simp[AO,Tm.full,Tm.Au,Ty.size,Ty.sizes];omega);refine M.F Tryz.func291 ?_;(repeat' first|refine M.gw ?_|refine M.c2 (h1) ?_|refine M.c2 (h2) ?_|refine M.c2 (h3) ?_|refine M.bl ?_|fail)
  rfl
 |fs i th x f j s n l=>
  have hff:(Tm.mk 9 i th [x,f,Tm.mk 8 j s [n,l]]).full=2+th.size+s.size+x.full+f.full+n.full+l.full:=by simp[Tm.full,Tm.Au];omega
  have h1:=CJ 3 [f,n] (by simp;omega);have h2:=CJ 3 [AO f n,l] (by simp[AO,Tm.full,Tm.Au,Ty.size,Ty.sizes];omega);have h3:=FM 9 th [x,f,l] (by simp;omega) (by omega);have h4:=CJ 3 [AO (AO f n) l,.mk 9 0 th [x,f,l]] (by simp[AO,Tm.full,Tm.Au,Ty.size,Ty.sizes];omega);refine M.F Tryz.func291 ?_;(repeat' first|refine M.gw ?_|refine M.c2 (h1) ?_|refine M.c2 (h2) ?_|refine M.c2 (h3) ?_|refine M.c2 (h4) ?_|refine M.bl ?_|fail)
  rfl
 |p1 i th j s _ y=>
  refine M.F Tryz.func291 ?_;(repeat' first|refine M.gw ?_|refine M.bl ?_|fail)
  rfl
 |p2 i th j s y _=>
  refine M.F Tryz.func291 ?_;(repeat' first|refine M.gw ?_|refine M.bl ?_|fail)
  rfl
def Ip(t:Tm)(o:Option (Tm×Bool)):V:= .Az [.agg ((o.map (·.1)).getD t).view,.bool o.isSome,.bool ((o.map (·.2)).getD true)]
theorem Ydp(room:Int):∀(n:Nat) (t:Tm),t.size<=n->t.shape=true->t.size<=4096->(∀p∈t.vars 0,0<=p.1/\p.1<1073741824)->PC E 276 [.agg t.view,.i room] (Ip t (C3 room t)):=by
 intro n;induction n with
 |zero=>intro t h;have:=t.size_pos;omega
 |succ n ih=>
 intro t hsz hs hz hix;have hfull:=yo t hs;have hse:=t.size_eq;have hlen:=zd Tm.size Tm.size_pos t.args;have h1:=Yjz t hs;have he:=Gz room t;by_cases hr:v7 t=true
 ·have h2:=Ygp (JV hs hr) hs hz;rw[hr] at h1;rw[if_pos hr] at he;by_cases hg:FY t>room
  ·rw[if_pos hg] at he;rw[he];refine AC.mk Tryz.func276 rfl rfl rfl rfl rfl (Nat.le_of_ble_eq_true rfl) ?_;repeat'(first|((with_reducible refine D.nil ?_);refine AX.Bd ?_)|((with_reducible refine D.load ?_);refine L.Dl U U U U U U ?_)|((with_reducible refine D.move ?_);refine L.mv U U U ?_)|((with_reducible refine D.assign ?_);refine L.CW U U U ?_)|((with_reducible refine D.bin ?_);refine L.bn U U U U U ?_)|((with_reducible refine D.call ?_);first|refine L.c2 (h1) U U U U ?_|refine L.c2 (h2) U U U U ?_)|((with_reducible refine D.box ?_);refine L.bx U U U U ?_)|((with_reducible refine D.alloc ?_);refine L.al U U U ?_)|((with_reducible refine D.store ?_);refine L.st U U U U U U U U U ?_)|((with_reducible refine D.ax ?_);refine L.bd U U U U U ?_)|((with_reducible refine D.aw ?_);first|refine K.sq (AW.AU ?_)|refine K.sq (K.sq ?_)|refine AW.AU ?_|refine AW.BS U ?_|refine AW.Du U (fun h=> ?_) (fun h=> ?_)|refine AW.skip ?_|refine AW.ret ?_)|with_reducible refine K.tN ?_|with_reducible refine K.tR ?_|with_reducible refine K.r1 (by with_unfolding_all rfl) (by with_unfolding_all rfl) ?_)
   all_goals first
    |rfl
    |(exfalso;simp at h;omega)
  ·rw[if_neg hg] at he;rw[he];have h3:=Yim (JV hs hr) hs hz hix;refine AC.mk Tryz.func276 rfl rfl rfl rfl rfl (Nat.le_of_ble_eq_true rfl) ?_;repeat'(first|((with_reducible refine D.nil ?_);refine AX.Bd ?_)|((with_reducible refine D.load ?_);refine L.Dl U U U U U U ?_)|((with_reducible refine D.move ?_);refine L.mv U U U ?_)|((with_reducible refine D.assign ?_);refine L.CW U U U ?_)|((with_reducible refine D.bin ?_);refine L.bn U U U U U ?_)|((with_reducible refine D.call ?_);first|refine L.c2 (h1) U U U U ?_|refine L.c2 (h2) U U U U ?_|refine L.c2 (h3) U U U U ?_)|((with_reducible refine D.box ?_);refine L.bx U U U U ?_)|((with_reducible refine D.alloc ?_);refine L.al U U U ?_)|((with_reducible refine D.store ?_);refine L.st U U U U U U U U U ?_)|((with_reducible refine D.ax ?_);refine L.bd U U U U U ?_)|((with_reducible refine D.aw ?_);first|refine K.sq (AW.AU ?_)|refine K.sq (K.sq ?_)|refine AW.AU ?_|refine AW.BS U ?_|refine AW.Du U (fun h=> ?_) (fun h=> ?_)|refine AW.skip ?_|refine AW.ret ?_)|with_reducible refine K.tN ?_|with_reducible refine K.tR ?_|with_reducible refine K.r1 (by with_unfolding_all rfl) (by with_unfolding_all rfl) ?_)
   all_goals first
    |rfl
    |(exfalso;simp at h;omega)
 rw[if_neg hr] at he;rw[Bool.not_eq_true] at hr;rw[hr] at h1;have hih:∀m (hm:m<t.args.length),PC E 276 [.agg t.args[m].view,.i room] (Ip t.args[m] (C3 room t.args[m])):=fun m hm=>by
  have h5:=zc Tm.size (List.getElem_mem hm);exact ih t.args[m] (by omega) (ze hs _ (List.getElem_mem hm)) (by omega) (Nf (List.getElem_mem hm) hix)
 clear ih;refine AC.mk Tryz.func276 rfl rfl rfl rfl rfl (Nat.le_of_ble_eq_true rfl) ?_;repeat'(first|((with_reducible refine D.nil ?_);refine AX.Bd ?_)|((with_reducible refine D.load ?_);refine L.Dl U U U U U U ?_)|((with_reducible refine D.move ?_);refine L.mv U U U ?_)|((with_reducible refine D.fieldAddr ?_);refine L.Gp U U U U U ?_)|((with_reducible refine D.assign ?_);refine L.CW U U U ?_)|((with_reducible refine D.call ?_);first|refine L.JE U U U U ?_|refine L.c2 (h1) U U U U ?_)|((with_reducible refine D.box ?_);refine L.bx U U U U ?_)|((with_reducible refine D.alloc ?_);refine L.al U U U ?_)|((with_reducible refine D.aw ?_);first|refine K.sq (AW.AU ?_)|refine K.sq (K.sq ?_)|refine AW.AU ?_|refine AW.BT U ?_|refine AW.skip ?_)|with_reducible refine K.tN ?_)
 refine AW.range t.args.length (fun m=>∀j (hj:j<t.args.length),j<m->C3 room t.args[j]=none)
  (fun m=>([(1,.i room),(2,.ptr 0 0),(4,.ptr 1 0),(23,.s .tm t.args),(24,.i t.args.length),(25,.i m)],⟨2,[(0,.var t.view),(1,.var [.i 0,.i 0,.i 0,.slice .nil (.t .ty []),.slice .nil (.t .tm [])])]⟩))
  (by omega) (fun m=>rfl) (fun m=>rfl) U (fun j hj h=>by omega) (Bk.mk [some 0,some 1] _ _ _ U U U U (by(repeat'(first|exact trivial|refine And.intro ?_ ?_|refine⟨_,U,_,U,?_⟩|exact An.refl _));done) (by(repeat'(first|exact trivial|refine And.intro ?_ ?_|refine⟨_,U,_,U,_,U,?_⟩|exact An.refl _));done)) ?_ ?_
 ·intro m hm hP;have hc:=hih m hm;cases hn:C3 room t.args[m] with
  |none=>
   rw[hn] at hc;simp only[Ip,Option.map_none,Option.getD_none,Option.isSome_none] at hc;repeat'(first|((with_reducible refine D.nil ?_);refine AX.Bd ?_)|((with_reducible refine D.load ?_);first|refine L.Dl U U U U U U ?_|refine L.HH U U U U U ?_)|((with_reducible refine D.move ?_);refine L.mv U U U ?_)|((with_reducible refine D.assign ?_);refine L.CW U U U ?_)|((with_reducible refine D.call ?_);refine L.c2 (hc) U U U U ?_)|((with_reducible refine D.extract ?_);refine L.ex U U U U ?_)|((with_reducible refine D.alloc ?_);refine L.al U U U ?_)|((with_reducible refine D.store ?_);refine L.st U U U U U U U U U ?_)|((with_reducible refine D.indexAddr ?_);refine L.Dd _ U U U U U U U (by first|assumption|fail) ?_)|((with_reducible refine D.not ?_);refine L.nt U U U ?_)|((with_reducible refine D.aw ?_);first|refine K.sq (AW.AU ?_)|refine K.sq (K.sq ?_)|refine AW.AU ?_|refine AW.BS U ?_|refine AW.exit ?_)|with_reducible refine K.tN ?_|with_reducible refine K.tE ?_|with_reducible refine K.bX (by with_unfolding_all rfl) ?_)
   exact⟨rfl,yc (p:=fun x:Tm=>C3 room x=none) hm hP hn,(Bk.mk [some 0,some 1] _ _ _ U U U U (by(repeat'(first|exact trivial|refine And.intro ?_ ?_|refine⟨_,U,_,U,?_⟩|exact An.refl _));done) (by(repeat'(first|exact trivial|refine And.intro ?_ ?_|refine⟨_,U,_,U,_,U,?_⟩|exact An.refl _));done))⟩
  |some u=>
   obtain⟨u,f⟩:=u;rw[hn] at hc;simp only[Ip,Option.map_some,Option.getD_some,Option.isSome_some] at hc;have e:C3 room t=some (.mk t.kind t.index t.ty (t.args.set m u),f):=by rw[he,TQ room t.args m hm (u,f) hn hP];rfl
   rw[e];simp only[Ip,Option.map_some,Option.getD_some,Option.isSome_some];repeat'(first|((with_reducible refine D.nil ?_);refine AX.Bd ?_)|((with_reducible refine D.load ?_);first|refine L.Dl U U U U U U ?_|refine L.HH U U U U U ?_)|((with_reducible refine D.move ?_);refine L.mv U U U ?_)|((with_reducible refine D.assign ?_);refine L.CW U U U ?_)|((with_reducible refine D.call ?_);refine L.c2 (hc) U U U U ?_)|((with_reducible refine D.extract ?_);refine L.ex U U U U ?_)|((with_reducible refine D.alloc ?_);refine L.al U U U ?_)|((with_reducible refine D.store ?_);refine L.st U U U U U U U U U ?_)|((with_reducible refine D.indexAddr ?_);refine L.Dd _ U U U U U U U (by first|assumption|fail) ?_)|((with_reducible refine D.not ?_);refine L.nt U U U ?_)|((with_reducible refine D.aw ?_);(fail_if_success with_reducible refine D.EZ (id:=11) ?_);(fail_if_success with_reducible refine D.E7 (id:=11) ?_);first|refine K.sq (AW.AU ?_)|refine K.sq (K.sq ?_)|refine AW.AU ?_|refine AW.BT U ?_|refine AW.skip ?_)|with_reducible refine K.tN ?_)
   refine K.sq (AW.AU ?_);refine L.Gp rfl rfl rfl rfl rfl ?_;refine L.Dl rfl rfl rfl rfl rfl rfl ?_;refine L.N2 (te:=47) rfl rfl rfl rfl (by kernel_rfl) rfl rfl rfl rfl (by omega) (by omega) ?_;repeat'(first|((with_reducible refine D.nil ?_);refine AX.Bd ?_)|((with_reducible refine D.load ?_);refine L.Dl U U U U U U ?_)|((with_reducible refine D.move ?_);refine L.mv U U U ?_)|((with_reducible refine D.fieldAddr ?_);refine L.Gp U U U U U ?_)|((with_reducible refine D.store ?_);refine L.st U U U U U U U U U ?_)|((with_reducible refine D.aw ?_);refine K.sq (AW.AU ?_))|with_reducible refine K.tN ?_)
   refine L.DB m rfl rfl rfl rfl rfl hm rfl ?_;refine L.sta (c:= .tm) (l:=t.args) (u:=u) m rfl rfl rfl rfl rfl rfl rfl rfl hm rfl ?_;repeat'(first|((with_reducible refine D.nil ?_);refine AX.Bd ?_)|with_reducible refine K.tN ?_)
   refine AW.BP (c:= .tm) 5 t.args.length (t.args.set m u) U (by simp) (by(repeat'(first|exact trivial|exact fun _=>rfl|exact fun h=>absurd U h|exact fun h=>absurd h (by decide)|refine And.intro ?_ ?_|intro _));done) (by(repeat'(first|exact trivial|exact fun _=>rfl|exact fun h=>absurd U h|exact fun h=>absurd h (by decide)|refine And.intro ?_ ?_|intro _));done) ?_;repeat'(first|((with_reducible refine D.nil ?_);refine AX.Bd ?_)|((with_reducible refine D.load ?_);refine L.Dl U U U U U U ?_)|((with_reducible refine D.move ?_);refine L.mv U U U ?_)|((with_reducible refine D.assign ?_);refine L.CW U U U ?_)|((with_reducible refine D.store ?_);refine L.st U U U U U U U U U ?_)|((with_reducible refine D.aw ?_);first|refine K.sq (AW.AU ?_)|refine AW.ret ?_)|with_reducible refine K.tN ?_|with_reducible refine K.tR ?_|with_reducible refine K.bR ?_|with_reducible refine K.gR ?_|with_reducible refine K.r1 (by with_unfolding_all rfl) (by with_unfolding_all rfl) ?_)
   rfl
 ·intro hP;have e:C3 room t=none:=by rw[he,X5 room t.args hP];rfl
  rw[e];simp only[Ip,Option.map_none,Option.getD_none,Option.isSome_none];repeat'(first|((with_reducible refine D.nil ?_);refine AX.Bd ?_)|((with_reducible refine D.load ?_);refine L.Dl U U U U U U ?_)|((with_reducible refine D.assign ?_);refine L.CW U U U ?_)|((with_reducible refine D.store ?_);refine L.st U U U U U U U U U ?_)|((with_reducible refine D.aw ?_);first|refine K.sq (AW.AU ?_)|refine AW.ret ?_)|with_reducible refine K.tN ?_|with_reducible refine K.r1 (by with_unfolding_all rfl) (by with_unfolding_all rfl) ?_)
  simp[zj,V.wk,V.Ap,za,Tm.view]
theorem Zs7(t:Tm):∀b:Int,∀p∈t.vars b,p.2<b+t.size:=by
 induction t using Tm.ind with
 |h t ih=>
  intro b p hp;have hz:=t.size_eq;rw[t.AQ,List.mem_append] at hp;rcases hp with hp|hp
  ·split at hp
   ·simp at hp;subst hp;simp only;omega
   ·cases hp
  ·obtain ⟨x,hx,hp⟩:=List.mem_flatMap.1 hp;have h1:=ih x hx _ p hp;have h2:=zc Tm.size hx;have:up t.kind b<=b+1:=by simp only[up];split<;>omega
   omega
theorem Yaq{t:Tm}(he:t.err=0)(hf:∀p∈t.vars 0,p.1-p.2<=536870912):∀p∈t.vars 0,0<=p.1/\p.1<1073741824:=fun p hp=>by
 obtain⟨hs,hz⟩:=vt he;have h1:=t.AJ hs 0 p hp;have h2:=hf p hp;have h3:=Zs7 t 0 p hp;omega
theorem Ybc{t:Tm}(h:C3 (4096-t.size) t=none)(k n:Nat):Eh k t n=(t,(n:Int),0):=by
 cases k<;>simp only[Eh,h]
theorem QV(t:Tm)(steps:Int)(ht:t.full<274877906944):PC E 261 [.agg t.view,.i steps] (.Az [.agg (xz t steps).1.view,.i (xz t steps).2.1,.i (xz t steps).2.2]):=by
 have h1:=vo t (by omega);unfold xz;by_cases he:t.err=0;case neg=>
  rw[if_pos he];refine M.F Tryz.func261 ?_;(repeat' first|refine M.go ?_|refine M.c2 (h1) ?_|refine M.z1 4 ?_|refine M.cs ?_ ?_<;>intro h|refine M.gk ?_|fail);all_goals first
   |rfl
   |(exfalso;simp at h;exact he h)
 rw[he] at h1;rw[if_neg (by simp[he])];obtain⟨hs,hz⟩:=vt he;have h2:=Rf 536870912 (by omega) _ t (Nat.le_refl _) (by omega) hs;rw[<-Te] at h2;by_cases hst:0<=steps/\steps<=65536;case neg=>
  rw[if_pos (.inl hst)];refine M.F Tryz.func261 ?_;(repeat' first|refine M.gw ?_|refine M.c2 (h1) ?_|refine M.c2 (h2) ?_|refine M.gs ?_ ?_<;>intro h|refine M.cs ?_ ?_<;>intro h|fail);all_goals first
   |rfl
   |(exfalso;simp at h;omega)
   |(exfalso;simp at*;omega)
 cases hn:t.near with
 |false=>
  rw[hn] at h2;rw[if_pos (.inr rfl)];refine M.F Tryz.func261 ?_;(repeat' first|refine M.gw ?_|refine M.c2 (h1) ?_|refine M.c2 (h2) ?_|refine M.gs ?_ ?_<;>intro h|fail);all_goals first
   |rfl
   |(exfalso;simp at h;omega)
   |(exfalso;simp at*;omega)
 |true=>
 rw[hn] at h2;rw[if_neg (by simp[hst])];have hfr:∀p∈t.vars 0,p.1-p.2<=536870912:=fun p hp=>by have:=RU hn p hp;have:=uj t 0 p hp;omega
 generalize hR:Eh steps.toNat t 0=r;refine M.F Tryz.func261 ?_;(repeat' first|refine M.gw ?_|refine M.c2 (h1) ?_|refine M.c2 (h2) ?_|refine M.gs ?_ ?_<;>intro h|fail);all_goals first
  |(exfalso;simp at h;omega)
  |skip
 refine AW.block (AW.loop (ι:={p:Tm×Nat // p.1.err=0/\(∀q∈p.1.vars 0,q.1-q.2<=536870912)/\p.2<=steps.toNat/\Eh (steps.toNat-p.2) p.1 p.2=r})
  (fun p=>([(1,.i steps),(2,.ptr 0 0),(4,.ptr 1 0),(8,.i p.1.2)],⟨2,[(0,.var p.1.1.view),(1,.var [.i 0,.i 0,.i 0,.slice .nil (.t .ty []),.slice .nil (.t .tm [])])]⟩)) (fun p=>steps.toNat-p.1.2) ⟨(t,0),he,hfr,Nat.zero_le _,hR⟩ (M.W [some 0,some 1]) ?_)
 rintro⟨⟨x,n⟩,hx,hxf,hxn,hxe⟩;dsimp only at hx hxf hxn hxe ⊢;obtain⟨hxs,hxz⟩:=vt hx;have hfx:=z9 hx;have c1:=yu _ x (Nat.le_refl _) (by omega);have c2:=Ydp (4096-x.size) _ x (Nat.le_refl _) hxs hxz (Yaq hx hxf);have c3:=Ih _ x (Nat.le_refl _) (by omega);cases hr:C3 (4096-x.size) x with
 |none=>
  rw[hr] at c2;simp only[Ip,Option.map_none,Option.getD_none,Option.isSome_none] at c2;rw[Ybc hr] at hxe;subst hxe;(repeat' first|refine M.gw ?_|refine M.c2 (c1) ?_|refine M.c2 (c2) ?_|refine M.c2 (c3) ?_|refine M.zb ?_|fail)
  rfl
 |some y=>
  obtain⟨y,f⟩:=y;rw[hr] at c2;simp only[Ip,Option.map_some,Option.getD_some,Option.isSome_some] at c2;by_cases hns:n=steps.toNat
  ·have e:r=(A0,0,5):=by rw[<-hxe,hns,Nat.sub_self];simp only[Eh,hr]
   subst e;(repeat' first|refine M.gw ?_|refine M.c2 (c1) ?_|refine M.c2 (c2) ?_|refine M.zb ?_|refine M.cs ?_ ?_<;>intro h|fail);all_goals first
    |rfl
    |(exfalso;simp at h;omega)
    |(exfalso;simp at*;omega)
  ·obtain ⟨k,hk⟩:∃k,steps.toNat-n=k+1:=⟨steps.toNat-n-1,by omega⟩;rw[hk] at hxe;cases f with
   |false=>
    have e:r=(A0,0,4):=by rw[<-hxe];simp only[Eh,hr]
    subst e;(repeat' first|refine M.gw ?_|refine M.c2 (c1) ?_|refine M.c2 (c2) ?_|refine M.zb ?_|refine M.cs ?_ ?_<;>intro h|fail);all_goals first
     |rfl
     |(exfalso;simp at h;omega)
     |(exfalso;simp at*;omega)
   |true=>
    have e:Eh k y (n+1)=r:=by rw[<-hxe];simp only[Eh,hr]
    obtain⟨f1,f2,f3⟩:=WA _ x y hxs hr;(repeat' first|refine M.gw ?_|refine M.c2 (c1) ?_|refine M.c2 (c2) ?_|refine M.zb ?_|refine M.cs ?_ ?_<;>intro h|fail);all_goals first
     |(exfalso;simp at h;omega)
     |skip
    refine⟨⟨(y,n+1),Sw hx hr,f3 _ (by omega) 0 (by omega) hxf,by show n+1<=_;omega,by rw[show steps.toNat-(n+1)=k by omega];exact e⟩,by show steps.toNat-(n+1)<steps.toNat-n;omega,?_⟩;exact(M.W [some 0,some 1])
theorem Yf4(a b:Tm)(ha:a.full<274877906944)(hb:b.full<274877906944)(steps:Int):PC E 257 [.agg a.view,.agg b.view,.i steps] (.i (Hv a b steps)):=by
 have h1:=vo a (by omega);have h2:=vo b (by omega);have h3:=RQ _ a b (Nat.le_refl _) (by omega);have h4:=QV a steps ha;have h5:=QV b steps hb;unfold Hv;by_cases ea:a.err=0;case neg=>
  rw[if_pos ea];refine M.F Tryz.func257 ?_;(repeat' first|refine M.gw ?_|refine M.c2 (h1) ?_|refine M.cs ?_ ?_<;>intro h|fail);all_goals first
   |rfl
   |(exfalso;simp at h;exact ea h)
 rw[ea] at h1;rw[if_neg (by simp[ea])];by_cases eb:b.err=0;case neg=>
  rw[if_pos eb];refine M.F Tryz.func257 ?_;(repeat' first|refine M.gw ?_|refine M.c2 (h1) ?_|refine M.c2 (h2) ?_|refine M.cs ?_ ?_<;>intro h|fail);all_goals first
   |rfl
   |(exfalso;simp at h;exact eb h)
 rw[eb] at h2;rw[if_neg (by simp[eb])];by_cases eq:a=b
 ·rw[if_pos eq];rw[decide_eq_true eq] at h3;refine M.F Tryz.func257 ?_;(repeat' first|refine M.gw ?_|refine M.c2 (h1) ?_|refine M.c2 (h2) ?_|refine M.c2 (h3) ?_|fail)
  rfl
 rw[if_neg eq];rw[decide_eq_false eq] at h3;have g1:(xz a steps).2.2=0->(xz a steps).1.full<274877906944:=fun h=>U3 a steps h;have g2:(xz b steps).2.2=0->(xz b steps).1.full<274877906944:=fun h=>U3 b steps h;generalize xz a steps=A at*;generalize xz b steps=B at*;obtain⟨x,n,e⟩:=A;obtain⟨y,m,f⟩:=B;dsimp only at h4 h5 g1 g2 ⊢;by_cases he:e=0;case neg=>
  rw[if_pos he];refine M.F Tryz.func257 ?_;(repeat' first|refine M.gw ?_|refine M.c2 (h1) ?_|refine M.c2 (h2) ?_|refine M.c2 (h3) ?_|refine M.c2 (h4) ?_|refine M.cs ?_ ?_<;>intro h|fail);all_goals first
   |rfl
   |(exfalso;simp at h;exact he h)
 subst he;rw[if_neg (by simp)];by_cases hf:f=0;case neg=>
  rw[if_pos hf];refine M.F Tryz.func257 ?_;(repeat' first|refine M.gw ?_|refine M.c2 (h1) ?_|refine M.c2 (h2) ?_|refine M.c2 (h3) ?_|refine M.c2 (h4) ?_|refine M.c2 (h5) ?_|refine M.cs ?_ ?_<;>intro h|fail);all_goals first
   |rfl
   |(exfalso;simp at h;exact hf h)
 subst hf;rw[if_neg (by simp)];have h6:=RQ _ x y (Nat.le_refl _) (by have:=g1 rfl;omega);refine M.F Tryz.func257 ?_;(repeat' first|refine M.gw ?_|refine M.c2 (h1) ?_|refine M.c2 (h2) ?_|refine M.c2 (h3) ?_|refine M.c2 (h4) ?_|refine M.c2 (h5) ?_|refine M.c2 (h6) ?_|refine M.cs ?_ ?_<;>intro h|fail)
 ·have:¬x=y:=by simpa using h
  rw[if_neg this]
  rfl
 ·have:x=y:=by simpa using h
  rw[if_pos this]
  rfl
theorem Zwf:∀(n:Nat) (f g:Fm),f.full<=n->n<274877906944->g.full<274877906944->f.shape=true->g.shape=true->PC E 239 [.agg f.view,.agg g.view] (.i (Gw f g)):=by
 intro n;induction n with
 |zero=>intro f g h;have:=f.Aa;omega
 |succ n ih=>
 intro f g hsz hb hg hfs hgs;have hfull:=Fm.Ag f;have hgull:=Fm.Ag g;have h1:=xr _ f.ty g.ty (Nat.le_refl _) (by omega);have he:=Yh9 f g;have hl:=zd Tm.full Tm.Aa f.terms;have hl2:=zd Fm.full Fm.Aa f.args;by_cases hk:f.kind=g.kind;case neg=>
  rw[if_neg (fun h=>hk h.1)] at he;rw[he];refine M.F Tryz.func239 ?_;(repeat' first|refine M.go ?_|refine M.c2 (h1) ?_|refine M.gs ?_ ?_<;>intro h|refine M.z1 3 ?_|refine M.cs ?_ ?_<;>intro h|refine M.gk ?_|fail);all_goals first
   |rfl
   |(exfalso;simp_all;done)
 by_cases ht:f.ty=g.ty;case neg=>
  rw[if_neg (fun h=>ht h.2)] at he;rw[he];rw[decide_eq_false ht] at h1;refine M.F Tryz.func239 ?_;(repeat' first|refine M.go ?_|refine M.c2 (h1) ?_|refine M.gs ?_ ?_<;>intro h|refine M.z1 3 ?_|refine M.gk ?_|fail);all_goals first
   |rfl
   |(exfalso;simp_all;done)
 rw[if_pos ⟨hk,ht⟩] at he;rw[decide_eq_true ht] at h1;obtain⟨l1,l2⟩:=Zv8 hfs hgs hk;refine M.F Tryz.func239 ?_;(repeat' first|refine M.gw ?_|refine M.c2 (h1) ?_|refine M.gs ?_ ?_<;>intro h|fail);all_goals first
  |(exfalso;simp at h;omega)
  |(exfalso;simp at h;exact h hk)
  |skip
 refine AW.range f.terms.length (fun m=>∀j (h1:j<f.terms.length) (h2:j<g.terms.length),j<m->Hv f.terms[j] g.terms[j] 1000=0)
  (fun m=>([(2,.ptr 0 0),(3,.ptr 1 0),(24,.i f.terms.length),(25,.i m)],⟨2,[(0,.var f.view),(1,.var g.view)]⟩))
  (by omega) (fun m=>rfl) (fun m=>rfl) rfl (fun j _ _ h=>by omega) (M.W [some 0,some 1]) ?_ ?_
 ·intro m hm hP;have hm2:m<g.terms.length:=by omega
  have hs1:=zc Tm.full (List.getElem_mem hm);have hs2:=zc Tm.full (List.getElem_mem hm2);have hc:=Yf4 f.terms[m] g.terms[m] (by omega) (by omega) 1000;by_cases e0:Hv f.terms[m] g.terms[m] 1000=0
  ·rw[e0] at hc;(repeat' first|refine M.gw ?_|refine M.c2 (hc) ?_|fail);refine⟨rfl,fun j h1 h2 hj=> ?_,(M.W [some 0,some 1])⟩;by_cases hjm:j=m
   ·subst hjm;exact e0
   ·exact hP j h1 h2 (by omega)
  ·have e1:=VB f.terms g.terms m hm hm2 hP e0;rw[if_pos (by rw[e1];exact e0),e1] at he;rw[he];(repeat' first|refine M.gw ?_|refine M.c2 (hc) ?_|refine M.cs ?_ ?_<;>intro h|fail)
   ·rfl
   ·exfalso;simp at h;exact e0 h
 ·intro hP;have e1:=Yd f.terms g.terms fun j h1 h2=>hP j h1 h2 (by omega);rw[if_neg (by simp[e1])] at he;(repeat' first|refine M.gw ?_|fail);refine AW.range f.args.length (fun m=>∀j (h1:j<f.args.length) (h2:j<g.args.length),j<m->Gw f.args[j] g.args[j]=0)
   (fun m=>([(2,.ptr 0 0),(3,.ptr 1 0),(45,.i f.args.length),(46,.i m)],⟨2,[(0,.var f.view),(1,.var g.view)]⟩))
   (by omega) (fun m=>rfl) (fun m=>rfl) rfl (fun j _ _ h=>by omega) (M.W [some 0,some 1]) ?_ ?_
  ·intro m hm hP2;have hm2:m<g.args.length:=by omega
   have hs1:=zc Fm.full (List.getElem_mem hm);have hs2:=zc Fm.full (List.getElem_mem hm2);have hc:=ih f.args[m] g.args[m] (by omega) (by omega) (by omega) (zw hfs (List.getElem_mem hm)) (zw hgs (List.getElem_mem hm2));by_cases e0:Gw f.args[m] g.args[m]=0
   ·rw[e0] at hc;(repeat' first|refine M.gw ?_|refine M.c2 (hc) ?_|fail);refine⟨rfl,fun j h1 h2 hj=> ?_,(M.W [some 0,some 1])⟩;by_cases hjm:j=m
    ·subst hjm;exact e0
    ·exact hP2 j h1 h2 (by omega)
   ·have e3:=V0 f.args g.args m hm hm2 hP2 e0;rw[e3] at he;rw[he];(repeat' first|refine M.gw ?_|refine M.c2 (hc) ?_|refine M.cs ?_ ?_<;>intro h|fail)
    ·rfl
    ·exfalso;simp at h;exact e0 h
  ·intro hP2;have e3:=X4 f.args g.args fun j h1 h2=>hP2 j h1 h2 (by omega);rw[e3] at he;rw[he];(repeat' first|refine M.gw ?_|fail)
   rfl
theorem Zyf:∀(n:Nat) (p:Pf),p.full<=n->n<549755813888->PC E 186 [.agg p.view] (.i p.size):=by
 intro n;induction n with
 |zero=>intro p h;have:=p.Aa;omega
 |succ n ih=>
 intro p hsz hn;have hsz':=p.Ag;have hse:=p.size_eq;have hlen:=zd Pf.full Pf.Aa p.args;have hlen1:=zd Fm.full Fm.Aa p.Ac;have hlen2:=zd Tm.full Tm.Aa p.terms;have hle0:=y0 (f:=Tm.size) (g:=Tm.full) p.terms fun x _=>x.Aj;have hle1:=y0 (f:=Fm.size) (g:=Fm.full) p.Ac fun x _=>x.Aj;have hle2:=y0 (f:=Pf.size) (g:=Pf.full) p.args fun x _=>x.Aj;refine M.F Tryz.func186 ?_;(repeat' first|refine M.gw ?_|fail);refine AW.range p.terms.length (fun m=>True)
  (fun m=>([(1,.ptr 0 0),(3,.i (1+((p.terms.take m).map Tm.size).sum:Nat)),(11,.s .tm p.terms),(12,.i p.terms.length),(13,.i m)],⟨1,[(0,.var p.view)]⟩))
  (by omega) (fun m=>rfl) (fun m=>rfl) rfl trivial (M.W [some 0]) ?_ ?_
 ·intro m hm _;have hs1:=yl Tm.size p.terms m hm;have hs2:=zc Tm.full (List.getElem_mem hm);have hs3:=zn Tm.size p.terms (m+1);have hc:=yu _ p.terms[m] (Nat.le_refl _) (by omega);(repeat' first|refine M.gw ?_|refine M.c2 (hc) ?_|fail);refine⟨rfl,trivial,?_⟩;simp only[hs1];exact(M.W [some 0] (hf:=(by(repeat'(first|exact trivial|refine And.intro ?_ ?_|refine⟨_,U,_,U,?_⟩|exact An.refl _|exact An.of_eq (by simp[Ao.Ax,Int.natCast_add,Int.add_assoc])));done)))
 ·intro _;simp only[List.take_length];(repeat' first|refine M.gw ?_|fail);refine AW.range p.Ac.length (fun m=>True)
   (fun m=>([(1,.ptr 0 0),(3,.i (1+(p.terms.map Tm.size).sum+((p.Ac.take m).map Fm.size).sum:Nat)),(23,.s .fm p.Ac),(24,.i p.Ac.length),(25,.i m)],⟨1,[(0,.var p.view)]⟩))
   (by omega) (fun m=>rfl) (fun m=>rfl) rfl trivial (M.W [some 0]) ?_ ?_
  ·intro m hm _;have hs1:=yl Fm.size p.Ac m hm;have hs2:=zc Fm.full (List.getElem_mem hm);have hs3:=zn Fm.size p.Ac (m+1);have hc:=NP _ p.Ac[m] (Nat.le_refl _) (by omega);(repeat' first|refine M.gw ?_|refine M.c2 (hc) ?_|fail);refine⟨rfl,trivial,?_⟩;simp only[hs1];exact(M.W [some 0] (hf:=(by(repeat'(first|exact trivial|refine And.intro ?_ ?_|refine⟨_,U,_,U,?_⟩|exact An.refl _|exact An.of_eq (by simp[Ao.Ax,Int.natCast_add,Int.add_assoc])));done)))
  ·intro _;simp only[List.take_length];(repeat' first|refine M.gw ?_|fail);refine AW.range p.args.length (fun m=>True)
    (fun m=>([(1,.ptr 0 0),(3,.i (1+(p.terms.map Tm.size).sum+(p.Ac.map Fm.size).sum+((p.args.take m).map Pf.size).sum:Nat)),(35,.s .pf p.args),(36,.i p.args.length),(37,.i m)],⟨1,[(0,.var p.view)]⟩))
    (by omega) (fun m=>rfl) (fun m=>rfl) rfl trivial (M.W [some 0]) ?_ ?_
   ·intro m hm _;have hs1:=yl Pf.size p.args m hm;have hs2:=zc Pf.full (List.getElem_mem hm);have hs3:=zn Pf.size p.args (m+1);have hc:=ih p.args[m] (by omega) (by omega);(repeat' first|refine M.gw ?_|refine M.c2 (hc) ?_|fail);refine⟨rfl,trivial,?_⟩;simp only[hs1];exact(M.W [some 0] (hf:=(by(repeat'(first|exact trivial|refine And.intro ?_ ?_|refine⟨_,U,_,U,?_⟩|exact An.refl _|exact An.of_eq (by simp[Ao.Ax,Int.natCast_add,Int.add_assoc])));done)))
   ·intro _;simp only[List.take_length];(repeat' first|refine M.gw ?_|fail);rw[hse]
    rfl
theorem Zyq:∀(n:Nat) (p:Pf),p.full<=n->n<549755813888->PC E 185 [.agg p.view] (.bool p.small):=by
 intro n;induction n with
 |zero=>intro p h;have:=p.Aa;omega
 |succ n ih=>
 intro p hsz hn;have hsz':=p.Ag;have hse:=p.BZ;have hlen:=zd Pf.full Pf.Aa p.args;have hlen1:=zd Fm.full Fm.Aa p.Ac;have hlen2:=zd Tm.full Tm.Aa p.terms;refine M.F Tryz.func185 ?_;(repeat' first|refine M.gw ?_|fail);refine AW.range p.terms.length (fun m=>∀j (hj:j<p.terms.length),j<m->decide (p.terms[j].size<=4096)=true)
  (fun m=>([(1,.ptr 0 0),(10,.s .tm p.terms),(11,.i p.terms.length),(12,.i m)],⟨1,[(0,.var p.view)]⟩))
  (by omega) (fun m=>rfl) (fun m=>rfl) rfl (fun j hj h=>by omega) (M.W [some 0]) ?_ ?_
 ·intro m hm hP;have hs2:=zc Tm.full (List.getElem_mem hm);have hc:=yu _ p.terms[m] (Nat.le_refl _) (by omega);have hle:=p.terms[m].Aj;(repeat' first|refine M.gw ?_|refine M.c2 (hc) ?_|refine M.cs ?_ ?_<;>intro h|fail)
  ·have e:p.small=false:=by
    rw[hse,vh (fun t:Tm=>decide (t.size<=4096)) hm (by simp at h ⊢;omega)];rfl
   rw[e];rfl
  ·exact ⟨rfl,yc (p:=fun t:Tm=>decide (t.size<=4096)=true) hm hP (by simp at h ⊢;omega),(M.W [some 0])⟩
 ·intro hP;have a1:=Fk (fun t:Tm=>decide (t.size<=4096)) p.terms fun j hj=>hP j hj hj;rw[a1,Bool.true_and] at hse;(repeat' first|refine M.gw ?_|fail);refine AW.range p.Ac.length (fun m=>∀j (hj:j<p.Ac.length),j<m->decide (p.Ac[j].size<=4096)=true)
   (fun m=>([(1,.ptr 0 0),(21,.s .fm p.Ac),(22,.i p.Ac.length),(23,.i m)],⟨1,[(0,.var p.view)]⟩))
   (by omega) (fun m=>rfl) (fun m=>rfl) rfl (fun j hj h=>by omega) (M.W [some 0]) ?_ ?_
  ·intro m hm hP;have hs2:=zc Fm.full (List.getElem_mem hm);have hc:=NP _ p.Ac[m] (Nat.le_refl _) (by omega);have hle:=p.Ac[m].Aj;(repeat' first|refine M.gw ?_|refine M.c2 (hc) ?_|refine M.cs ?_ ?_<;>intro h|fail)
   ·have e:p.small=false:=by
     rw[hse,vh (fun t:Fm=>decide (t.size<=4096)) hm (by simp at h ⊢;omega)];rfl
    rw[e];rfl
   ·exact ⟨rfl,yc (p:=fun t:Fm=>decide (t.size<=4096)=true) hm hP (by simp at h ⊢;omega),(M.W [some 0])⟩
  ·intro hP;have a1:=Fk (fun t:Fm=>decide (t.size<=4096)) p.Ac fun j hj=>hP j hj hj;rw[a1,Bool.true_and] at hse;(repeat' first|refine M.gw ?_|fail);refine AW.range p.args.length (fun m=>∀j (hj:j<p.args.length),j<m->p.args[j].small=true)
    (fun m=>([(1,.ptr 0 0),(32,.s .pf p.args),(33,.i p.args.length),(34,.i m)],⟨1,[(0,.var p.view)]⟩))
    (by omega) (fun m=>rfl) (fun m=>rfl) rfl (fun j hj h=>by omega) (M.W [some 0]) ?_ ?_
   ·intro m hm hP;have hs2:=zc Pf.full (List.getElem_mem hm);have hc:=ih p.args[m] (by omega) (by omega);cases hb:p.args[m].small with
    |false=>
     rw[hb] at hc;have e:p.small=false:=by rw[hse,vh Pf.small hm hb]
     rw[e];(repeat' first|refine M.gw ?_|refine M.c2 (hc) ?_|fail)
     rfl
    |true=>
     rw[hb] at hc;(repeat' first|refine M.gw ?_|refine M.c2 (hc) ?_|fail);exact⟨rfl,yc (p:=fun t:Pf=>t.small=true) hm hP hb,(M.W [some 0])⟩
   ·intro hP;have e:p.small=true:=by rw[hse];exact Fk Pf.small p.args fun j hj=>hP j hj hj
    rw[e];(repeat' first|refine M.gw ?_|fail)
    rfl
theorem X8(p:Pf)(hp:p.full<549755813888):PC E 130 [.agg p.view] (.bool (p.small&&decide (p.size<=16384))):=by
 have h1:=Zyq _ p (Nat.le_refl _) hp;have h2:=Zyf _ p (Nat.le_refl _) hp;have h3:=p.Aj;cases hs:p.small with
 |false=>
  rw[hs] at h1;refine M.F Tryz.func130 ?_;(repeat' first|refine M.gw ?_|refine M.c2 (h1) ?_|fail)
  rfl
 |true=>
  rw[hs] at h1;have e:decide (((p.size:Nat):Int)<=16384)=decide (p.size<=16384):=by rw[decide_eq_decide];omega
  refine M.F Tryz.func130 ?_;(repeat' first|refine M.gw ?_|refine M.c2 (h1) ?_|refine M.c2 (h2) ?_|fail);simp[zj,V.wk,V.Ap,za,e]
theorem Yau(k:Int):PC E 183 [.i k] (.Az [.agg ((BO k).getD SW).view,.bool (BO k).isSome]):=by
 by_cases hk:1<=k/\k<=20
 ·have:k=1\/k=2\/k=3\/k=4\/k=5\/k=6\/k=7\/k=8\/k=9\/k=10\/k=11\/k=12\/k=13\/k=14\/k=15\/k=16\/k=17\/k=18\/k=19\/k=20:=by omega
  rcases this with rfl|rfl|rfl|rfl|rfl|rfl|rfl|rfl|rfl|rfl|rfl|rfl|rfl|rfl|rfl|rfl|rfl|rfl|rfl|rfl;all_goals(refine M.F Tryz.func183 ?_)
  all_goals(repeat'(first|refine M.gw ?_|refine M.bl ?_|fail))
  all_goals rfl
 ·have e:BO k=none:=by
   unfold BO
   repeat rw[if_neg (by omega)]
  rw[e];have b:∀j:Int,1<=j->j<=20->¬(k==j)=true:=fun j h1 h2 h=>by simp at h;omega
  have b1:=b 1 (by omega) (by omega);have b2:=b 2 (by omega) (by omega);have b3:=b 3 (by omega) (by omega);have b4:=b 4 (by omega) (by omega);have b5:=b 5 (by omega) (by omega);have b6:=b 6 (by omega) (by omega);have b7:=b 7 (by omega) (by omega);have b8:=b 8 (by omega) (by omega);have b9:=b 9 (by omega) (by omega);have b10:=b 10 (by omega) (by omega);have b11:=b 11 (by omega) (by omega);have b12:=b 12 (by omega) (by omega);have b13:=b 13 (by omega) (by omega);have b14:=b 14 (by omega) (by omega);have b15:=b 15 (by omega) (by omega);have b16:=b 16 (by omega) (by omega);have b17:=b 17 (by omega) (by omega);have b18:=b 18 (by omega) (by omega);have b19:=b 19 (by omega) (by omega);have b20:=b 20 (by omega) (by omega);refine M.F Tryz.func183 ?_;(repeat' first|refine M.gw ?_|refine M.bl ?_|refine M.cs ?_ ?_<;>intro h|fail);all_goals first
   |contradiction
   |rfl
theorem Zuz:∀(n:Nat) (p:Pf),p.full<=n->n<549755813888->PC E 129 [.agg p.view] (.bool p.shape):=by
 intro n;induction n with
 |zero=>intro p h;have:=p.Aa;omega
 |succ n ih=>
 intro p hsz hn;have hsz':=p.Ag;have hse:=p.Ak;have hlen:=zd Pf.full Pf.Aa p.args;have hlen1:=zd Fm.full Fm.Aa p.Ac;have hlen2:=zd Tm.full Tm.Aa p.terms;have h1:=Yau p.kind;cases hnd:BO p.kind with
 |none=>
  have e:p.shape=false:=by rw[hse];simp[Pf.head,hnd]
  rw[hnd] at h1;rw[e];refine M.F Tryz.func129 ?_;(repeat' first|refine M.gw ?_|refine M.c2 (h1) ?_|fail)
  rfl
 |some nd=>
 rw[hnd] at h1;simp only[Option.getD_some,Option.isSome_some] at h1;have h3:=RA p.ty;have h4:=KB p.ty (by omega);have hok:=Rw p.ty;refine M.F Tryz.func129 ?_;(repeat' first|refine M.gw ?_|refine M.c2 (h1) ?_|refine M.c2 (h3) ?_|refine M.c2 (h4) ?_|refine M.gs ?_ ?_<;>intro h|refine M.cs ?_ ?_<;>intro h|fail);all_goals first
  |(have hd:p.head=false:=by(simp only[Pf.head,hnd];simp_all;done)
    have:p.shape=false:=by rw[hse,hd];rfl
    simp[this,zj,za,V.wk,V.Ap];done)
  |(have hd:p.head=false:=by(simp only[Pf.head,hnd];simp_all;omega)
    have:p.shape=false:=by rw[hse,hd];rfl
    simp[this,zj,za,V.wk,V.Ap];done)
  |(have hd:p.head=true:=by(simp only[Pf.head,hnd];simp_all;try omega)
    rw[hd,Bool.true_and] at hse;refine AW.range p.terms.length (fun m=>∀j (hj:j<p.terms.length),j<m->p.terms[j].shape=true)
     (fun m=>([(1,.ptr 0 0),(78,.s .tm p.terms),(79,.i p.terms.length),(80,.i m)],⟨2,[(0,.var p.view),(1,.var nd.view)]⟩))
     (by omega) (fun m=>rfl) (fun m=>rfl) rfl (fun j hj h=>by omega) (M.W [some 0,some 1]) ?_ ?_
    ·intro m hm hP;have hs2:=zc Tm.full (List.getElem_mem hm);have hc:=SK _ p.terms[m] (Nat.le_refl _) (by omega);cases hb:p.terms[m].shape with
     |false=>
      rw[hb] at hc;have e:p.shape=false:=by rw[hse,vh Tm.shape hm hb];rfl
      rw[e];(repeat' first|refine M.gw ?_|refine M.c2 (hc) ?_|fail)
      rfl
     |true=>
      rw[hb] at hc;(repeat' first|refine M.gw ?_|refine M.c2 (hc) ?_|fail);exact⟨rfl,yc (p:=fun t:Tm=>t.shape=true) hm hP hb,(M.W [some 0,some 1])⟩
    ·intro hP;have a1:=Fk Tm.shape p.terms fun j hj=>hP j hj hj;rw[a1,Bool.true_and] at hse;(repeat' first|refine M.gw ?_|fail);refine AW.range p.Ac.length (fun m=>∀j (hj:j<p.Ac.length),j<m->p.Ac[j].shape=true)
      (fun m=>([(1,.ptr 0 0),(89,.s .fm p.Ac),(90,.i p.Ac.length),(91,.i m)],⟨2,[(0,.var p.view),(1,.var nd.view)]⟩))
      (by omega) (fun m=>rfl) (fun m=>rfl) rfl (fun j hj h=>by omega) (M.W [some 0,some 1]) ?_ ?_
     ·intro m hm hP;have hs2:=zc Fm.full (List.getElem_mem hm);have hc:=UZ _ p.Ac[m] (Nat.le_refl _) (by omega);cases hb:p.Ac[m].shape with
      |false=>
       rw[hb] at hc;have e:p.shape=false:=by rw[hse,vh Fm.shape hm hb];rfl
       rw[e];(repeat' first|refine M.gw ?_|refine M.c2 (hc) ?_|fail)
       rfl
      |true=>
       rw[hb] at hc;(repeat' first|refine M.gw ?_|refine M.c2 (hc) ?_|fail);exact⟨rfl,yc (p:=fun t:Fm=>t.shape=true) hm hP hb,(M.W [some 0,some 1])⟩
     ·intro hP;have a1:=Fk Fm.shape p.Ac fun j hj=>hP j hj hj;rw[a1,Bool.true_and] at hse;(repeat' first|refine M.gw ?_|fail);refine AW.range p.args.length (fun m=>∀j (hj:j<p.args.length),j<m->p.args[j].shape=true)
       (fun m=>([(1,.ptr 0 0),(100,.s .pf p.args),(101,.i p.args.length),(102,.i m)],⟨2,[(0,.var p.view),(1,.var nd.view)]⟩))
       (by omega) (fun m=>rfl) (fun m=>rfl) rfl (fun j hj h=>by omega) (M.W [some 0,some 1]) ?_ ?_
      ·intro m hm hP;have hs2:=zc Pf.full (List.getElem_mem hm);have hc:=ih p.args[m] (by omega) (by omega);cases hb:p.args[m].shape with
       |false=>
        rw[hb] at hc;have e:p.shape=false:=by rw[hse,vh Pf.shape hm hb]
        rw[e];(repeat' first|refine M.gw ?_|refine M.c2 (hc) ?_|fail)
        rfl
       |true=>
        rw[hb] at hc;(repeat' first|refine M.gw ?_|refine M.c2 (hc) ?_|fail);exact⟨rfl,yc (p:=fun t:Pf=>t.shape=true) hm hP hb,(M.W [some 0,some 1])⟩
      ·intro hP;have e:p.shape=true:=by rw[hse];exact Fk Pf.shape p.args fun j hj=>hP j hj hj
       rw[e];(repeat' first|refine M.gw ?_|fail)
       rfl)
theorem TE(p:Pf)(hp:p.full<549755813888):PC E 72 [.agg p.view] (.i p.err):=by
 have h1:=Zuz _ p (Nat.le_refl _) hp;have h2:=X8 p hp;cases hs:p.shape with
 |false=>
  have e:p.err=2:=by simp[Pf.err,hs]
  rw[hs] at h1;rw[e];refine M.F Tryz.func72 ?_;(repeat' first|refine M.gw ?_|refine M.c2 (h1) ?_|fail)
  rfl
 |true=>
  rw[hs] at h1;cases hf:p.small&&decide (p.size<=16384) with
  |false=>
   have e:p.err=4:=by
    simp only[Pf.err,hs];rw[if_neg (by simp),if_pos];cases hm:p.small with
    |false=>exact .inl rfl
    |true=>rw[hm] at hf;simp at hf;exact .inr hf
   rw[hf] at h2;rw[e];refine M.F Tryz.func72 ?_;(repeat' first|refine M.gw ?_|refine M.c2 (h1) ?_|refine M.c2 (h2) ?_|fail)
   rfl
  |true=>
   have e:p.err=0:=by simp at hf;exact(Pf.Ae p).2 ⟨hs,hf.1,hf.2⟩
   rw[hf] at h2;rw[e];refine M.F Tryz.func72 ?_;(repeat' first|refine M.gw ?_|refine M.c2 (h1) ?_|refine M.c2 (h2) ?_|fail)
   rfl
def pr0:Tm:= .mk 10 0 (.mk 0 []) [.mk 4 0 (.mk 0 []) [],.mk 7 0 (.mk 0 []) []]
def Pn:Tm:= .mk 11 0 (.mk 0 []) [pr0]
def zer0:Tm:= .mk 4 0 (.mk 0 []) []
def Tv:Pf:= .mk 18 0 (.mk 0 []) [Pn] [] []
theorem Xt(f g:Fm)(hf:f.full<274877906944)(hg:g.full<274877906944):PC E 217 [.agg f.view,.agg g.view] (.i (KZ f g)):=by
 have h1:=KI f (by omega);have h2:=KI g (by omega);unfold KZ;by_cases ef:f.err=0;case neg=>
  rw[if_pos ef];refine M.F Tryz.func217 ?_;(repeat' first|refine M.gw ?_|refine M.c2 (h1) ?_|refine M.cs ?_ ?_<;>intro h|fail);all_goals first
   |rfl
   |(exfalso;simp at h;exact ef h)
 rw[ef] at h1;rw[if_neg (by simp[ef])];by_cases eg:g.err=0;case neg=>
  rw[if_pos eg];refine M.F Tryz.func217 ?_;(repeat' first|refine M.gw ?_|refine M.c2 (h1) ?_|refine M.c2 (h2) ?_|refine M.cs ?_ ?_<;>intro h|fail);all_goals first
   |rfl
   |(exfalso;simp at h;exact eg h)
 rw[eg] at h2;rw[if_neg (by simp[eg])];have h3:=Zwf _ f g (Nat.le_refl _) hf hg ((Fm.Ae f).1 ef).1 ((Fm.Ae g).1 eg).1;refine M.F Tryz.func217 ?_;(repeat' first|refine M.gw ?_|refine M.c2 (h1) ?_|refine M.c2 (h2) ?_|refine M.c2 (h3) ?_|fail)
 rfl
theorem Yca(a b:Tm):PC E 228 [.agg (AP a b).view] (.bool false):=by
 unfold AP;refine M.F Tryz.func228 ?_;(repeat' first|refine M.gw ?_|refine M.bl ?_|fail)
 rfl
end Go.Ab
