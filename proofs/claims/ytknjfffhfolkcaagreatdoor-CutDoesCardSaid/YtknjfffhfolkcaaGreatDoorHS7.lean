/- A part of this seat's proofs. No conditions. -/
import Derived.Test.YtknjfffhfolkcaaGreatDoorHS6
namespace Go.Ab
open Go Go.Proofs
set_option maxRecDepth 100000
set_option maxHeartbeats 4000000
set_option linter.all false
theorem QS(k:Int):PC E 113 [.i k] (.bool (xg k)):=by
 have e:xg k=decide (k=4\/k=5\/k=6\/k=7):=by rw[Xm,Bj,decide_eq_true_iff];omega
 rw[e];refine M.F Tryz.func113 ?_;(repeat' first|refine M.gw ?_|refine M.gs ?_ ?_<;>intro h|fail);all_goals(simp_all[zk,V.wk,V.Ap,zc];try(first|omega|(rw[Xm];simp)))
theorem MH(f:Fm):PC E 85 [.agg f.view] (.i (A3 f.kind 0)):=by
 have h1:=QS f.kind;cases hq:xg f.kind with
 |true=>
  have e:A3 f.kind 0=1:=by simp[A3,hq]
  rw[hq] at h1;rw[e];refine M.F Tryz.func85 ?_;(repeat' first|refine M.gw ?_|refine M.c2 (h1) ?_|fail)
  rfl
 |false=>
  have e:A3 f.kind 0=0:=by simp[A3,hq]
  rw[hq] at h1;rw[e];refine M.F Tryz.func85 ?_;(repeat' first|refine M.gw ?_|refine M.c2 (h1) ?_|fail)
  rfl
theorem MX(k b:Int):b+A3 k 0=A3 k b:=by simp only[A3];split<;>omega
theorem Qi(t:Ty):t.ok=(t.err==0):=Ty.Eo t
theorem Zyo{f:Fm}(hk:f.kind=1):f.shape=(decide (f.args.length=0)&&f.ty.BL&&decide (f.terms.length=2)&&f.terms.all Tm.shape):=by
 rw[Fm.Al];simp only[Fm.head,hk,if_true];by_cases h:f.args.length=0
 .have ha:f.args=[]:=XC.1 h;rw[ha];cases f.ty.BL<;>simp;rw[Xm];simp
 .simp[h]
theorem Zt7{f:Fm}(hk:f.kind=2\/f.kind=3):f.shape=(decide (f.terms.length=0)&&f.ty.BL&&decide (f.args.length=2)&&f.args.all Fm.shape):=by
 rw[Fm.Al];have h1:¬f.kind=1:=by omega
 simp only[Fm.head,if_neg h1,if_pos hk];by_cases h:f.terms.length=0
 .have ha:f.terms=[]:=XC.1 h;rw[ha];cases f.ty.BL<;>simp;rw[Xm];simp
 .simp[h]
theorem UP{f:Fm}(hk:xg f.kind=true):f.shape=(decide (f.terms.length=0)&&f.ty.ok&&decide (f.args.length=1)&&f.args.all Fm.shape):=by
 rw[Fm.Al];rw[Bj] at hk;have h1:¬f.kind=1:=by omega
 have h2:¬(f.kind=2\/f.kind=3):=by omega
 have h3:f.kind=4\/f.kind=5\/f.kind=6\/f.kind=7:=by omega
 simp only[Fm.head,if_neg h1,if_neg h2,if_pos h3];by_cases h:f.terms.length=0
 .have ha:f.terms=[]:=XC.1 h;rw[ha];cases f.ty.ok<;>simp;rw[Xm];simp
 .simp[h]
theorem Ybp{f:Fm}(h1:f.kind≠1)(h2:¬(f.kind=2\/f.kind=3))(h3:xg f.kind=false):f.shape=false:=by
 rw[Fm.Al];have h4:¬(f.kind=4\/f.kind=5\/f.kind=6\/f.kind=7):=by
  intro hc;have:xg f.kind=true:=by rw[Bj];omega
  rw[h3] at this;cases this
 simp only[Fm.head,if_neg h1,if_neg h2,if_neg h4,Xo]
theorem RA:∀(n:Nat) (f:Fm),f.full<=n->n<549755813888->PC E 122 [.agg f.view] (.bool f.shape):=by
 intro n;induction n with
 |zero=>intro f h;have:=f.Aa;omega
 |succ n ih=>
 intro f hsz hn;have hsz':=f.Af;have hlen:=zd Fm.full Fm.Aa f.args;have hlen2:=zd Tm.full Tm.Aa f.terms;have hz:=Qx f.ty;have hty:=u9 f.ty (by omega);have hq:=QS f.kind;have ht:∀x∈f.terms,PC E 121 [.agg x.view] (.bool x.shape):=fun x hx=>QE _ x (Wj _) (by have:=za Tm.full hx;omega);have ha:∀x∈f.args,PC E 122 [.agg x.view] (.bool x.shape):=fun x hx=>ih x (by have:=za Fm.full hx;omega) (by omega);clear ih;by_cases k1:f.kind=1
 .have e:=Zyo k1;obtain⟨k,ty,ts,fs⟩:=f;simp only[Fm.Ai,Fm.AQ,Fm.Ah,Fm.Ae] at*;subst k1;by_cases hl:ts.length=2
  .obtain ⟨a,b,rfl⟩:=NK hl;have t1:=ht a (by simp);have t2:=ht b (by simp);rw[e];refine M.F Tryz.func122 ?_;(repeat' first|refine M.gw ?_|refine M.c2 (hz) ?_|refine M.c2 (t1) ?_|refine M.c2 (t2) ?_|refine M.gs ?_ ?_<;>intro h|refine M.zb ?_|fail);all_goals(simp at*;simp_all[zk,V.wk,V.Ap,zc];done)
  .have e2:(Fm.mk 1 ty ts fs).shape=false:=by rw[e];simp[hl]
   rw[e2];refine M.F Tryz.func122 ?_;(repeat' first|refine M.gw ?_|refine M.c2 (hz) ?_|refine M.gs ?_ ?_<;>intro h|refine M.zb ?_|fail);all_goals first|simp at*;simp_all[zk,V.wk,V.Ap,zc];done|exfalso;simp at*;omega
 by_cases k2:f.kind=2\/f.kind=3
 .have e:=Zt7 k2;obtain⟨k,ty,ts,fs⟩:=f;simp only[Fm.Ai,Fm.AQ,Fm.Ah,Fm.Ae] at*;by_cases hl:fs.length=2
  .obtain ⟨a,b,rfl⟩:=NK hl;have t1:=ha a (by simp);have t2:=ha b (by simp);rw[e];rcases k2 with rfl|rfl;all_goals
    refine M.F Tryz.func122 ?_;(repeat' first|refine M.gw ?_|refine M.c2 (hz) ?_|refine M.c2 (t1) ?_|refine M.c2 (t2) ?_|refine M.gs ?_ ?_<;>intro h|refine M.zb ?_|fail);all_goals(simp at*;simp_all[zk,V.wk,V.Ap,zc];done)
  .have e2:(Fm.mk k ty ts fs).shape=false:=by rw[e];simp[hl]
   rw[e2];rcases k2 with rfl|rfl;all_goals
    refine M.F Tryz.func122 ?_;(repeat' first|refine M.gw ?_|refine M.c2 (hz) ?_|refine M.gs ?_ ?_<;>intro h|refine M.zb ?_|fail);all_goals first|simp at*;simp_all[zk,V.wk,V.Ap,zc];done|exfalso;simp at*;omega
 cases k3:xg f.kind with
 |true=>
  have e:=UP k3;rw[k3] at hq;have hk:f.kind=4\/f.kind=5\/f.kind=6\/f.kind=7:=by rw[Bj] at k3;omega
  obtain⟨k,ty,ts,fs⟩:=f;simp only[Fm.Ai,Fm.AQ,Fm.Ah,Fm.Ae] at*;rw[Qi] at e;by_cases hl:fs.length=1
  .obtain ⟨a,rfl⟩:=Qh hl;have t1:=ha a (by simp);rw[e];rcases hk with rfl|rfl|rfl|rfl;all_goals
    refine M.F Tryz.func122 ?_;(repeat' first|refine M.gw ?_|refine M.c2 (hty) ?_|refine M.c2 (hq) ?_|refine M.c2 (t1) ?_|refine M.gs ?_ ?_<;>intro h|refine M.zb ?_|fail);all_goals(simp at*;simp_all[zk,V.wk,V.Ap,zc];done)
  .have e2:(Fm.mk k ty ts fs).shape=false:=by rw[e];simp[hl]
   rw[e2];rcases hk with rfl|rfl|rfl|rfl;all_goals
    refine M.F Tryz.func122 ?_;(repeat' first|refine M.gw ?_|refine M.c2 (hty) ?_|refine M.c2 (hq) ?_|refine M.gs ?_ ?_<;>intro h|refine M.zb ?_|fail);all_goals first|simp at*;simp_all[zk,V.wk,V.Ap,zc];done|exfalso;simp at*;omega
 |false=>
  have e:=Ybp k1 k2 k3;rw[k3] at hq;rw[e];refine M.F Tryz.func122 ?_;(repeat' first|refine M.gw ?_|refine M.c2 (hq) ?_|refine M.gs ?_ ?_<;>intro h|refine M.zb ?_|refine M.cs ?_ ?_<;>intro h|fail);all_goals first
   |rfl
   |(exfalso;simp at*;omega)
theorem JY:∀(n:Nat) (f:Fm),f.full<=n->n<549755813888->PC E 153 [.agg f.view] (.i f.size):=by
 intro n;induction n with
 |zero=>intro f h;have:=f.Aa;omega
 |succ n ih=>
 intro f hsz hn;have hsz':=f.Af;have hse:=f.size_eq;have hlen:=zd Fm.full Fm.Aa f.args;have hlen2:=zd Tm.full Tm.Aa f.terms;have hle1:=yw (f:=Tm.size) (g:=Tm.full) f.terms fun x _=>x.Aj;have hle2:=yw (f:=Fm.size) (g:=Fm.full) f.args fun x _=>x.Aj;refine M.F Tryz.func153 ?_;(repeat' first|refine M.gw ?_|fail);refine AW.range f.terms.length (fun m=>True)
  (fun m=>([(1,.ptr 0 0),(3,.i (1+((f.terms.take m).map Tm.size).sum:Nat)),(9,.s .tm f.terms),(10,.i f.terms.length),(11,.i m)],⟨1,[(0,.var f.view)]⟩))
  (by omega) (fun m=>rfl) (fun m=>rfl) rfl trivial (M.W [some 0]) ?_ ?_
 .intro m hm _;have hs1:=yk Tm.size f.terms m hm;have hs2:=za Tm.full (Wi hm);have hs3:=zm Tm.size f.terms (m+1);have hc:=yl _ f.terms[m] (Wj _) (by omega);(repeat' first|refine M.gw ?_|refine M.c2 (hc) ?_|fail);refine⟨rfl,trivial,?_⟩;simp only[hs1];exact(M.W [some 0] (hf:=(by(repeat'(first|exact trivial|refine And.intro ?_ ?_|refine⟨_,U,_,U,?_⟩|exact Ao.refl _|exact Ao.of_eq (by simp[Aq.Ay,W5,Xy])));done)))
 .intro _;simp only[Wp];(repeat' first|refine M.gw ?_|fail);refine AW.range f.args.length (fun m=>True)
   (fun m=>([(1,.ptr 0 0),(3,.i (1+(f.terms.map Tm.size).sum+((f.args.take m).map Fm.size).sum:Nat)),(21,.s .fm f.args),(22,.i f.args.length),(23,.i m)],⟨1,[(0,.var f.view)]⟩))
   (by omega) (fun m=>rfl) (fun m=>rfl) rfl trivial (M.W [some 0]) ?_ ?_
  .intro m hm _;have hs1:=yk Fm.size f.args m hm;have hs2:=za Fm.full (Wi hm);have hs3:=zm Fm.size f.args (m+1);have hc:=ih f.args[m] (by omega) (by omega);(repeat' first|refine M.gw ?_|refine M.c2 (hc) ?_|fail);refine⟨rfl,trivial,?_⟩;simp only[hs1];exact(M.W [some 0] (hf:=(by(repeat'(first|exact trivial|refine And.intro ?_ ?_|refine⟨_,U,_,U,?_⟩|exact Ao.refl _|exact Ao.of_eq (by simp[Aq.Ay,W5,Xy])));done)))
  .intro _;simp only[Wp];(repeat' first|refine M.gw ?_|fail);rw[hse]
   rfl
theorem JT(f:Fm)(hf:f.full<549755813888):PC E 107 [.agg f.view] (.i f.err):=by
 have h1:=RA _ f (Wj _) hf;have h2:=JY _ f (Wj _) hf;have hle:=f.Aj;cases hs:f.shape with
 |false=>
  have e:f.err=2:=by simp[Fm.err,hs]
  rw[hs] at h1;rw[e];refine M.F Tryz.func107 ?_;(repeat' first|refine M.gw ?_|refine M.c2 (h1) ?_|fail)
  rfl
 |true=>
  rw[hs] at h1;by_cases hz:f.size>4096
  .have e:f.err=4:=by simp[Fm.err,hs,hz]
   rw[e];refine M.F Tryz.func107 ?_;(repeat' first|refine M.gw ?_|refine M.c2 (h1) ?_|refine M.c2 (h2) ?_|refine M.cs ?_ ?_<;>intro h|fail)
   .rfl
   .exfalso;simp at h;omega
  .have e:f.err=0:=by simp[Fm.err,hs,hz]
   rw[e];refine M.F Tryz.func107 ?_;(repeat' first|refine M.gw ?_|refine M.c2 (h1) ?_|refine M.c2 (h2) ?_|refine M.cs ?_ ?_<;>intro h|fail)
   .exfalso;simp at h;omega
   .rfl
theorem Tg:∀(n:Nat) (f:Fm) (at_:Int),f.full<=n->n<274877906944->-274877906944<=at_->at_+n<549755813888->f.shape=true->PC E 189 [.agg f.view,.i at_] (.bool (decide (y7 at_ f≠0))):=by
 intro n;induction n with
 |zero=>intro f at_ h;have:=f.Aa;omega
 |succ n ih=>
 intro f at_ hsz hn h1 h2 hs;have hsz':=f.Af;have hlen:=zd Fm.full Fm.Aa f.args;have hlen2:=zd Tm.full Tm.Aa f.terms;have he:=Rp (at_:=at_) hs;have hup:=JL f.kind at_;have hpl:=MX f.kind at_;have hb:=MH f;refine M.F Tryz.func189 ?_;(repeat' first|refine M.gw ?_|fail);refine AW.range f.terms.length (fun m=>∀j (hj:j<f.terms.length),j<m->yt at_ f.terms[j]=0)
  (fun m=>([(1,.i at_),(2,.ptr 0 0),(10,.s .tm f.terms),(11,.i f.terms.length),(12,.i m)],⟨1,[(0,.var f.view)]⟩))
  (by omega) (fun m=>rfl) (fun m=>rfl) rfl (fun j hj h=>by omega) (M.W [some 0]) ?_ ?_
 .intro m hm hP;have hs2:=za Tm.full (Wi hm);have hc:=Yf5 _ f.terms[m] at_ (Wj _) (by omega) (by omega) (by omega) (yg hs (Wi hm));(repeat' first|refine M.gw ?_|refine M.c2 (hc) ?_|refine M.cs ?_ ?_<;>intro h|fail)
  .have hx:yt at_ f.terms[m]≠0:=by simpa using h
   have:=N8 hm hx;rw[he,decide_eq_true (show _≠0 by omega)];rfl
  .have hx:yt at_ f.terms[m]=0:=by simpa using h
   exact⟨rfl,ya (p:=fun t'=>yt at_ t'=0) hm hP hx,(M.W [some 0])⟩
 .intro hP;rw[PN (f:=yt at_) fun j hj=>hP j hj hj,Xg] at he;(repeat' first|refine M.gw ?_|fail);refine AW.range f.args.length (fun m=>∀j (hj:j<f.args.length),j<m->y7 (A3 f.kind at_) f.args[j]=0)
   (fun m=>([(1,.i at_),(2,.ptr 0 0),(21,.s .fm f.args),(22,.i f.args.length),(23,.i m)],⟨1,[(0,.var f.view)]⟩))
   (by omega) (fun m=>rfl) (fun m=>rfl) rfl (fun j hj h=>by omega) (M.W [some 0]) ?_ ?_
  .intro m hm hP;have hs2:=za Fm.full (Wi hm);have hc:=ih f.args[m] (A3 f.kind at_) (by omega) (by omega) (by omega) (by omega) (zv hs (Wi hm));rw[<-hpl] at hc;rw[<-hpl] at hP he;(repeat' first|refine M.gw ?_|refine M.c2 (hb) ?_|refine M.c2 (hc) ?_|refine M.cs ?_ ?_<;>intro h|fail)
   .have hx:y7 (at_+A3 f.kind 0) f.args[m]≠0:=by simpa using h
    rw[he,decide_eq_true (N8 hm hx)];rfl
   .have hx:y7 (at_+A3 f.kind 0) f.args[m]=0:=by simpa using h
    exact⟨rfl,by rw[<-hpl];exact ya (p:=fun t'=>y7 (at_+A3 f.kind 0) t'=0) hm hP hx,(M.W [some 0])⟩
  .intro hP;rw[he,PN fun j hj=>hP j hj hj];(repeat' first|refine M.gw ?_|fail)
   rfl
theorem Zy9:∀(n:Nat) (f:Fm) (g:List Ty),f.full<=n->n<100000000->f.shape=true->(∀x∈g,x.err=0)->g.length+n<274877906944->g.length+f.size<100000->PC E 179 [.s .ty g,.agg f.view] (.i (f.Ei g)):=by
 intro n;induction n with
 |zero=>intro f g h;have:=f.Aa;omega
 |succ n ih=>
 intro f g hsz hn hs hg hgl hgz;have hsz':=f.Af;have hse:=f.size_eq;have hlen:=zd Fm.full Fm.Aa f.args;have hlen2:=zd Tm.full Tm.Aa f.terms;have he:=Fm.Fc g f;have hq:=QS f.kind;refine M.F Tryz.func179 ?_;(repeat' first|refine M.gw ?_|fail);refine AW.range f.terms.length (fun m=>∀j (hj:j<f.terms.length),j<m->tE g f.terms[j]=0)
  (fun m=>([(0,.s .ty g),(3,.ptr 0 0),(13,.s .tm f.terms),(14,.i f.terms.length),(15,.i m)],⟨1,[(0,.var f.view)]⟩))
  (by omega) (fun m=>rfl) (fun m=>rfl) rfl (fun j hj h=>by omega) (M.W [some 0]) ?_ ?_
 .intro m hm hP;have hs2:=za Tm.full (Wi hm);have hc:=RC g f.terms[m] (by omega) hg (by omega);have hfi:tE g f.terms[m]≠0->f.Ei g=tE g f.terms[m]:=fun hx=>by
   have h1:=Ji hm hP hx;rw[he,h1,if_pos hx]
  by_cases hx:(Ec g f.terms[m]).2=0
  .by_cases hk:(Ec g f.terms[m]).1.kind=1
   .have ht:tE g f.terms[m]=0:=by simp[tE,hx,hk]
    rw[hx] at hc;(repeat' first|refine M.gw ?_|refine M.c2 (hc) ?_|refine M.cs ?_ ?_<;>intro h|fail)
    .exfalso;simp at h;exact h hk
    .exact ⟨rfl,ya (p:=fun t'=>tE g t'=0) hm hP ht,(M.W [some 0])⟩
   .have ht:tE g f.terms[m]=7:=by simp[tE,hx,hk]
    rw[ht] at hfi;rw[hfi (by decide)];rw[hx] at hc;(repeat' first|refine M.gw ?_|refine M.c2 (hc) ?_|refine M.cs ?_ ?_<;>intro h|fail)
    .rfl
    .exfalso;simp at h;exact hk h
  .have ht:tE g f.terms[m]=(Ec g f.terms[m]).2:=by simp[tE,hx]
   rw[ht] at hfi;rw[hfi hx];(repeat' first|refine M.gw ?_|refine M.c2 (hc) ?_|refine M.cs ?_ ?_<;>intro h|fail)
   .rfl
   all_goals(exfalso;simp_all)
 .intro hP;have h0:wi (tE g) f.terms=0:=wv fun j hj _=>hP j hj hj;rw[if_neg (by simp[h0])] at he;have htyl:=f.ty.size_pos;have hrest:∀g',g'=Dx g f->(∀x∈g',x.err=0)/\g'.length<=g.length+1/\∀(m:Nat) (hm:m<f.args.length),PC E 179 [.s .ty g',.agg f.args[m].view] (.i (f.args[m].Ei g')):=fun g' hg'=>by
   have hl:g'.length<=g.length+1:=by rw[hg'];simp only[Dx];split<;>simp
   have hee:∀x∈g',x.err=0:=fun x hx=>by
    rw[hg'] at hx;simp only[Dx] at hx;split at hx
    .rename_i hqk;rcases WH.1 hx with hx|hx
     .exact hg x hx
     .rw[WN] at hx;subst hx;have h1:=UP hqk;rw[hs] at h1;have h2:f.ty.ok=true:=by
       cases ho:f.ty.ok with
       |true=>rfl
       |false=>rw[ho] at h1;simp at h1
      rw[Qi] at h2;simpa using h2
    .exact hg x hx
   refine⟨hee,hl,fun m hm=> ?_⟩;have hs2:=za Fm.full (Wi hm);have hs3:=za Fm.size (Wi hm);exact ih f.args[m] g' (by omega) (by omega) (zv hs (Wi hm)) hee (by omega) (by omega)
  cases hqk:xg f.kind with
  |true=>
   rw[hqk] at hq;have hcx:Dx g f=g++[f.ty]:=G1 hqk;obtain⟨_,_,hcall⟩:=hrest (g++[f.ty]) hcx.symm;rw[hcx] at he;(repeat' first|refine M.gw ?_|refine M.c2 (hq) ?_|fail);refine AW.range f.args.length (fun m=>∀j (hj:j<f.args.length),j<m->f.args[j].Ei (g++[f.ty])=0)
    (fun m=>([(0,.s .ty (g++[f.ty])),(3,.ptr 0 0),(46,.s .fm f.args),(47,.i f.args.length),(48,.i m)],⟨1,[(0,.var f.view)]⟩))
    (by omega) (fun m=>rfl) (fun m=>rfl) rfl (fun j hj h=>by omega) (M.W [some 0]) ?_ ?_
   .intro m hm hP;have hc:=hcall m hm;by_cases hx:f.args[m].Ei (g++[f.ty])=0
    .rw[hx] at hc;(repeat' first|refine M.gw ?_|refine M.c2 (hc) ?_|fail);exact⟨rfl,ya (p:=fun t'=>Fm.Ei (g++[f.ty]) t'=0) hm hP hx,(M.W [some 0])⟩
    .rw[he,Ji hm hP hx];(repeat' first|refine M.gw ?_|refine M.c2 (hc) ?_|refine M.cs ?_ ?_<;>intro h|fail)
     .rfl
     .exfalso;simp at h;exact hx h
   .intro hP;rw[he,wv fun j hj _=>hP j hj hj];(repeat' first|refine M.gw ?_|fail)
    rfl
  |false=>
   rw[hqk] at hq;have hcx:Dx g f=g:=Hg (by simp[hqk]);obtain⟨_,_,hcall⟩:=hrest g hcx.symm;rw[hcx] at he;(repeat' first|refine M.gw ?_|refine M.c2 (hq) ?_|fail);refine AW.range f.args.length (fun m=>∀j (hj:j<f.args.length),j<m->f.args[j].Ei g=0)
    (fun m=>([(0,.s .ty g),(3,.ptr 0 0),(46,.s .fm f.args),(47,.i f.args.length),(48,.i m)],⟨1,[(0,.var f.view)]⟩))
    (by omega) (fun m=>rfl) (fun m=>rfl) rfl (fun j hj h=>by omega) (M.W [some 0]) ?_ ?_
   .intro m hm hP;have hc:=hcall m hm;by_cases hx:f.args[m].Ei g=0
    .rw[hx] at hc;(repeat' first|refine M.gw ?_|refine M.c2 (hc) ?_|fail);exact⟨rfl,ya (p:=fun t'=>Fm.Ei g t'=0) hm hP hx,(M.W [some 0])⟩
    .rw[he,Ji hm hP hx];(repeat' first|refine M.gw ?_|refine M.c2 (hc) ?_|refine M.cs ?_ ?_<;>intro h|fail)
     .rfl
     .exfalso;simp at h;exact hx h
   .intro hP;rw[he,wv fun j hj _=>hP j hj hj];(repeat' first|refine M.gw ?_|fail)
    rfl
theorem Nt(g:List Ty)(f:Fm)(hf:f.full<549755813888)(hg:∀x∈g,x.err=0)(hgl:g.length<90000):PC E 139 [.s .ty g,.agg f.view] (.i (vi g f)):=by
 have h1:=JT f hf;by_cases he:f.err=0
 .have h2:=(Fm.Ad f).1 he;have h3:=ye he;have h4:=Zy9 _ f g (Wj _) (by omega) h2.1 hg (by omega) (by omega);have e:vi g f=f.Ei g:=by simp only[vi];rw[if_neg (by simp[he])]
  rw[he] at h1;rw[e];refine M.F Tryz.func139 ?_;(repeat' first|refine M.gw ?_|refine M.c2 (h1) ?_|refine M.c2 (h4) ?_|fail)
  rfl
 .have e:vi g f=f.err:=by simp only[vi];rw[if_pos he]
  rw[e];refine M.F Tryz.func139 ?_;(repeat' first|refine M.gw ?_|refine M.c2 (h1) ?_|refine M.cs ?_ ?_<;>intro h|fail)
  .rfl
  .exfalso;simp at h;exact he h
theorem Ml(g:List Ty)(f:Fm)(hf:f.full<549755813888)(hg:(g.map Ty.size).sum<1099511627776):PC E 104 [.s .ty g,.agg f.view] (.i (yq g f)):=by
 have h1:=P8 g hg;by_cases he:xd g=0
 .have h2:=vr he;have h4:=Nt g f hf h2.2 (by omega);have e:yq g f=vi g f:=by simp only[yq];rw[if_neg (by simp[he])]
  rw[he] at h1;rw[e];refine M.F Tryz.func104 ?_;(repeat' first|refine M.gw ?_|refine M.c2 (h1) ?_|refine M.c2 (h4) ?_|fail)
  rfl
 .have e:yq g f=xd g:=by simp only[yq];rw[if_pos he]
  rw[e];refine M.F Tryz.func104 ?_;(repeat' first|refine M.gw ?_|refine M.c2 (h1) ?_|refine M.cs ?_ ?_<;>intro h|fail)
  .rfl
  .exfalso;simp at h;exact he h
theorem Zvx{at_ b:Int}{s t:Tm}(h:t.kind≠1):t.re (y9 at_ s) b= .mk t.kind t.index t.ty (t.args.map fun x=>x.re (y9 at_ s) (up t.kind b)):=wu h
theorem P7(at_:Int)(s:Tm)(hat:0<=at_/\at_<137438953472)(hs:s.shape=true)(hsf:s.full<137438953472)(hsi:∀p∈s.vars 0,0<=p.1/\p.1<274877906944):∀(n:Nat) (t:Tm) (dp:Int),t.full<=n->n<137438953472->0<=dp->dp+n<274877906944->t.shape=true->(∀p∈t.vars 0,0<=p.1/\p.1<274877906944)->
 PC E 244 [.agg t.view,.i at_,.i dp,.agg s.view] (.agg (t.re (y9 at_ s) dp).view):=by
 intro n;induction n with
 |zero=>intro t dp h;have:=t.Aa;omega
 |succ n ih=>
 intro t dp hsz hn h1 h2 ht hix;have hsz':=Tm.Af t;have hlen:=zd Tm.full Tm.Aa t.args;have hup:=LP t.kind dp;have hpl:=KE t.kind dp;have hb:=Kh t;by_cases hv:t.kind=1
 .have hti:=hix (t.index,0) (by rw[vy ht hv];simp);rw[JB ht hv];generalize t.index=i at hti;simp only at hti;rw[Uc,MD];have hvi:(vT i).index=i:=rfl;have hu:=J2 (at_+dp) (by omega) _ s 0 (Wj _) (by omega) (by omega) (by omega) hs fun p hp=>by have:=hsi p hp;omega
  have hvc:=Ek (i-1);clear ih hix;by_cases h3:i-dp=at_
  .rw[if_pos h3];have h3':i=at_+dp:=by omega
   subst h3';refine M.F Tryz.func244 ?_;(repeat' first|refine M.go ?_|refine M.c2 (hu) ?_|refine M.z1 4 ?_|refine M.cs ?_ ?_<;>intro h|refine M.gk ?_|fail);all_goals first
    |rfl
    |(exfalso;simp at h;done)
    |(exfalso;simp at h;omega)
  .rw[if_neg h3];by_cases h4:i-dp>at_
   .rw[if_pos h4];refine M.F Tryz.func244 ?_;(repeat' first|refine M.go ?_|refine M.z3 3 5 6 ?_|refine M.cs ?_ ?_<;>intro h|refine M.gk ?_|fail);all_goals first
     |(exfalso;simp at h;omega)
     |skip
    (repeat' first|refine M.gw ?_|refine M.c2 (hvc) ?_|fail)
    rfl
   .rw[if_neg h4];refine M.F Tryz.func244 ?_;(repeat' first|refine M.go ?_|refine M.z3 3 5 6 ?_|refine M.cs ?_ ?_<;>intro h|refine M.gk ?_|fail);all_goals first
     |(exfalso;simp at h;omega)
     |skip
    (repeat' first|refine M.gw ?_|fail)
    rfl
 have he:=Zvx (at_:=at_) (b:=dp) (s:=s) hv;refine M.F Tryz.func244 ?_;(repeat' first|refine M.go ?_|refine M.z1 2 ?_|refine M.cs ?_ ?_<;>intro h|refine M.gk ?_|fail);all_goals first
  |(exfalso;simp at h;exact hv h)
  |skip
 skip;refine AW.range t.args.length (fun m=>True) (fun m=>([(1,.i at_),(2,.i dp),(4,.ptr 0 0),(7,.ptr 1 0),(8,.ptr 2 0),(9,.ptr 3 0),(45,.s .tm t.args),(46,.i t.args.length),(47,.i m)],⟨5,[(0,.var t.view),(1,.var s.view),(2,.var [.i 0,.i 0,.i 0,.slice .nil (.t .ty []),.slice .nil (.t .tm [])]),(3,.var [.i t.kind,.i t.index,.i t.ty.kind,.s .ty t.ty.args,.slice (.own 4) (.t .tm ((t.args.take m).map fun x=>x.re (y9 at_ s) (up t.kind dp)))]),(4,.row)]⟩))
  (by omega) (fun m=>rfl) (fun m=>rfl) rfl trivial (M.W [some 0,some 1,some 2,some 3,none]) ?_ ?_
 .intro m hm _;have hs2:=za Tm.full (Wi hm);have hc:=ih t.args[m] (up t.kind dp) (by omega) (by omega) (by omega) (by omega) (zg ht _ (Wi hm)) (fun p hp=>by
   obtain⟨q,hq,hqe⟩:=MQ (b':=up t.kind 0) p hp;have:=hix q (LG hv (Wi hm) hq);rw[<-hqe];exact this)
  rw[<-hpl] at hc;simp only[<-hpl];(repeat' first|refine M.gw ?_|refine M.c2 (hb) ?_|refine M.c2 (hc) ?_|fail);exact⟨rfl,trivial,(M.W [some 0,some 1,some 2,some 3,some 6] (he:=(by(repeat'(first|exact trivial|exact Or.inr ⟨_,U,rfl⟩|refine And.intro ?_ ?_|refine⟨_,U,_,U,_,U,?_⟩|exact Ao.refl _|exact Ao.of_eq (by simp[Aq.Ay,zy _ _ _ hm])));done)))⟩
 .intro _;simp only[Wp];(repeat' first|refine M.gw ?_|fail);rw[he];simp[zk,V.wk,V.Ap,zc,Ty.view,Tm.view]
theorem OT{t:Tm}(h:t.near=true):∀q∈t.vars 0,q.1<=536870912:=fun q hq=>by simpa using List.all_eq_true.1 h q hq
theorem Zwe:∀(n:Nat) (f:Fm) (at_:Int),f.full<=n->n<274877906944->-274877906944<=at_->at_+n<549755813888->f.shape=true->PC E 247 [.agg f.view,.i at_] (.i (y7 at_ f)):=by
 intro n;induction n with
 |zero=>intro f at_ h;have:=f.Aa;omega
 |succ n ih=>
 intro f at_ hsz hn h1 h2 hs;have hsz':=f.Af;have hlen:=zd Fm.full Fm.Aa f.args;have hlen2:=zd Tm.full Tm.Aa f.terms;have he:=Rp (at_:=at_) hs;have hup:=JL f.kind at_;have hpl:=MX f.kind at_;have hb:=MH f;have hle1:∀m,((f.terms.take m).map (yt at_)).sum<=(f.terms.map Tm.full).sum:=fun m=>by
  have a1:=zm Tm.full f.terms m;have a2:=yw (f:=yt at_) (g:=Tm.full) (f.terms.take m) fun x _=>W8 (Ka x _) x.Aj;omega
 have hle2:∀m,((f.args.take m).map (y7 (A3 f.kind at_))).sum<=(f.args.map Fm.full).sum:=fun m=>by
  have a1:=zm Fm.full f.args m;have a2:=yw (f:=y7 (A3 f.kind at_)) (g:=Fm.full) (f.args.take m) fun x _=>W8 (OA _ x) x.Aj;omega
 refine M.F Tryz.func247 ?_;(repeat' first|refine M.gw ?_|fail);refine AW.range f.terms.length (fun m=>True)
  (fun m=>([(1,.i at_),(2,.ptr 0 0),(5,.i (((f.terms.take m).map (yt at_)).sum:Nat)),(11,.s .tm f.terms),(12,.i f.terms.length),(13,.i m)],⟨1,[(0,.var f.view)]⟩))
  (by omega) (fun m=>rfl) (fun m=>rfl) rfl trivial (M.W [some 0]) ?_ ?_
 .intro m hm _;have hs1:=yk (yt at_) f.terms m hm;have hs2:=za Tm.full (Wi hm);have hs3:=hle1 m;have hs4:=Ka f.terms[m] at_;have hs5:=f.terms[m].Aj;have hc:=N4 _ f.terms[m] at_ (Wj _) (by omega) (by omega) (by omega) (yg hs (Wi hm));(repeat' first|refine M.gw ?_|refine M.c2 (hc) ?_|fail);refine⟨rfl,trivial,?_⟩;simp only[hs1];exact(M.W [some 0])
 .intro _;have hs6:=hle1 f.terms.length;simp only[Wp] at hs6 ⊢;(repeat' first|refine M.gw ?_|fail);refine AW.range f.args.length (fun m=>True)
   (fun m=>([(1,.i at_),(2,.ptr 0 0),(5,.i ((f.terms.map (yt at_)).sum+((f.args.take m).map (y7 (A3 f.kind at_))).sum:Nat)),(24,.s .fm f.args),(25,.i f.args.length),(26,.i m)],⟨1,[(0,.var f.view)]⟩))
   (by omega) (fun m=>rfl) (fun m=>rfl) rfl trivial (M.W [some 0]) ?_ ?_
  .intro m hm _;have hs1:=yk (y7 (A3 f.kind at_)) f.args m hm;have hs2:=za Fm.full (Wi hm);have hs3:=hle2 m;have hs4:=OA (A3 f.kind at_) f.args[m];have hs5:=f.args[m].Aj;have hc:=ih f.args[m] (A3 f.kind at_) (by omega) (by omega) (by omega) (by omega) (zv hs (Wi hm));rw[<-hpl] at hc hs1 hs3 hs4;simp only[<-hpl];(repeat' first|refine M.gw ?_|refine M.c2 (hb) ?_|refine M.c2 (hc) ?_|fail);refine⟨rfl,trivial,?_⟩;simp only[hs1];exact(M.W [some 0] (hf:=(by(repeat'(first|exact trivial|refine And.intro ?_ ?_|refine⟨_,U,_,U,?_⟩|exact Ao.refl _|exact Ao.of_eq (by simp[Aq.Ay,W5,Xy])));done)))
  .intro _;simp only[Wp];(repeat' first|refine M.gw ?_|fail);rw[he]
   rfl
theorem UG(most:Int)(h0:0<=most):∀(n:Nat) (f:Fm),f.full<=n->n<549755813888->f.shape=true->PC E 137 [.agg f.view,.i most] (.bool (Fe most f)):=by
 intro n;induction n with
 |zero=>intro f h;have:=f.Aa;omega
 |succ n ih=>
 intro f hsz hn hs;have hsz':=f.Af;have hlen:=zd Fm.full Fm.Aa f.args;have hlen2:=zd Tm.full Tm.Aa f.terms;have he:=Zxr most f;refine M.F Tryz.func137 ?_;(repeat' first|refine M.gw ?_|fail);refine AW.range f.terms.length (fun m=>∀j (hj:j<f.terms.length),j<m->xm most f.terms[j]=true)
  (fun m=>([(1,.i most),(2,.ptr 0 0),(10,.s .tm f.terms),(11,.i f.terms.length),(12,.i m)],⟨1,[(0,.var f.view)]⟩))
  (by omega) (fun m=>rfl) (fun m=>rfl) rfl (fun j hj h=>by omega) (M.W [some 0]) ?_ ?_
 .intro m hm hP;have hs2:=za Tm.full (Wi hm);have hc:=KA most h0 _ f.terms[m] (Wj _) (by omega) (yg hs (Wi hm));(repeat' first|refine M.gw ?_|refine M.c2 (hc) ?_|refine M.cs ?_ ?_<;>intro h|fail)
  .have hx:xm most f.terms[m]=false:=by simpa using h
   rw[he,xn (xm most) hm hx];rfl
  .have hx:xm most f.terms[m]=true:=by simpa using h
   exact⟨rfl,ya (p:=fun t=>xm most t=true) hm hP hx,(M.W [some 0])⟩
 .intro hP;rw[w4 (xm most) f.terms fun j hj=>hP j hj hj,WZ] at he;(repeat' first|refine M.gw ?_|fail);refine AW.range f.args.length (fun m=>∀j (hj:j<f.args.length),j<m->Fe most f.args[j]=true)
   (fun m=>([(1,.i most),(2,.ptr 0 0),(22,.s .fm f.args),(23,.i f.args.length),(24,.i m)],⟨1,[(0,.var f.view)]⟩))
   (by omega) (fun m=>rfl) (fun m=>rfl) rfl (fun j hj h=>by omega) (M.W [some 0]) ?_ ?_
  .intro m hm hP;have hs2:=za Fm.full (Wi hm);have hc:=ih f.args[m] (by omega) (by omega) (zv hs (Wi hm));(repeat' first|refine M.gw ?_|refine M.c2 (hc) ?_|refine M.cs ?_ ?_<;>intro h|fail)
   .have hx:Fe most f.args[m]=false:=by simpa using h
    rw[he,xn (Fe most) hm hx];rfl
   .have hx:Fe most f.args[m]=true:=by simpa using h
    exact⟨rfl,ya (p:=fun t=>Fe most t=true) hm hP hx,(M.W [some 0])⟩
  .intro hP;rw[he,w4 (Fe most) f.args fun j hj=>hP j hj hj];(repeat' first|refine M.gw ?_|fail)
   rfl
end Go.Ab
