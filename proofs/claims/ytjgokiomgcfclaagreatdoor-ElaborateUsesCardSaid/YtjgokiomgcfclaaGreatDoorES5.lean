/- A part of the proofs of this seat. No conditions. -/
import Derived.Test.YtjgokiomgcfclaaGreatDoorED2
import Derived.Test.YtjgokiomgcfclaaGreatDoorES4
namespace Go.Ab
open Go Go.Proofs
set_option maxRecDepth 100000
set_option maxHeartbeats 4000000
set_option linter.all false
theorem OX(k:Int):PC E 160 [.i k] (.bool (y7 k)):=by
 have e:y7 k=decide (k=4\/k=5\/k=6\/k=7):=by rw[Bool.eq_iff_iff,A6,decide_eq_true_iff];omega
 rw[e];refine M.F Tryz.func160 ?_;(repeat' first|refine M.gw ?_|refine M.gs ?_ ?_<;>intro h|fail);all_goals(simp_all[zk,V.wk,V.Ak,zd];try(first|omega|(rw[Bool.eq_iff_iff];simp)))
theorem Nh(f:Fm):PC E 184 [.agg f.view] (.i (AB f.kind 0)):=by
 have h1:=OX f.kind;cases hq:y7 f.kind with
 |true=>
  have e:AB f.kind 0=1:=by simp[AB,hq]
  rw[hq] at h1;rw[e];refine M.F Tryz.func184 ?_;(repeat' first|refine M.gw ?_|refine M.c2 (h1) ?_|fail)
  rfl
 |false=>
  have e:AB f.kind 0=0:=by simp[AB,hq]
  rw[hq] at h1;rw[e];refine M.F Tryz.func184 ?_;(repeat' first|refine M.gw ?_|refine M.c2 (h1) ?_|fail)
  rfl
theorem Ng(k b:Int):b+AB k 0=AB k b:=by simp only[AB];split<;>omega
theorem Qm(t:Ty):t.ok=(t.err==0):=Ty.DQ t
theorem Zzc{f:Fm}(hk:f.kind=1):f.shape=(decide (f.args.length=0)&&f.ty.Bw&&decide (f.terms.length=2)&&f.terms.all Tm.shape):=by
 rw[Fm.Ag];simp only[Fm.head,hk,if_true];by_cases h:f.args.length=0
 ·have ha:f.args=[]:=List.length_eq_zero_iff.1 h;rw[ha];cases f.ty.Bw<;>simp;rw[Bool.eq_iff_iff];simp
 ·simp[h]
theorem Zs1{f:Fm}(hk:f.kind=2\/f.kind=3):f.shape=(decide (f.terms.length=0)&&f.ty.Bw&&decide (f.args.length=2)&&f.args.all Fm.shape):=by
 rw[Fm.Ag];have h1:¬f.kind=1:=by omega
 simp only[Fm.head,if_neg h1,if_pos hk];by_cases h:f.terms.length=0
 ·have ha:f.terms=[]:=List.length_eq_zero_iff.1 h;rw[ha];cases f.ty.Bw<;>simp;rw[Bool.eq_iff_iff];simp
 ·simp[h]
theorem TC{f:Fm}(hk:y7 f.kind=true):f.shape=(decide (f.terms.length=0)&&f.ty.ok&&decide (f.args.length=1)&&f.args.all Fm.shape):=by
 rw[Fm.Ag];rw[A6] at hk;have h1:¬f.kind=1:=by omega
 have h2:¬(f.kind=2\/f.kind=3):=by omega
 have h3:f.kind=4\/f.kind=5\/f.kind=6\/f.kind=7:=by omega
 simp only[Fm.head,if_neg h1,if_neg h2,if_pos h3];by_cases h:f.terms.length=0
 ·have ha:f.terms=[]:=List.length_eq_zero_iff.1 h;rw[ha];cases f.ty.ok<;>simp;rw[Bool.eq_iff_iff];simp
 ·simp[h]
theorem UG{f:Fm}(h1:f.kind≠1)(h2:¬(f.kind=2\/f.kind=3))(h3:y7 f.kind=false):f.shape=false:=by
 rw[Fm.Ag];have h4:¬(f.kind=4\/f.kind=5\/f.kind=6\/f.kind=7):=by
  intro hc;have:y7 f.kind=true:=by rw[A6];omega
  rw[h3] at this;cases this
 simp only[Fm.head,if_neg h1,if_neg h2,if_neg h4,Bool.false_and]
theorem V1:∀(n:Nat) (f:Fm),f.full<=n->n<549755813888->PC E 95 [.agg f.view] (.bool f.shape):=by
 intro n;induction n with
 |zero=>intro f h;have:=f.Ac;omega
 |succ n ih=>
 intro f hsz hn;have hsz':=f.Af;have hlen:=zh Fm.full Fm.Ac f.args;have hlen2:=zh Tm.full Tm.Ac f.terms;have hz:=QH f.ty;have hty:=J4 f.ty (by omega);have hq:=OX f.kind;have ht:∀x∈f.terms,PC E 144 [.agg x.view] (.bool x.shape):=fun x hx=>Oy _ x (Nat.le_refl _) (by have:=ze Tm.full hx;omega);have ha:∀x∈f.args,PC E 95 [.agg x.view] (.bool x.shape):=fun x hx=>ih x (by have:=ze Fm.full hx;omega) (by omega);clear ih;by_cases k1:f.kind=1
 ·have e:=Zzc k1;obtain⟨k,ty,ts,fs⟩:=f;simp only[Fm.Am,Fm.AD,Fm.Ar,Fm.Ae] at*;subst k1;by_cases hl:ts.length=2
  ·obtain ⟨a,b,rfl⟩:=IA hl;have t1:=ht a (by simp);have t2:=ht b (by simp);rw[e];refine M.F Tryz.func95 ?_;(repeat' first|refine M.gw ?_|refine M.c2 (hz) ?_|refine M.c2 (t1) ?_|refine M.c2 (t2) ?_|refine M.gs ?_ ?_<;>intro h|refine M.zb ?_|fail);all_goals(simp at*;simp_all[zk,V.wk,V.Ak,zd];done)
  ·have e2:(Fm.mk 1 ty ts fs).shape=false:=by rw[e];simp[hl]
   rw[e2];refine M.F Tryz.func95 ?_;(repeat' first|refine M.gw ?_|refine M.c2 (hz) ?_|refine M.gs ?_ ?_<;>intro h|refine M.zb ?_|fail);all_goals first|simp at*;simp_all[zk,V.wk,V.Ak,zd];done|exfalso;simp at*;omega
 by_cases k2:f.kind=2\/f.kind=3
 ·have e:=Zs1 k2;obtain⟨k,ty,ts,fs⟩:=f;simp only[Fm.Am,Fm.AD,Fm.Ar,Fm.Ae] at*;by_cases hl:fs.length=2
  ·obtain ⟨a,b,rfl⟩:=IA hl;have t1:=ha a (by simp);have t2:=ha b (by simp);rw[e];rcases k2 with rfl|rfl;all_goals
    refine M.F Tryz.func95 ?_;(repeat' first|refine M.gw ?_|refine M.c2 (hz) ?_|refine M.c2 (t1) ?_|refine M.c2 (t2) ?_|refine M.gs ?_ ?_<;>intro h|refine M.zb ?_|fail);all_goals(simp at*;simp_all[zk,V.wk,V.Ak,zd];done)
  ·have e2:(Fm.mk k ty ts fs).shape=false:=by rw[e];simp[hl]
   rw[e2];rcases k2 with rfl|rfl;all_goals
    refine M.F Tryz.func95 ?_;(repeat' first|refine M.gw ?_|refine M.c2 (hz) ?_|refine M.gs ?_ ?_<;>intro h|refine M.zb ?_|fail);all_goals first|simp at*;simp_all[zk,V.wk,V.Ak,zd];done|exfalso;simp at*;omega
 cases k3:y7 f.kind with
 |true=>
  have e:=TC k3;rw[k3] at hq;have hk:f.kind=4\/f.kind=5\/f.kind=6\/f.kind=7:=by rw[A6] at k3;omega
  obtain⟨k,ty,ts,fs⟩:=f;simp only[Fm.Am,Fm.AD,Fm.Ar,Fm.Ae] at*;rw[Qm] at e;by_cases hl:fs.length=1
  ·obtain ⟨a,rfl⟩:=Ih hl;have t1:=ha a (by simp);rw[e];rcases hk with rfl|rfl|rfl|rfl;all_goals
    refine M.F Tryz.func95 ?_;(repeat' first|refine M.gw ?_|refine M.c2 (hty) ?_|refine M.c2 (hq) ?_|refine M.c2 (t1) ?_|refine M.gs ?_ ?_<;>intro h|refine M.zb ?_|fail);all_goals(simp at*;simp_all[zk,V.wk,V.Ak,zd];done)
  ·have e2:(Fm.mk k ty ts fs).shape=false:=by rw[e];simp[hl]
   rw[e2];rcases hk with rfl|rfl|rfl|rfl;all_goals
    refine M.F Tryz.func95 ?_;(repeat' first|refine M.gw ?_|refine M.c2 (hty) ?_|refine M.c2 (hq) ?_|refine M.gs ?_ ?_<;>intro h|refine M.zb ?_|fail);all_goals first|simp at*;simp_all[zk,V.wk,V.Ak,zd];done|exfalso;simp at*;omega
 |false=>
  have e:=UG k1 k2 k3;rw[k3] at hq;rw[e];refine M.F Tryz.func95 ?_;(repeat' first|refine M.gw ?_|refine M.c2 (hq) ?_|refine M.gs ?_ ?_<;>intro h|refine M.zb ?_|refine M.cs ?_ ?_<;>intro h|fail);all_goals first
   |rfl
   |(exfalso;simp at*;omega)
theorem N9:∀(n:Nat) (f:Fm),f.full<=n->n<549755813888->PC E 96 [.agg f.view] (.i f.size):=by
 intro n;induction n with
 |zero=>intro f h;have:=f.Ac;omega
 |succ n ih=>
 intro f hsz hn;have hsz':=f.Af;have hse:=f.size_eq;have hlen:=zh Fm.full Fm.Ac f.args;have hlen2:=zh Tm.full Tm.Ac f.terms;have hle1:=xr (f:=Tm.size) (g:=Tm.full) f.terms fun x _=>x.Aj;have hle2:=xr (f:=Fm.size) (g:=Fm.full) f.args fun x _=>x.Aj;refine M.F Tryz.func96 ?_;(repeat' first|refine M.gw ?_|fail);refine AW.range f.terms.length (fun m=>True)
  (fun m=>([(1,.ptr 0 0),(3,.i (1+((f.terms.take m).map Tm.size).sum:Nat)),(9,.s .tm f.terms),(10,.i f.terms.length),(11,.i m)],⟨1,[(0,.var f.view)]⟩))
  (by omega) (fun m=>rfl) (fun m=>rfl) rfl trivial (M.W [some 0]) ?_ ?_
 ·intro m hm _;have hs1:=yv Tm.size f.terms m hm;have hs2:=ze Tm.full (List.getElem_mem hm);have hs3:=yc Tm.size f.terms (m+1);have hc:=yx _ f.terms[m] (Nat.le_refl _) (by omega);(repeat' first|refine M.gw ?_|refine M.c2 (hc) ?_|fail);refine⟨rfl,trivial,?_⟩;simp only[hs1];exact(M.W [some 0] (hf:=(by(repeat'(first|exact trivial|refine And.intro ?_ ?_|refine⟨_,U,_,U,?_⟩|exact An.refl _|exact An.of_eq (by simp[Al.Aw,Int.natCast_add,Int.add_assoc])));done)))
 ·intro _;simp only[List.take_length];(repeat' first|refine M.gw ?_|fail);refine AW.range f.args.length (fun m=>True)
   (fun m=>([(1,.ptr 0 0),(3,.i (1+(f.terms.map Tm.size).sum+((f.args.take m).map Fm.size).sum:Nat)),(21,.s .fm f.args),(22,.i f.args.length),(23,.i m)],⟨1,[(0,.var f.view)]⟩))
   (by omega) (fun m=>rfl) (fun m=>rfl) rfl trivial (M.W [some 0]) ?_ ?_
  ·intro m hm _;have hs1:=yv Fm.size f.args m hm;have hs2:=ze Fm.full (List.getElem_mem hm);have hs3:=yc Fm.size f.args (m+1);have hc:=ih f.args[m] (by omega) (by omega);(repeat' first|refine M.gw ?_|refine M.c2 (hc) ?_|fail);refine⟨rfl,trivial,?_⟩;simp only[hs1];exact(M.W [some 0] (hf:=(by(repeat'(first|exact trivial|refine And.intro ?_ ?_|refine⟨_,U,_,U,?_⟩|exact An.refl _|exact An.of_eq (by simp[Al.Aw,Int.natCast_add,Int.add_assoc])));done)))
  ·intro _;simp only[List.take_length];(repeat' first|refine M.gw ?_|fail);rw[hse]
   rfl
theorem wz(f:Fm)(hf:f.full<549755813888):PC E 47 [.agg f.view] (.i f.err):=by
 have h1:=V1 _ f (Nat.le_refl _) hf;have h2:=N9 _ f (Nat.le_refl _) hf;have hle:=f.Aj;cases hs:f.shape with
 |false=>
  have e:f.err=2:=by simp[Fm.err,hs]
  rw[hs] at h1;rw[e];refine M.F Tryz.func47 ?_;(repeat' first|refine M.gw ?_|refine M.c2 (h1) ?_|fail)
  rfl
 |true=>
  rw[hs] at h1;by_cases hz:f.size>4096
  ·have e:f.err=4:=by simp[Fm.err,hs,hz]
   rw[e];refine M.F Tryz.func47 ?_;(repeat' first|refine M.gw ?_|refine M.c2 (h1) ?_|refine M.c2 (h2) ?_|refine M.cs ?_ ?_<;>intro h|fail)
   ·rfl
   ·exfalso;simp at h;omega
  ·have e:f.err=0:=by simp[Fm.err,hs,hz]
   rw[e];refine M.F Tryz.func47 ?_;(repeat' first|refine M.gw ?_|refine M.c2 (h1) ?_|refine M.c2 (h2) ?_|refine M.cs ?_ ?_<;>intro h|fail)
   ·exfalso;simp at h;omega
   ·rfl
theorem VJ:∀(n:Nat) (f:Fm) (at_:Int),f.full<=n->n<274877906944->-274877906944<=at_->at_+n<549755813888->f.shape=true->PC E 222 [.agg f.view,.i at_] (.bool (decide (y9 at_ f≠0))):=by
 intro n;induction n with
 |zero=>intro f at_ h;have:=f.Ac;omega
 |succ n ih=>
 intro f at_ hsz hn h1 h2 hs;have hsz':=f.Af;have hlen:=zh Fm.full Fm.Ac f.args;have hlen2:=zh Tm.full Tm.Ac f.terms;have he:=U9 (at_:=at_) hs;have hup:=H8 f.kind at_;have hpl:=Ng f.kind at_;have hb:=Nh f;refine M.F Tryz.func222 ?_;(repeat' first|refine M.gw ?_|fail);refine AW.range f.terms.length (fun m=>∀j (hj:j<f.terms.length),j<m->yq at_ f.terms[j]=0)
  (fun m=>([(1,.i at_),(2,.ptr 0 0),(10,.s .tm f.terms),(11,.i f.terms.length),(12,.i m)],⟨1,[(0,.var f.view)]⟩))
  (by omega) (fun m=>rfl) (fun m=>rfl) rfl (fun j hj h=>by omega) (M.W [some 0]) ?_ ?_
 ·intro m hm hP;have hs2:=ze Tm.full (List.getElem_mem hm);have hc:=RE _ f.terms[m] at_ (Nat.le_refl _) (by omega) (by omega) (by omega) (zw hs (List.getElem_mem hm));(repeat' first|refine M.gw ?_|refine M.c2 (hc) ?_|refine M.cs ?_ ?_<;>intro h|fail)
  ·have hx:yq at_ f.terms[m]≠0:=by simpa using h
   have:=RB hm hx;rw[he,decide_eq_true (show _≠0 by omega)];rfl
  ·have hx:yq at_ f.terms[m]=0:=by simpa using h
   exact⟨rfl,z4 (p:=fun t'=>yq at_ t'=0) hm hP hx,(M.W [some 0])⟩
 ·intro hP;rw[Qt (f:=yq at_) fun j hj=>hP j hj hj,Nat.zero_add] at he;(repeat' first|refine M.gw ?_|fail);refine AW.range f.args.length (fun m=>∀j (hj:j<f.args.length),j<m->y9 (AB f.kind at_) f.args[j]=0)
   (fun m=>([(1,.i at_),(2,.ptr 0 0),(21,.s .fm f.args),(22,.i f.args.length),(23,.i m)],⟨1,[(0,.var f.view)]⟩))
   (by omega) (fun m=>rfl) (fun m=>rfl) rfl (fun j hj h=>by omega) (M.W [some 0]) ?_ ?_
  ·intro m hm hP;have hs2:=ze Fm.full (List.getElem_mem hm);have hc:=ih f.args[m] (AB f.kind at_) (by omega) (by omega) (by omega) (by omega) (zl hs (List.getElem_mem hm));rw[<-hpl] at hc;rw[<-hpl] at hP he;(repeat' first|refine M.gw ?_|refine M.c2 (hb) ?_|refine M.c2 (hc) ?_|refine M.cs ?_ ?_<;>intro h|fail)
   ·have hx:y9 (at_+AB f.kind 0) f.args[m]≠0:=by simpa using h
    rw[he,decide_eq_true (RB hm hx)];rfl
   ·have hx:y9 (at_+AB f.kind 0) f.args[m]=0:=by simpa using h
    exact⟨rfl,by rw[<-hpl];exact z4 (p:=fun t'=>y9 (at_+AB f.kind 0) t'=0) hm hP hx,(M.W [some 0])⟩
  ·intro hP;rw[he,Qt fun j hj=>hP j hj hj];(repeat' first|refine M.gw ?_|fail)
   rfl
theorem Zy7:∀(n:Nat) (f:Fm) (g:List Ty),f.full<=n->n<100000000->f.shape=true->(∀x∈g,x.err=0)->g.length+n<274877906944->g.length+f.size<100000->PC E 210 [.s .ty g,.agg f.view] (.i (f.BJ g)):=by
 intro n;induction n with
 |zero=>intro f g h;have:=f.Ac;omega
 |succ n ih=>
 intro f g hsz hn hs hg hgl hgz;have hsz':=f.Af;have hse:=f.size_eq;have hlen:=zh Fm.full Fm.Ac f.args;have hlen2:=zh Tm.full Tm.Ac f.terms;have he:=Fm.DO g f;have hq:=OX f.kind;refine M.F Tryz.func210 ?_;(repeat' first|refine M.gw ?_|fail);refine AW.range f.terms.length (fun m=>∀j (hj:j<f.terms.length),j<m->tE g f.terms[j]=0)
  (fun m=>([(0,.s .ty g),(3,.ptr 0 0),(13,.s .tm f.terms),(14,.i f.terms.length),(15,.i m)],⟨1,[(0,.var f.view)]⟩))
  (by omega) (fun m=>rfl) (fun m=>rfl) rfl (fun j hj h=>by omega) (M.W [some 0]) ?_ ?_
 ·intro m hm hP;have hs2:=ze Tm.full (List.getElem_mem hm);have hc:=VV g f.terms[m] (by omega) hg (by omega);have hfi:tE g f.terms[m]≠0->f.BJ g=tE g f.terms[m]:=fun hx=>by
   have h1:=yr hm hP hx;rw[he,h1,if_pos hx]
  by_cases hx:(Dr g f.terms[m]).2=0
  ·by_cases hk:(Dr g f.terms[m]).1.kind=1
   ·have ht:tE g f.terms[m]=0:=by simp[tE,hx,hk]
    rw[hx] at hc;(repeat' first|refine M.gw ?_|refine M.c2 (hc) ?_|refine M.cs ?_ ?_<;>intro h|fail)
    ·exfalso;simp at h;exact h hk
    ·exact ⟨rfl,z4 (p:=fun t'=>tE g t'=0) hm hP ht,(M.W [some 0])⟩
   ·have ht:tE g f.terms[m]=7:=by simp[tE,hx,hk]
    rw[ht] at hfi;rw[hfi (by decide)];rw[hx] at hc;(repeat' first|refine M.gw ?_|refine M.c2 (hc) ?_|refine M.cs ?_ ?_<;>intro h|fail)
    ·rfl
    ·exfalso;simp at h;exact hk h
  ·have ht:tE g f.terms[m]=(Dr g f.terms[m]).2:=by simp[tE,hx]
   rw[ht] at hfi;rw[hfi hx];(repeat' first|refine M.gw ?_|refine M.c2 (hc) ?_|refine M.cs ?_ ?_<;>intro h|fail)
   ·rfl
   all_goals(exfalso;simp_all)
 ·intro hP;have h0:yw (tE g) f.terms=0:=yd fun j hj _=>hP j hj hj;rw[if_neg (by simp[h0])] at he;have htyl:=f.ty.size_pos;have hrest:∀g',g'=Cx g f->(∀x∈g',x.err=0)/\g'.length<=g.length+1/\∀(m:Nat) (hm:m<f.args.length),PC E 210 [.s .ty g',.agg f.args[m].view] (.i (f.args[m].BJ g')):=fun g' hg'=>by
   have hl:g'.length<=g.length+1:=by rw[hg'];simp only[Cx];split<;>simp
   have hee:∀x∈g',x.err=0:=fun x hx=>by
    rw[hg'] at hx;simp only[Cx] at hx;split at hx
    ·rename_i hqk;rcases List.mem_append.1 hx with hx|hx
     ·exact hg x hx
     ·rw[List.mem_singleton] at hx;subst hx;have h1:=TC hqk;rw[hs] at h1;have h2:f.ty.ok=true:=by
       cases ho:f.ty.ok with
       |true=>rfl
       |false=>rw[ho] at h1;simp at h1
      rw[Qm] at h2;simpa using h2
    ·exact hg x hx
   refine⟨hee,hl,fun m hm=> ?_⟩;have hs2:=ze Fm.full (List.getElem_mem hm);have hs3:=ze Fm.size (List.getElem_mem hm);exact ih f.args[m] g' (by omega) (by omega) (zl hs (List.getElem_mem hm)) hee (by omega) (by omega)
  cases hqk:y7 f.kind with
  |true=>
   rw[hqk] at hq;have hcx:Cx g f=g++[f.ty]:=HC hqk;obtain⟨_,_,hcall⟩:=hrest (g++[f.ty]) hcx.symm;rw[hcx] at he;(repeat' first|refine M.gw ?_|refine M.c2 (hq) ?_|fail);refine AW.range f.args.length (fun m=>∀j (hj:j<f.args.length),j<m->f.args[j].BJ (g++[f.ty])=0)
    (fun m=>([(0,.s .ty (g++[f.ty])),(3,.ptr 0 0),(46,.s .fm f.args),(47,.i f.args.length),(48,.i m)],⟨1,[(0,.var f.view)]⟩))
    (by omega) (fun m=>rfl) (fun m=>rfl) rfl (fun j hj h=>by omega) (M.W [some 0]) ?_ ?_
   ·intro m hm hP;have hc:=hcall m hm;by_cases hx:f.args[m].BJ (g++[f.ty])=0
    ·rw[hx] at hc;(repeat' first|refine M.gw ?_|refine M.c2 (hc) ?_|fail);exact⟨rfl,z4 (p:=fun t'=>Fm.BJ (g++[f.ty]) t'=0) hm hP hx,(M.W [some 0])⟩
    ·rw[he,yr hm hP hx];(repeat' first|refine M.gw ?_|refine M.c2 (hc) ?_|refine M.cs ?_ ?_<;>intro h|fail)
     ·rfl
     ·exfalso;simp at h;exact hx h
   ·intro hP;rw[he,yd fun j hj _=>hP j hj hj];(repeat' first|refine M.gw ?_|fail)
    rfl
  |false=>
   rw[hqk] at hq;have hcx:Cx g f=g:=Ht (by simp[hqk]);obtain⟨_,_,hcall⟩:=hrest g hcx.symm;rw[hcx] at he;(repeat' first|refine M.gw ?_|refine M.c2 (hq) ?_|fail);refine AW.range f.args.length (fun m=>∀j (hj:j<f.args.length),j<m->f.args[j].BJ g=0)
    (fun m=>([(0,.s .ty g),(3,.ptr 0 0),(46,.s .fm f.args),(47,.i f.args.length),(48,.i m)],⟨1,[(0,.var f.view)]⟩))
    (by omega) (fun m=>rfl) (fun m=>rfl) rfl (fun j hj h=>by omega) (M.W [some 0]) ?_ ?_
   ·intro m hm hP;have hc:=hcall m hm;by_cases hx:f.args[m].BJ g=0
    ·rw[hx] at hc;(repeat' first|refine M.gw ?_|refine M.c2 (hc) ?_|fail);exact⟨rfl,z4 (p:=fun t'=>Fm.BJ g t'=0) hm hP hx,(M.W [some 0])⟩
    ·rw[he,yr hm hP hx];(repeat' first|refine M.gw ?_|refine M.c2 (hc) ?_|refine M.cs ?_ ?_<;>intro h|fail)
     ·rfl
     ·exfalso;simp at h;exact hx h
   ·intro hP;rw[he,yd fun j hj _=>hP j hj hj];(repeat' first|refine M.gw ?_|fail)
    rfl
theorem NF(g:List Ty)(f:Fm)(hf:f.full<549755813888)(hg:∀x∈g,x.err=0)(hgl:g.length<90000):PC E 140 [.s .ty g,.agg f.view] (.i (w4 g f)):=by
 have h1:=wz f hf;by_cases he:f.err=0
 ·have h2:=(Fm.Ad f).1 he;have h3:=z9 he;have h4:=Zy7 _ f g (Nat.le_refl _) (by omega) h2.1 hg (by omega) (by omega);have e:w4 g f=f.BJ g:=by simp only[w4];rw[if_neg (by simp[he])]
  rw[he] at h1;rw[e];refine M.F Tryz.func140 ?_;(repeat' first|refine M.gw ?_|refine M.c2 (h1) ?_|refine M.c2 (h4) ?_|fail)
  rfl
 ·have e:w4 g f=f.err:=by simp only[w4];rw[if_pos he]
  rw[e];refine M.F Tryz.func140 ?_;(repeat' first|refine M.gw ?_|refine M.c2 (h1) ?_|refine M.cs ?_ ?_<;>intro h|fail)
  ·rfl
  ·exfalso;simp at h;exact he h
theorem K6(g:List Ty)(f:Fm)(hf:f.full<549755813888)(hg:(g.map Ty.size).sum<1099511627776):PC E 89 [.s .ty g,.agg f.view] (.i (yb g f)):=by
 have h1:=OC g hg;by_cases he:y1 g=0
 ·have h2:=vk he;have h4:=NF g f hf h2.2 (by omega);have e:yb g f=w4 g f:=by simp only[yb];rw[if_neg (by simp[he])]
  rw[he] at h1;rw[e];refine M.F Tryz.func89 ?_;(repeat' first|refine M.gw ?_|refine M.c2 (h1) ?_|refine M.c2 (h4) ?_|fail)
  rfl
 ·have e:yb g f=y1 g:=by simp only[yb];rw[if_pos he]
  rw[e];refine M.F Tryz.func89 ?_;(repeat' first|refine M.gw ?_|refine M.c2 (h1) ?_|refine M.cs ?_ ?_<;>intro h|fail)
  ·rfl
  ·exfalso;simp at h;exact he h
theorem Zui{at_ b:Int}{s t:Tm}(h:t.kind≠1):t.re (xm at_ s) b= .mk t.kind t.index t.ty (t.args.map fun x=>x.re (xm at_ s) (up t.kind b)):=xn h
theorem Vg(at_:Int)(s:Tm)(hat:0<=at_/\at_<137438953472)(hs:s.shape=true)(hsf:s.full<137438953472)(hsi:∀p∈s.vars 0,0<=p.1/\p.1<274877906944):∀(n:Nat) (t:Tm) (dp:Int),t.full<=n->n<137438953472->0<=dp->dp+n<274877906944->t.shape=true->(∀p∈t.vars 0,0<=p.1/\p.1<274877906944)->
 PC E 185 [.agg t.view,.i at_,.i dp,.agg s.view] (.agg (t.re (xm at_ s) dp).view):=by
 intro n;induction n with
 |zero=>intro t dp h;have:=t.Ac;omega
 |succ n ih=>
 intro t dp hsz hn h1 h2 ht hix;have hsz':=Tm.Af t;have hlen:=zh Tm.full Tm.Ac t.args;have hup:=JQ t.kind dp;have hpl:=Mh t.kind dp;have hb:=La t;by_cases hv:t.kind=1
 ·have hti:=hix (t.index,0) (by rw[w8 ht hv];simp);rw[JL ht hv];generalize t.index=i at hti;simp only at hti;rw[EX,v9];have hvi:(vT i).index=i:=rfl;have hu:=K7 (at_+dp) (by omega) _ s 0 (Nat.le_refl _) (by omega) (by omega) (by omega) hs fun p hp=>by have:=hsi p hp;omega
  have hvc:=DI (i-1);clear ih hix;by_cases h3:i-dp=at_
  ·rw[if_pos h3];have h3':i=at_+dp:=by omega
   subst h3';refine M.F Tryz.func185 ?_;(repeat' first|refine M.go ?_|refine M.c2 (hu) ?_|refine M.z1 4 ?_|refine M.cs ?_ ?_<;>intro h|refine M.gk ?_|fail);all_goals first
    |rfl
    |(exfalso;simp at h;done)
    |(exfalso;simp at h;omega)
  ·rw[if_neg h3];by_cases h4:i-dp>at_
   ·rw[if_pos h4];refine M.F Tryz.func185 ?_;(repeat' first|refine M.go ?_|refine M.z3 3 5 6 ?_|refine M.cs ?_ ?_<;>intro h|refine M.gk ?_|fail);all_goals first
     |(exfalso;simp at h;omega)
     |skip
    (repeat' first|refine M.gw ?_|refine M.c2 (hvc) ?_|fail)
    rfl
   ·rw[if_neg h4];refine M.F Tryz.func185 ?_;(repeat' first|refine M.go ?_|refine M.z3 3 5 6 ?_|refine M.cs ?_ ?_<;>intro h|refine M.gk ?_|fail);all_goals first
     |(exfalso;simp at h;omega)
     |skip
    (repeat' first|refine M.gw ?_|fail)
    rfl
 have he:=Zui (at_:=at_) (b:=dp) (s:=s) hv;refine M.F Tryz.func185 ?_;(repeat' first|refine M.go ?_|refine M.z1 2 ?_|refine M.cs ?_ ?_<;>intro h|refine M.gk ?_|fail);all_goals first
  |(exfalso;simp at h;exact hv h)
  |skip
 skip;refine AW.range t.args.length (fun m=>True) (fun m=>([(1,.i at_),(2,.i dp),(4,.ptr 0 0),(7,.ptr 1 0),(8,.ptr 2 0),(9,.ptr 3 0),(45,.s .tm t.args),(46,.i t.args.length),(47,.i m)],⟨5,[(0,.var t.view),(1,.var s.view),(2,.var [.i 0,.i 0,.i 0,.slice .nil (.t .ty []),.slice .nil (.t .tm [])]),(3,.var [.i t.kind,.i t.index,.i t.ty.kind,.s .ty t.ty.args,.slice (.own 4) (.t .tm ((t.args.take m).map fun x=>x.re (xm at_ s) (up t.kind dp)))]),(4,.row)]⟩))
  (by omega) (fun m=>rfl) (fun m=>rfl) rfl trivial (M.W [some 0,some 1,some 2,some 3,none]) ?_ ?_
 ·intro m hm _;have hs2:=ze Tm.full (List.getElem_mem hm);have hc:=ih t.args[m] (up t.kind dp) (by omega) (by omega) (by omega) (by omega) (zg ht _ (List.getElem_mem hm)) (fun p hp=>by
   obtain⟨q,hq,hqe⟩:=PL (b':=up t.kind 0) p hp;have:=hix q (IF hv (List.getElem_mem hm) hq);rw[<-hqe];exact this)
  rw[<-hpl] at hc;simp only[<-hpl];(repeat' first|refine M.gw ?_|refine M.c2 (hb) ?_|refine M.c2 (hc) ?_|fail);exact⟨rfl,trivial,(M.W [some 0,some 1,some 2,some 3,some 6] (he:=(by(repeat'(first|exact trivial|exact Or.inr ⟨_,U,rfl⟩|refine And.intro ?_ ?_|refine⟨_,U,_,U,_,U,?_⟩|exact An.refl _|exact An.of_eq (by simp[Al.Aw,yn _ _ _ hm])));done)))⟩
 ·intro _;simp only[List.take_length];(repeat' first|refine M.gw ?_|fail);rw[he];simp[zk,V.wk,V.Ak,zd,Ty.view,Tm.view]
theorem MT{t:Tm}(h:t.near=true):∀q∈t.vars 0,q.1<=536870912:=fun q hq=>by simpa using List.all_eq_true.1 h q hq
theorem Ycz(t:Tm)(fr by_:Int)(ht:t.full<274877906944):PC E 58 [.agg t.view,.i fr,.i by_] (.Ax [.agg (if yh t fr by_=0 then t.re (zn fr by_) 0 else va).view,.i (yh t fr by_)]):=by
 have h1:=vi t (by omega);by_cases he:t.err=0;case neg=>
  have e:yh t fr by_=t.err:=by simp only[yh];rw[if_pos he]
  rw[e,if_neg he];refine M.F Tryz.func58 ?_;(repeat' first|refine M.go ?_|refine M.c2 (h1) ?_|refine M.z1 4 ?_|refine M.cs ?_ ?_<;>intro h|refine M.gk ?_|fail);all_goals first
   |rfl
   |(exfalso;simp at h;exact he h)
 obtain⟨hsh,hsz⟩:=y5 he;have h2:=MC 536870912 (by omega) _ t (Nat.le_refl _) (by omega) hsh;have hfl:=JM t hsh;rw[he] at h1;by_cases hr:(0<=fr/\fr<=4096)/\(0<=by_/\by_<=4096)/\t.near=true
 ·have e:yh t fr by_=0:=by
   simp only[yh];rw[if_neg (by simp[he]),if_neg];rintro(hc|hc|hc)
   ·exact hc hr.1
   ·exact hc hr.2.1
   ·rw[hr.2.2] at hc;cases hc
  have h3:=K7 by_ (by omega) _ t fr (Nat.le_refl _) (by omega) (by omega) (by omega) hsh fun p hp=>⟨t.AH hsh 0 p hp,by have:=MT hr.2.2 p hp;omega⟩;have hlf:=wj fr by_ t 0 hsh;have h4:=wu _ (t.re (zn fr by_) 0) (Nat.le_refl _) (by omega);have hn:=hr.2.2;rw[NC] at hn;rw[hn] at h2;rw[e,if_pos rfl];obtain⟨⟨r1,r2⟩,⟨r3,r4⟩,_⟩:=hr;clear he;refine M.F Tryz.func58 ?_;(repeat' first|refine M.gw ?_|refine M.c2 (h1) ?_|refine M.c2 (h2) ?_|refine M.c2 (h3) ?_|refine M.c2 (h4) ?_|refine M.gs ?_ ?_<;>intro h|fail);all_goals first
   |rfl
   |(exfalso;simp at*;omega)
 ·have e:yh t fr by_=1:=by
   simp only[yh];rw[if_neg (by simp[he]),if_pos];by_cases a1:0<=fr/\fr<=4096
   ·by_cases a2:0<=by_/\by_<=4096
    ·refine .inr (.inr ?_);cases hn:t.near with
     |false=>rfl
     |true=>exact absurd ⟨a1,a2,hn⟩ hr
    ·exact .inr (.inl a2)
   ·exact .inl a1
  rw[e,if_neg (by decide)];rw[NC] at hr;refine M.F Tryz.func58 ?_;(repeat' first|refine M.go ?_|refine M.c2 (h1) ?_|refine M.c2 (h2) ?_|refine M.gs ?_ ?_<;>intro h|refine M.z1 6 ?_|refine M.cs ?_ ?_<;>intro h|refine M.gk ?_|fail);all_goals first
   |rfl
   |(exfalso;apply hr;simp at*;exact⟨by omega,by omega,by assumption⟩)
   |(exfalso;apply hr;simp_all;omega)
theorem Zv4:∀(n:Nat) (f:Fm) (at_:Int),f.full<=n->n<274877906944->-274877906944<=at_->at_+n<549755813888->f.shape=true->PC E 117 [.agg f.view,.i at_] (.i (y9 at_ f)):=by
 intro n;induction n with
 |zero=>intro f at_ h;have:=f.Ac;omega
 |succ n ih=>
 intro f at_ hsz hn h1 h2 hs;have hsz':=f.Af;have hlen:=zh Fm.full Fm.Ac f.args;have hlen2:=zh Tm.full Tm.Ac f.terms;have he:=U9 (at_:=at_) hs;have hup:=H8 f.kind at_;have hpl:=Ng f.kind at_;have hb:=Nh f;have hle1:∀m,((f.terms.take m).map (yq at_)).sum<=(f.terms.map Tm.full).sum:=fun m=>by
  have a1:=yc Tm.full f.terms m;have a2:=xr (f:=yq at_) (g:=Tm.full) (f.terms.take m) fun x _=>Nat.le_trans (LC x _) x.Aj;omega
 have hle2:∀m,((f.args.take m).map (y9 (AB f.kind at_))).sum<=(f.args.map Fm.full).sum:=fun m=>by
  have a1:=yc Fm.full f.args m;have a2:=xr (f:=y9 (AB f.kind at_)) (g:=Fm.full) (f.args.take m) fun x _=>Nat.le_trans (Q2 _ x) x.Aj;omega
 refine M.F Tryz.func117 ?_;(repeat' first|refine M.gw ?_|fail);refine AW.range f.terms.length (fun m=>True)
  (fun m=>([(1,.i at_),(2,.ptr 0 0),(5,.i (((f.terms.take m).map (yq at_)).sum:Nat)),(11,.s .tm f.terms),(12,.i f.terms.length),(13,.i m)],⟨1,[(0,.var f.view)]⟩))
  (by omega) (fun m=>rfl) (fun m=>rfl) rfl trivial (M.W [some 0]) ?_ ?_
 ·intro m hm _;have hs1:=yv (yq at_) f.terms m hm;have hs2:=ze Tm.full (List.getElem_mem hm);have hs3:=hle1 m;have hs4:=LC f.terms[m] at_;have hs5:=f.terms[m].Aj;have hc:=R9 _ f.terms[m] at_ (Nat.le_refl _) (by omega) (by omega) (by omega) (zw hs (List.getElem_mem hm));(repeat' first|refine M.gw ?_|refine M.c2 (hc) ?_|fail);refine⟨rfl,trivial,?_⟩;simp only[hs1];exact(M.W [some 0])
 ·intro _;have hs6:=hle1 f.terms.length;simp only[List.take_length] at hs6 ⊢;(repeat' first|refine M.gw ?_|fail);refine AW.range f.args.length (fun m=>True)
   (fun m=>([(1,.i at_),(2,.ptr 0 0),(5,.i ((f.terms.map (yq at_)).sum+((f.args.take m).map (y9 (AB f.kind at_))).sum:Nat)),(24,.s .fm f.args),(25,.i f.args.length),(26,.i m)],⟨1,[(0,.var f.view)]⟩))
   (by omega) (fun m=>rfl) (fun m=>rfl) rfl trivial (M.W [some 0]) ?_ ?_
  ·intro m hm _;have hs1:=yv (y9 (AB f.kind at_)) f.args m hm;have hs2:=ze Fm.full (List.getElem_mem hm);have hs3:=hle2 m;have hs4:=Q2 (AB f.kind at_) f.args[m];have hs5:=f.args[m].Aj;have hc:=ih f.args[m] (AB f.kind at_) (by omega) (by omega) (by omega) (by omega) (zl hs (List.getElem_mem hm));rw[<-hpl] at hc hs1 hs3 hs4;simp only[<-hpl];(repeat' first|refine M.gw ?_|refine M.c2 (hb) ?_|refine M.c2 (hc) ?_|fail);refine⟨rfl,trivial,?_⟩;simp only[hs1];exact(M.W [some 0] (hf:=(by(repeat'(first|exact trivial|refine And.intro ?_ ?_|refine⟨_,U,_,U,?_⟩|exact An.refl _|exact An.of_eq (by simp[Al.Aw,Int.natCast_add,Int.add_assoc])));done)))
  ·intro _;simp only[List.take_length];(repeat' first|refine M.gw ?_|fail);rw[he]
   rfl
theorem Qd(most:Int)(h0:0<=most):∀(n:Nat) (f:Fm),f.full<=n->n<549755813888->f.shape=true->PC E 116 [.agg f.view,.i most] (.bool (u7 most f)):=by
 intro n;induction n with
 |zero=>intro f h;have:=f.Ac;omega
 |succ n ih=>
 intro f hsz hn hs;have hsz':=f.Af;have hlen:=zh Fm.full Fm.Ac f.args;have hlen2:=zh Tm.full Tm.Ac f.terms;have he:=Zwz most f;refine M.F Tryz.func116 ?_;(repeat' first|refine M.gw ?_|fail);refine AW.range f.terms.length (fun m=>∀j (hj:j<f.terms.length),j<m->xu most f.terms[j]=true)
  (fun m=>([(1,.i most),(2,.ptr 0 0),(10,.s .tm f.terms),(11,.i f.terms.length),(12,.i m)],⟨1,[(0,.var f.view)]⟩))
  (by omega) (fun m=>rfl) (fun m=>rfl) rfl (fun j hj h=>by omega) (M.W [some 0]) ?_ ?_
 ·intro m hm hP;have hs2:=ze Tm.full (List.getElem_mem hm);have hc:=MC most h0 _ f.terms[m] (Nat.le_refl _) (by omega) (zw hs (List.getElem_mem hm));(repeat' first|refine M.gw ?_|refine M.c2 (hc) ?_|refine M.cs ?_ ?_<;>intro h|fail)
  ·have hx:xu most f.terms[m]=false:=by simpa using h
   rw[he,ve (xu most) hm hx];rfl
  ·have hx:xu most f.terms[m]=true:=by simpa using h
   exact⟨rfl,z4 (p:=fun t=>xu most t=true) hm hP hx,(M.W [some 0])⟩
 ·intro hP;rw[EA (xu most) f.terms fun j hj=>hP j hj hj,Bool.true_and] at he;(repeat' first|refine M.gw ?_|fail);refine AW.range f.args.length (fun m=>∀j (hj:j<f.args.length),j<m->u7 most f.args[j]=true)
   (fun m=>([(1,.i most),(2,.ptr 0 0),(22,.s .fm f.args),(23,.i f.args.length),(24,.i m)],⟨1,[(0,.var f.view)]⟩))
   (by omega) (fun m=>rfl) (fun m=>rfl) rfl (fun j hj h=>by omega) (M.W [some 0]) ?_ ?_
  ·intro m hm hP;have hs2:=ze Fm.full (List.getElem_mem hm);have hc:=ih f.args[m] (by omega) (by omega) (zl hs (List.getElem_mem hm));(repeat' first|refine M.gw ?_|refine M.c2 (hc) ?_|refine M.cs ?_ ?_<;>intro h|fail)
   ·have hx:u7 most f.args[m]=false:=by simpa using h
    rw[he,ve (u7 most) hm hx];rfl
   ·have hx:u7 most f.args[m]=true:=by simpa using h
    exact⟨rfl,z4 (p:=fun t=>u7 most t=true) hm hP hx,(M.W [some 0])⟩
  ·intro hP;rw[he,EA (u7 most) f.args fun j hj=>hP j hj hj];(repeat' first|refine M.gw ?_|fail)
   rfl
theorem Ygh(t:Tm)(hs:t.shape=true):PC E 254 [.agg t.view] (.bool (v6 t)):=by
 by_cases k3:t.kind=3
 ·obtain ⟨i,th,f,a,rfl,hf,ha⟩:=IP hs k3 rfl;refine M.F Tryz.func254 ?_;(repeat' first|refine M.gw ?_|refine M.bl ?_|fail)
  rfl
 ·by_cases k6:t.kind=6
  ·obtain ⟨i,th,x,y,z,rfl,_,_,_⟩:=Kj hs k6 rfl;by_cases h4:z.kind=4
   ·have e:v6 (.mk 6 i th [x,y,z])=true:=by simp[v6,Tm.arg,h4]
    rw[e];refine M.F Tryz.func254 ?_;(repeat' first|refine M.gw ?_|refine M.gs ?_ ?_<;>intro h|refine M.bl ?_|fail);all_goals first
     |rfl
     |(exfalso;simp_all;done)
   ·have e:v6 (.mk 6 i th [x,y,z])=(z.kind==5):=by simp[v6,Tm.arg,h4]
    rw[e];refine M.F Tryz.func254 ?_;(repeat' first|refine M.gw ?_|refine M.gs ?_ ?_<;>intro h|refine M.bl ?_|fail);all_goals first
     |rfl
     |(exfalso;simp_all;done)
  ·by_cases k9:t.kind=9
   ·obtain ⟨i,th,x,y,z,rfl,_,_,_⟩:=Kj hs k9 rfl;by_cases h4:z.kind=7
    ·have e:v6 (.mk 9 i th [x,y,z])=true:=by simp[v6,Tm.arg,h4]
     rw[e];refine M.F Tryz.func254 ?_;(repeat' first|refine M.gw ?_|refine M.gs ?_ ?_<;>intro h|refine M.bl ?_|fail);all_goals first
      |rfl
      |(exfalso;simp_all;done)
    ·have e:v6 (.mk 9 i th [x,y,z])=(z.kind==8):=by simp[v6,Tm.arg,h4]
     rw[e];refine M.F Tryz.func254 ?_;(repeat' first|refine M.gw ?_|refine M.gs ?_ ?_<;>intro h|refine M.bl ?_|fail);all_goals first
      |rfl
      |(exfalso;simp_all;done)
   ·by_cases k11:t.kind=11
    ·obtain ⟨i,th,x,rfl,_⟩:=GA hs k11 rfl;refine M.F Tryz.func254 ?_;(repeat' first|refine M.gw ?_|refine M.bl ?_|fail)
     rfl
    ·by_cases k12:t.kind=12
     ·obtain ⟨i,th,x,rfl,_⟩:=GA hs k12 rfl;refine M.F Tryz.func254 ?_;(repeat' first|refine M.gw ?_|refine M.bl ?_|fail)
      rfl
     ·have e:v6 t=false:=by simp[v6,k3,k6,k9,k11,k12]
      rw[e];have b3:¬(t.kind==3)=true:=by simpa using k3
      have b6:¬(t.kind==6)=true:=by simpa using k6
      have b9:¬(t.kind==9)=true:=by simpa using k9
      have b11:¬(t.kind==11)=true:=by simpa using k11
      have b12:¬(t.kind==12)=true:=by simpa using k12
      refine M.F Tryz.func254 ?_;(repeat' first|refine M.gw ?_|refine M.gs ?_ ?_<;>intro h|refine M.bl ?_|refine M.cs ?_ ?_<;>intro h|fail);all_goals first
       |rfl
       |contradiction
theorem Ycr{t x:Tm}(hv:RV t x)(hs:t.shape=true)(hz:t.size<=4096):PC E 255 [.agg t.view] (.i (Fl t)):=by
 have hfull:=yt t hs;have h0:=yx _ t (Nat.le_refl _) (by omega);cases hv with
 |beta i th j s b a=>
  have hb:b.shape=true:=zg (zg hs (.mk 2 j s [b]) (by simp)) b (by simp);have ha:a.shape=true:=zg hs a (by simp);have hsz:(Tm.mk 3 i th [Tm.mk 2 j s [b],a]).size=2+b.size+a.size:=by simp[Tm.size,Tm.sizes];omega
  have fb:=yt b hb;have fa:=yt a ha;have h1:=yx _ b (Nat.le_refl _) (by omega);have h2:=R9 _ b 0 (Nat.le_refl _) (by omega) (by omega) (by omega) hb;have h3:=yx _ a (Nat.le_refl _) (by omega);have htl:=LC b 0;have hap:=a.size_pos;have hm:=Py (yq 0 b) (a.size-1) (by omega) (by omega);have hm': -9223372036854775808<=(yq 0 b:Int)*(a.size-1)/\(yq 0 b:Int)*(a.size-1)<=9223372036854775807:=by omega
  have e:Fl (Tm.mk 3 i th [Tm.mk 2 j s [b],a])=b.size+yq 0 b*(a.size-1)-(Tm.mk 3 i th [Tm.mk 2 j s [b],a]).size:=by
   have hc:=Nv b 0 0 hb;rw[Int.add_zero] at hc;show((b.re (xm 0 a) 0).size:Int)-_=_;rw[MY 0 a b ha 0 hb,hc];congr 1;rw[Int.natCast_add,Int.natCast_mul];congr 2;omega
  rw[e];clear e;refine M.F Tryz.func255 ?_;(repeat' first|refine M.gw ?_|refine M.c2 (h0) ?_|refine M.c2 (h1) ?_|refine M.c2 (h2) ?_|refine M.c2 (h3) ?_|refine M.bl ?_|fail)
  rfl
 |rz i th _ f j s=>
  have h1:=yx _ x (Nat.le_refl _) (by have:=yt x (zg hs x (by simp));have:=ze Tm.size (l:=[x,f,Tm.mk 4 j s []]) (t:=x) (by simp);have:=Tm.size_eq (Tm.mk 6 i th [x,f,Tm.mk 4 j s []]);simp only[Tm.Ae] at this;omega);have e:(x.size:Int)<=4096:=by have:=ze Tm.size (l:=[x,f,Tm.mk 4 j s []]) (t:=x) (by simp);have:=Tm.size_eq (Tm.mk 6 i th [x,f,Tm.mk 4 j s []]);simp only[Tm.Ae] at this;omega
  have e2:Fl (Tm.mk 6 i th [x,f,Tm.mk 4 j s []])=x.size-(Tm.mk 6 i th [x,f,Tm.mk 4 j s []]).size:=rfl;rw[e2];refine M.F Tryz.func255 ?_;(repeat' first|refine M.gw ?_|refine M.c2 (h0) ?_|refine M.c2 (h1) ?_|refine M.bl ?_|fail)
  rfl
 |fz i th _ f j s=>
  have h1:=yx _ x (Nat.le_refl _) (by have:=yt x (zg hs x (by simp));have:=ze Tm.size (l:=[x,f,Tm.mk 7 j s []]) (t:=x) (by simp);have:=Tm.size_eq (Tm.mk 9 i th [x,f,Tm.mk 7 j s []]);simp only[Tm.Ae] at this;omega);have e:(x.size:Int)<=4096:=by have:=ze Tm.size (l:=[x,f,Tm.mk 7 j s []]) (t:=x) (by simp);have:=Tm.size_eq (Tm.mk 9 i th [x,f,Tm.mk 7 j s []]);simp only[Tm.Ae] at this;omega
  have e2:Fl (Tm.mk 9 i th [x,f,Tm.mk 7 j s []])=x.size-(Tm.mk 9 i th [x,f,Tm.mk 7 j s []]).size:=rfl;rw[e2];refine M.F Tryz.func255 ?_;(repeat' first|refine M.gw ?_|refine M.c2 (h0) ?_|refine M.c2 (h1) ?_|refine M.bl ?_|fail)
  rfl
 |rs i th x f j s n=>
  have hn:n.shape=true:=zg (zg hs (.mk 5 j s [n]) (by simp)) n (by simp);have hsz:(Tm.mk 6 i th [x,f,Tm.mk 5 j s [n]]).size=2+x.size+f.size+n.size:=by simp[Tm.size,Tm.sizes];omega
  have h1:=yx _ f (Nat.le_refl _) (by have:=yt f (zg hs f (by simp));omega);have h2:=yx _ n (Nat.le_refl _) (by have:=yt n hn;omega);have e2:Fl (Tm.mk 6 i th [x,f,Tm.mk 5 j s [n]])=2+f.size+n.size+(Tm.mk 6 i th [x,f,Tm.mk 5 j s [n]]).size-1-(Tm.mk 6 i th [x,f,Tm.mk 5 j s [n]]).size:=by
   show((AP (AP f n) (.mk 6 0 th [x,f,n])).size:Int)-_=_;simp[AP,Tm.size,Tm.sizes];omega
  rw[e2];clear e2;refine M.F Tryz.func255 ?_;(repeat' first|refine M.gw ?_|refine M.c2 (h0) ?_|refine M.c2 (h1) ?_|refine M.c2 (h2) ?_|refine M.bl ?_|fail)
  rfl
 |fs i th x f j s n l=>
  have hn:n.shape=true:=zg (zg hs (.mk 8 j s [n,l]) (by simp)) n (by simp);have hl:l.shape=true:=zg (zg hs (.mk 8 j s [n,l]) (by simp)) l (by simp);have hsz:(Tm.mk 9 i th [x,f,Tm.mk 8 j s [n,l]]).size=2+x.size+f.size+n.size+l.size:=by simp[Tm.size,Tm.sizes];omega
  have h1:=yx _ f (Nat.le_refl _) (by have:=yt f (zg hs f (by simp));omega);have h2:=yx _ n (Nat.le_refl _) (by have:=yt n hn;omega);have h3:=yx _ l (Nat.le_refl _) (by have:=yt l hl;omega);have e2:Fl (Tm.mk 9 i th [x,f,Tm.mk 8 j s [n,l]])=3+f.size+n.size+l.size+(Tm.mk 9 i th [x,f,Tm.mk 8 j s [n,l]]).size-1-n.size-(Tm.mk 9 i th [x,f,Tm.mk 8 j s [n,l]]).size:=by
   show((AP (AP (AP f n) l) (.mk 9 0 th [x,f,l])).size:Int)-_=_;simp[AP,Tm.size,Tm.sizes];omega
  rw[e2];clear e2;refine M.F Tryz.func255 ?_;(repeat' first|refine M.gw ?_|refine M.c2 (h0) ?_|refine M.c2 (h1) ?_|refine M.c2 (h2) ?_|refine M.c2 (h3) ?_|refine M.bl ?_|fail)
  rfl
 |p1 i th j s _ y=>
  have hsz:(Tm.mk 11 i th [Tm.mk 10 j s [x,y]]).size=2+x.size+y.size:=by simp[Tm.size,Tm.sizes];omega
  have hx:x.shape=true:=zg (zg hs (.mk 10 j s [x,y]) (by simp)) x (by simp);have h1:=yx _ x (Nat.le_refl _) (by have:=yt x hx;omega);have e2:Fl (Tm.mk 11 i th [Tm.mk 10 j s [x,y]])=x.size-(Tm.mk 11 i th [Tm.mk 10 j s [x,y]]).size:=rfl;rw[e2];clear e2;refine M.F Tryz.func255 ?_;(repeat' first|refine M.gw ?_|refine M.c2 (h0) ?_|refine M.c2 (h1) ?_|refine M.bl ?_|fail)
  rfl
 |p2 i th j s y _=>
  have hsz:(Tm.mk 12 i th [Tm.mk 10 j s [y,x]]).size=2+x.size+y.size:=by simp[Tm.size,Tm.sizes];omega
  have hx:x.shape=true:=zg (zg hs (.mk 10 j s [y,x]) (by simp)) x (by simp);have h1:=yx _ x (Nat.le_refl _) (by have:=yt x hx;omega);have e2:Fl (Tm.mk 12 i th [Tm.mk 10 j s [y,x]])=x.size-(Tm.mk 12 i th [Tm.mk 10 j s [y,x]]).size:=rfl;rw[e2];clear e2;refine M.F Tryz.func255 ?_;(repeat' first|refine M.gw ?_|refine M.c2 (h0) ?_|refine M.c2 (h1) ?_|refine M.bl ?_|fail)
  rfl
theorem NJ{t x:Tm}{B:Int}(hx:x∈t.args)(h:∀p∈t.vars 0,0<=p.1/\p.1<B):∀p∈x.vars 0,0<=p.1/\p.1<B:=by
 intro p hp;have e:=JV x 0 (up t.kind 0);have hm:(p.1,p.2+up t.kind 0)∈t.vars 0:=by
  rw[Tm.AG];refine List.mem_append_right _ (List.mem_flatMap.2 ⟨x,hx,?_⟩);rw[Int.zero_add] at e;rw[e];exact List.mem_map.2 ⟨p,hp,rfl⟩
 have h3:=h (p.1,p.2+up t.kind 0) hm;exact h3
theorem Ye9{t x:Tm}(hv:RV t x)(hs:t.shape=true)(hz:t.size<=4096)(hix:∀p∈t.vars 0,0<=p.1/\p.1<1073741824):PC E 256 [.agg t.view] (.agg x.view):=by
 have hfull:=yt t hs;cases hv with
 |beta i th j s b a=>
  have hb:b.shape=true:=zg (zg hs (.mk 2 j s [b]) (by simp)) b (by simp);have ha:a.shape=true:=zg hs a (by simp);have hsz:(Tm.mk 3 i th [Tm.mk 2 j s [b],a]).size=2+b.size+a.size:=by simp[Tm.size,Tm.sizes];omega
  have fb:=yt b hb;have fa:=yt a ha;have hia:=NJ (t:=Tm.mk 3 i th [Tm.mk 2 j s [b],a]) (x:=a) (by simp) hix;have hib:=NJ (t:=Tm.mk 2 j s [b]) (x:=b) (by simp) (NJ (t:=Tm.mk 3 i th [Tm.mk 2 j s [b],a]) (x:=Tm.mk 2 j s [b]) (by simp) hix);have h1:=Vg 0 a (by omega) ha (by omega) (fun p hp=>by have:=hia p hp;omega) _ b 0 (Nat.le_refl _) (by omega) (by omega) (by omega) hb (fun p hp=>by have:=hib p hp;omega);refine M.F Tryz.func256 ?_;(repeat' first|refine M.gw ?_|refine M.c2 (h1) ?_|refine M.bl ?_|fail)
  rfl
 |rz i th _ f j s=>
  refine M.F Tryz.func256 ?_;(repeat' first|refine M.gw ?_|refine M.bl ?_|fail)
  rfl
 |fz i th _ f j s=>
  refine M.F Tryz.func256 ?_;(repeat' first|refine M.gw ?_|refine M.bl ?_|fail)
  rfl
 |rs i th x f j s n=>
  have hff:(Tm.mk 6 i th [x,f,Tm.mk 5 j s [n]]).full=2+th.size+s.size+x.full+f.full+n.full:=by simp[Tm.full,Tm.Ap];omega
  have h1:=Co 3 [f,n] (by simp;omega);have h2:=Fk 6 th [x,f,n] (by simp;omega) (by omega);have h3:=Co 3 [AP f n,.mk 6 0 th [x,f,n]] (by simp[AP,Tm.full,Tm.Ap,Ty.size,Ty.sizes];omega);refine M.F Tryz.func256 ?_;(repeat' first|refine M.gw ?_|refine M.c2 (h1) ?_|refine M.c2 (h2) ?_|refine M.c2 (h3) ?_|refine M.bl ?_|fail)
  rfl
 |fs i th x f j s n l=>
  have hff:(Tm.mk 9 i th [x,f,Tm.mk 8 j s [n,l]]).full=2+th.size+s.size+x.full+f.full+n.full+l.full:=by simp[Tm.full,Tm.Ap];omega
  have h1:=Co 3 [f,n] (by simp;omega);have h2:=Co 3 [AP f n,l] (by simp[AP,Tm.full,Tm.Ap,Ty.size,Ty.sizes];omega);have h3:=Fk 9 th [x,f,l] (by simp;omega) (by omega);have h4:=Co 3 [AP (AP f n) l,.mk 9 0 th [x,f,l]] (by simp[AP,Tm.full,Tm.Ap,Ty.size,Ty.sizes];omega);refine M.F Tryz.func256 ?_;(repeat' first|refine M.gw ?_|refine M.c2 (h1) ?_|refine M.c2 (h2) ?_|refine M.c2 (h3) ?_|refine M.c2 (h4) ?_|refine M.bl ?_|fail)
  rfl
 |p1 i th j s _ y=>
  refine M.F Tryz.func256 ?_;(repeat' first|refine M.gw ?_|refine M.bl ?_|fail)
  rfl
 |p2 i th j s y _=>
  refine M.F Tryz.func256 ?_;(repeat' first|refine M.gw ?_|refine M.bl ?_|fail)
  rfl
def HP(t:Tm)(o:Option (Tm×Bool)):V:= .Ax [.agg ((o.map (·.1)).getD t).view,.bool o.isSome,.bool ((o.map (·.2)).getD true)]
theorem Ybn(room:Int):∀(n:Nat) (t:Tm),t.size<=n->t.shape=true->t.size<=4096->(∀p∈t.vars 0,0<=p.1/\p.1<1073741824)->PC E 224 [.agg t.view,.i room] (HP t (Cy room t)):=by
 intro n;induction n with
 |zero=>intro t h;have:=t.size_pos;omega
 |succ n ih=>
 intro t hsz hs hz hix;have hfull:=yt t hs;have hse:=t.size_eq;have hlen:=zh Tm.size Tm.size_pos t.args;have h1:=Ygh t hs;have he:=FR room t;by_cases hr:v6 t=true
 ·have h2:=Ycr (Jw hs hr) hs hz;rw[hr] at h1;rw[if_pos hr] at he;by_cases hg:Fl t>room
  ·rw[if_pos hg] at he;rw[he];refine AC.mk Tryz.func224 rfl rfl rfl rfl rfl (Nat.le_of_ble_eq_true rfl) ?_;repeat'(first|((with_reducible refine D.nil ?_);refine AX.Bk ?_)|((with_reducible refine D.load ?_);refine L.EB U U U U U U ?_)|((with_reducible refine D.move ?_);refine L.mv U U U ?_)|((with_reducible refine D.assign ?_);refine L.Df U U U ?_)|((with_reducible refine D.bin ?_);refine L.bn U U U U U ?_)|((with_reducible refine D.call ?_);first|refine L.c2 (h1) U U U U ?_|refine L.c2 (h2) U U U U ?_)|((with_reducible refine D.box ?_);refine L.bx U U U U ?_)|((with_reducible refine D.alloc ?_);refine L.al U U U ?_)|((with_reducible refine D.store ?_);refine L.st U U U U U U U U U ?_)|((with_reducible refine D.ax ?_);refine L.bd U U U U U ?_)|((with_reducible refine D.aw ?_);first|refine K.sq (AW.A8 ?_)|refine K.sq (K.sq ?_)|refine AW.A8 ?_|refine AW.BD U ?_|refine AW.Dl U (fun h=> ?_) (fun h=> ?_)|refine AW.skip ?_|refine AW.ret ?_)|with_reducible refine K.tN ?_|with_reducible refine K.tR ?_|with_reducible refine K.r1 (by with_unfolding_all rfl) (by with_unfolding_all rfl) ?_)
   all_goals first
    |rfl
    |(exfalso;simp at h;omega)
  ·rw[if_neg hg] at he;rw[he];have h3:=Ye9 (Jw hs hr) hs hz hix;refine AC.mk Tryz.func224 rfl rfl rfl rfl rfl (Nat.le_of_ble_eq_true rfl) ?_;repeat'(first|((with_reducible refine D.nil ?_);refine AX.Bk ?_)|((with_reducible refine D.load ?_);refine L.EB U U U U U U ?_)|((with_reducible refine D.move ?_);refine L.mv U U U ?_)|((with_reducible refine D.assign ?_);refine L.Df U U U ?_)|((with_reducible refine D.bin ?_);refine L.bn U U U U U ?_)|((with_reducible refine D.call ?_);first|refine L.c2 (h1) U U U U ?_|refine L.c2 (h2) U U U U ?_|refine L.c2 (h3) U U U U ?_)|((with_reducible refine D.box ?_);refine L.bx U U U U ?_)|((with_reducible refine D.alloc ?_);refine L.al U U U ?_)|((with_reducible refine D.store ?_);refine L.st U U U U U U U U U ?_)|((with_reducible refine D.ax ?_);refine L.bd U U U U U ?_)|((with_reducible refine D.aw ?_);first|refine K.sq (AW.A8 ?_)|refine K.sq (K.sq ?_)|refine AW.A8 ?_|refine AW.BD U ?_|refine AW.Dl U (fun h=> ?_) (fun h=> ?_)|refine AW.skip ?_|refine AW.ret ?_)|with_reducible refine K.tN ?_|with_reducible refine K.tR ?_|with_reducible refine K.r1 (by with_unfolding_all rfl) (by with_unfolding_all rfl) ?_)
   all_goals first
    |rfl
    |(exfalso;simp at h;omega)
 rw[if_neg hr] at he;rw[Bool.not_eq_true] at hr;rw[hr] at h1;have hih:∀m (hm:m<t.args.length),PC E 224 [.agg t.args[m].view,.i room] (HP t.args[m] (Cy room t.args[m])):=fun m hm=>by
  have h5:=ze Tm.size (List.getElem_mem hm);exact ih t.args[m] (by omega) (zg hs _ (List.getElem_mem hm)) (by omega) (NJ (List.getElem_mem hm) hix)
 clear ih;refine AC.mk Tryz.func224 rfl rfl rfl rfl rfl (Nat.le_of_ble_eq_true rfl) ?_;repeat'(first|((with_reducible refine D.nil ?_);refine AX.Bk ?_)|((with_reducible refine D.load ?_);refine L.EB U U U U U U ?_)|((with_reducible refine D.move ?_);refine L.mv U U U ?_)|((with_reducible refine D.fieldAddr ?_);refine L.Ji U U U U U ?_)|((with_reducible refine D.assign ?_);refine L.Df U U U ?_)|((with_reducible refine D.call ?_);first|refine L.Ki U U U U ?_|refine L.c2 (h1) U U U U ?_)|((with_reducible refine D.box ?_);refine L.bx U U U U ?_)|((with_reducible refine D.alloc ?_);refine L.al U U U ?_)|((with_reducible refine D.aw ?_);first|refine K.sq (AW.A8 ?_)|refine K.sq (K.sq ?_)|refine AW.A8 ?_|refine AW.BE U ?_|refine AW.skip ?_)|with_reducible refine K.tN ?_)
 refine AW.range t.args.length (fun m=>∀j (hj:j<t.args.length),j<m->Cy room t.args[j]=none)
  (fun m=>([(1,.i room),(2,.ptr 0 0),(4,.ptr 1 0),(23,.s .tm t.args),(24,.i t.args.length),(25,.i m)],⟨2,[(0,.var t.view),(1,.var [.i 0,.i 0,.i 0,.slice .nil (.t .ty []),.slice .nil (.t .tm [])])]⟩))
  (by omega) (fun m=>rfl) (fun m=>rfl) U (fun j hj h=>by omega) (Bc.mk [some 0,some 1] _ _ _ U U U U (by(repeat'(first|exact trivial|refine And.intro ?_ ?_|refine⟨_,U,_,U,?_⟩|exact An.refl _));done) (by(repeat'(first|exact trivial|refine And.intro ?_ ?_|refine⟨_,U,_,U,_,U,?_⟩|exact An.refl _));done)) ?_ ?_
 ·intro m hm hP;have hc:=hih m hm;cases hn:Cy room t.args[m] with
  |none=>
   rw[hn] at hc;simp only[HP,Option.map_none,Option.getD_none,Option.isSome_none] at hc;repeat'(first|((with_reducible refine D.nil ?_);refine AX.Bk ?_)|((with_reducible refine D.load ?_);first|refine L.EB U U U U U U ?_|refine L.JP U U U U U ?_)|((with_reducible refine D.move ?_);refine L.mv U U U ?_)|((with_reducible refine D.assign ?_);refine L.Df U U U ?_)|((with_reducible refine D.call ?_);refine L.c2 (hc) U U U U ?_)|((with_reducible refine D.extract ?_);refine L.ex U U U U ?_)|((with_reducible refine D.alloc ?_);refine L.al U U U ?_)|((with_reducible refine D.store ?_);refine L.st U U U U U U U U U ?_)|((with_reducible refine D.indexAddr ?_);refine L.B8 _ U U U U U U U (by first|assumption|fail) ?_)|((with_reducible refine D.not ?_);refine L.nt U U U ?_)|((with_reducible refine D.aw ?_);first|refine K.sq (AW.A8 ?_)|refine K.sq (K.sq ?_)|refine AW.A8 ?_|refine AW.BD U ?_|refine AW.exit ?_)|with_reducible refine K.tN ?_|with_reducible refine K.tE ?_|with_reducible refine K.bX (by with_unfolding_all rfl) ?_)
   exact⟨rfl,z4 (p:=fun x:Tm=>Cy room x=none) hm hP hn,(Bc.mk [some 0,some 1] _ _ _ U U U U (by(repeat'(first|exact trivial|refine And.intro ?_ ?_|refine⟨_,U,_,U,?_⟩|exact An.refl _));done) (by(repeat'(first|exact trivial|refine And.intro ?_ ?_|refine⟨_,U,_,U,_,U,?_⟩|exact An.refl _));done))⟩
  |some u=>
   obtain⟨u,f⟩:=u;rw[hn] at hc;simp only[HP,Option.map_some,Option.getD_some,Option.isSome_some] at hc;have e:Cy room t=some (.mk t.kind t.index t.ty (t.args.set m u),f):=by rw[he,VS room t.args m hm (u,f) hn hP];rfl
   rw[e];simp only[HP,Option.map_some,Option.getD_some,Option.isSome_some];repeat'(first|((with_reducible refine D.nil ?_);refine AX.Bk ?_)|((with_reducible refine D.load ?_);first|refine L.EB U U U U U U ?_|refine L.JP U U U U U ?_)|((with_reducible refine D.move ?_);refine L.mv U U U ?_)|((with_reducible refine D.assign ?_);refine L.Df U U U ?_)|((with_reducible refine D.call ?_);refine L.c2 (hc) U U U U ?_)|((with_reducible refine D.extract ?_);refine L.ex U U U U ?_)|((with_reducible refine D.alloc ?_);refine L.al U U U ?_)|((with_reducible refine D.store ?_);refine L.st U U U U U U U U U ?_)|((with_reducible refine D.indexAddr ?_);refine L.B8 _ U U U U U U U (by first|assumption|fail) ?_)|((with_reducible refine D.not ?_);refine L.nt U U U ?_)|((with_reducible refine D.aw ?_);(fail_if_success with_reducible refine D.F7 (id:=11) ?_);(fail_if_success with_reducible refine D.F6 (id:=11) ?_);first|refine K.sq (AW.A8 ?_)|refine K.sq (K.sq ?_)|refine AW.A8 ?_|refine AW.BE U ?_|refine AW.skip ?_)|with_reducible refine K.tN ?_)
   refine K.sq (AW.A8 ?_);refine L.Ji rfl rfl rfl rfl rfl ?_;refine L.EB rfl rfl rfl rfl rfl rfl ?_;refine L.SX (te:=33) rfl rfl rfl rfl (by kernel_rfl) rfl rfl rfl rfl (by omega) (by omega) ?_;repeat'(first|((with_reducible refine D.nil ?_);refine AX.Bk ?_)|((with_reducible refine D.load ?_);refine L.EB U U U U U U ?_)|((with_reducible refine D.move ?_);refine L.mv U U U ?_)|((with_reducible refine D.fieldAddr ?_);refine L.Ji U U U U U ?_)|((with_reducible refine D.store ?_);refine L.st U U U U U U U U U ?_)|((with_reducible refine D.aw ?_);refine K.sq (AW.A8 ?_))|with_reducible refine K.tN ?_)
   refine L.Dm m rfl rfl rfl rfl rfl hm rfl ?_;refine L.sta (c:= .tm) (l:=t.args) (u:=u) m rfl rfl rfl rfl rfl rfl rfl rfl hm rfl ?_;repeat'(first|((with_reducible refine D.nil ?_);refine AX.Bk ?_)|with_reducible refine K.tN ?_)
   refine AW.BU (c:= .tm) 5 t.args.length (t.args.set m u) U (by simp) (by(repeat'(first|exact trivial|exact fun _=>rfl|exact fun h=>absurd U h|exact fun h=>absurd h (by decide)|refine And.intro ?_ ?_|intro _));done) (by(repeat'(first|exact trivial|exact fun _=>rfl|exact fun h=>absurd U h|exact fun h=>absurd h (by decide)|refine And.intro ?_ ?_|intro _));done) ?_;repeat'(first|((with_reducible refine D.nil ?_);refine AX.Bk ?_)|((with_reducible refine D.load ?_);refine L.EB U U U U U U ?_)|((with_reducible refine D.move ?_);refine L.mv U U U ?_)|((with_reducible refine D.assign ?_);refine L.Df U U U ?_)|((with_reducible refine D.store ?_);refine L.st U U U U U U U U U ?_)|((with_reducible refine D.aw ?_);first|refine K.sq (AW.A8 ?_)|refine AW.ret ?_)|with_reducible refine K.tN ?_|with_reducible refine K.tR ?_|with_reducible refine K.bR ?_|with_reducible refine K.gR ?_|with_reducible refine K.r1 (by with_unfolding_all rfl) (by with_unfolding_all rfl) ?_)
   rfl
 ·intro hP;have e:Cy room t=none:=by rw[he,TH room t.args hP];rfl
  rw[e];simp only[HP,Option.map_none,Option.getD_none,Option.isSome_none];repeat'(first|((with_reducible refine D.nil ?_);refine AX.Bk ?_)|((with_reducible refine D.load ?_);refine L.EB U U U U U U ?_)|((with_reducible refine D.assign ?_);refine L.Df U U U ?_)|((with_reducible refine D.store ?_);refine L.st U U U U U U U U U ?_)|((with_reducible refine D.aw ?_);first|refine K.sq (AW.A8 ?_)|refine AW.ret ?_)|with_reducible refine K.tN ?_|with_reducible refine K.r1 (by with_unfolding_all rfl) (by with_unfolding_all rfl) ?_)
  simp[zk,V.wk,V.Ak,zd,Tm.view]
theorem Zrt(t:Tm):∀b:Int,∀p∈t.vars b,p.2<b+t.size:=by
 induction t using Tm.ind with
 |h t ih=>
  intro b p hp;have hz:=t.size_eq;rw[t.AG,List.mem_append] at hp;rcases hp with hp|hp
  ·split at hp
   ·simp at hp;subst hp;simp only;omega
   ·cases hp
  ·obtain ⟨x,hx,hp⟩:=List.mem_flatMap.1 hp;have h1:=ih x hx _ p hp;have h2:=ze Tm.size hx;have:up t.kind b<=b+1:=by simp only[up];split<;>omega
   omega
theorem Yah{t:Tm}(he:t.err=0)(hf:∀p∈t.vars 0,p.1-p.2<=536870912):∀p∈t.vars 0,0<=p.1/\p.1<1073741824:=fun p hp=>by
 obtain⟨hs,hz⟩:=y5 he;have h1:=t.AH hs 0 p hp;have h2:=hf p hp;have h3:=Zrt t 0 p hp;omega
theorem Zx6{t:Tm}(h:Cy (4096-t.size) t=none)(k n:Nat):DH k t n=(t,(n:Int),0):=by
 cases k<;>simp only[DH,h]
theorem PB(t:Tm)(steps:Int)(ht:t.full<274877906944):PC E 161 [.agg t.view,.i steps] (.Ax [.agg (xw t steps).1.view,.i (xw t steps).2.1,.i (xw t steps).2.2]):=by
 have h1:=vi t (by omega);unfold xw;by_cases he:t.err=0;case neg=>
  rw[if_pos he];refine M.F Tryz.func161 ?_;(repeat' first|refine M.go ?_|refine M.c2 (h1) ?_|refine M.z1 4 ?_|refine M.cs ?_ ?_<;>intro h|refine M.gk ?_|fail);all_goals first
   |rfl
   |(exfalso;simp at h;exact he h)
 rw[he] at h1;rw[if_neg (by simp[he])];obtain⟨hs,hz⟩:=y5 he;have h2:=MC 536870912 (by omega) _ t (Nat.le_refl _) (by omega) hs;rw[<-NC] at h2;by_cases hst:0<=steps/\steps<=65536;case neg=>
  rw[if_pos (.inl hst)];refine M.F Tryz.func161 ?_;(repeat' first|refine M.gw ?_|refine M.c2 (h1) ?_|refine M.c2 (h2) ?_|refine M.gs ?_ ?_<;>intro h|refine M.cs ?_ ?_<;>intro h|fail);all_goals first
   |rfl
   |(exfalso;simp at h;omega)
   |(exfalso;simp at*;omega)
 cases hn:t.near with
 |false=>
  rw[hn] at h2;rw[if_pos (.inr rfl)];refine M.F Tryz.func161 ?_;(repeat' first|refine M.gw ?_|refine M.c2 (h1) ?_|refine M.c2 (h2) ?_|refine M.gs ?_ ?_<;>intro h|fail);all_goals first
   |rfl
   |(exfalso;simp at h;omega)
   |(exfalso;simp at*;omega)
 |true=>
 rw[hn] at h2;rw[if_neg (by simp[hst])];have hfr:∀p∈t.vars 0,p.1-p.2<=536870912:=fun p hp=>by have:=MT hn p hp;have:=vu t 0 p hp;omega
 generalize hR:DH steps.toNat t 0=r;refine M.F Tryz.func161 ?_;(repeat' first|refine M.gw ?_|refine M.c2 (h1) ?_|refine M.c2 (h2) ?_|refine M.gs ?_ ?_<;>intro h|fail);all_goals first
  |(exfalso;simp at h;omega)
  |skip
 refine AW.block (AW.loop (ι:={p:Tm×Nat // p.1.err=0/\(∀q∈p.1.vars 0,q.1-q.2<=536870912)/\p.2<=steps.toNat/\DH (steps.toNat-p.2) p.1 p.2=r})
  (fun p=>([(1,.i steps),(2,.ptr 0 0),(4,.ptr 1 0),(8,.i p.1.2)],⟨2,[(0,.var p.1.1.view),(1,.var [.i 0,.i 0,.i 0,.slice .nil (.t .ty []),.slice .nil (.t .tm [])])]⟩)) (fun p=>steps.toNat-p.1.2) ⟨(t,0),he,hfr,Nat.zero_le _,hR⟩ (M.W [some 0,some 1]) ?_)
 rintro⟨⟨x,n⟩,hx,hxf,hxn,hxe⟩;dsimp only at hx hxf hxn hxe ⊢;obtain⟨hxs,hxz⟩:=y5 hx;have hfx:=yl hx;have c1:=yx _ x (Nat.le_refl _) (by omega);have c2:=Ybn (4096-x.size) _ x (Nat.le_refl _) hxs hxz (Yah hx hxf);have c3:=wu _ x (Nat.le_refl _) (by omega);cases hr:Cy (4096-x.size) x with
 |none=>
  rw[hr] at c2;simp only[HP,Option.map_none,Option.getD_none,Option.isSome_none] at c2;rw[Zx6 hr] at hxe;subst hxe;(repeat' first|refine M.gw ?_|refine M.c2 (c1) ?_|refine M.c2 (c2) ?_|refine M.c2 (c3) ?_|refine M.zb ?_|fail)
  rfl
 |some y=>
  obtain⟨y,f⟩:=y;rw[hr] at c2;simp only[HP,Option.map_some,Option.getD_some,Option.isSome_some] at c2;by_cases hns:n=steps.toNat
  ·have e:r=(va,0,5):=by rw[<-hxe,hns,Nat.sub_self];simp only[DH,hr]
   subst e;(repeat' first|refine M.gw ?_|refine M.c2 (c1) ?_|refine M.c2 (c2) ?_|refine M.zb ?_|refine M.cs ?_ ?_<;>intro h|fail);all_goals first
    |rfl
    |(exfalso;simp at h;omega)
    |(exfalso;simp at*;omega)
  ·obtain ⟨k,hk⟩:∃k,steps.toNat-n=k+1:=⟨steps.toNat-n-1,by omega⟩;rw[hk] at hxe;cases f with
   |false=>
    have e:r=(va,0,4):=by rw[<-hxe];simp only[DH,hr]
    subst e;(repeat' first|refine M.gw ?_|refine M.c2 (c1) ?_|refine M.c2 (c2) ?_|refine M.zb ?_|refine M.cs ?_ ?_<;>intro h|fail);all_goals first
     |rfl
     |(exfalso;simp at h;omega)
     |(exfalso;simp at*;omega)
   |true=>
    have e:DH k y (n+1)=r:=by rw[<-hxe];simp only[DH,hr]
    obtain⟨f1,f2,f3⟩:=Uz _ x y hxs hr;(repeat' first|refine M.gw ?_|refine M.c2 (c1) ?_|refine M.c2 (c2) ?_|refine M.zb ?_|refine M.cs ?_ ?_<;>intro h|fail);all_goals first
     |(exfalso;simp at h;omega)
     |skip
    refine⟨⟨(y,n+1),PR hx hr,f3 _ (by omega) 0 (by omega) hxf,by show n+1<=_;omega,by rw[show steps.toNat-(n+1)=k by omega];exact e⟩,by show steps.toNat-(n+1)<steps.toNat-n;omega,?_⟩;exact(M.W [some 0,some 1])
theorem Yb2(a b:Tm)(ha:a.full<274877906944)(hb:b.full<274877906944)(steps:Int):PC E 97 [.agg a.view,.agg b.view,.i steps] (.i (GJ a b steps)):=by
 have h1:=vi a (by omega);have h2:=vi b (by omega);have h3:=K0 _ a b (Nat.le_refl _) (by omega);have h4:=PB a steps ha;have h5:=PB b steps hb;unfold GJ;by_cases ea:a.err=0;case neg=>
  rw[if_pos ea];refine M.F Tryz.func97 ?_;(repeat' first|refine M.gw ?_|refine M.c2 (h1) ?_|refine M.cs ?_ ?_<;>intro h|fail);all_goals first
   |rfl
   |(exfalso;simp at h;exact ea h)
 rw[ea] at h1;rw[if_neg (by simp[ea])];by_cases eb:b.err=0;case neg=>
  rw[if_pos eb];refine M.F Tryz.func97 ?_;(repeat' first|refine M.gw ?_|refine M.c2 (h1) ?_|refine M.c2 (h2) ?_|refine M.cs ?_ ?_<;>intro h|fail);all_goals first
   |rfl
   |(exfalso;simp at h;exact eb h)
 rw[eb] at h2;rw[if_neg (by simp[eb])];by_cases eq:a=b
 ·rw[if_pos eq];rw[decide_eq_true eq] at h3;refine M.F Tryz.func97 ?_;(repeat' first|refine M.gw ?_|refine M.c2 (h1) ?_|refine M.c2 (h2) ?_|refine M.c2 (h3) ?_|fail)
  rfl
 rw[if_neg eq];rw[decide_eq_false eq] at h3;have g1:(xw a steps).2.2=0->(xw a steps).1.full<274877906944:=fun h=>TV a steps h;have g2:(xw b steps).2.2=0->(xw b steps).1.full<274877906944:=fun h=>TV b steps h;generalize xw a steps=A at*;generalize xw b steps=B at*;obtain⟨x,n,e⟩:=A;obtain⟨y,m,f⟩:=B;dsimp only at h4 h5 g1 g2 ⊢;by_cases he:e=0;case neg=>
  rw[if_pos he];refine M.F Tryz.func97 ?_;(repeat' first|refine M.gw ?_|refine M.c2 (h1) ?_|refine M.c2 (h2) ?_|refine M.c2 (h3) ?_|refine M.c2 (h4) ?_|refine M.cs ?_ ?_<;>intro h|fail);all_goals first
   |rfl
   |(exfalso;simp at h;exact he h)
 subst he;rw[if_neg (by simp)];by_cases hf:f=0;case neg=>
  rw[if_pos hf];refine M.F Tryz.func97 ?_;(repeat' first|refine M.gw ?_|refine M.c2 (h1) ?_|refine M.c2 (h2) ?_|refine M.c2 (h3) ?_|refine M.c2 (h4) ?_|refine M.c2 (h5) ?_|refine M.cs ?_ ?_<;>intro h|fail);all_goals first
   |rfl
   |(exfalso;simp at h;exact hf h)
 subst hf;rw[if_neg (by simp)];have h6:=K0 _ x y (Nat.le_refl _) (by have:=g1 rfl;omega);refine M.F Tryz.func97 ?_;(repeat' first|refine M.gw ?_|refine M.c2 (h1) ?_|refine M.c2 (h2) ?_|refine M.c2 (h3) ?_|refine M.c2 (h4) ?_|refine M.c2 (h5) ?_|refine M.c2 (h6) ?_|refine M.cs ?_ ?_<;>intro h|fail)
 ·have:¬x=y:=by simpa using h
  rw[if_neg this]
  rfl
 ·have:x=y:=by simpa using h
  rw[if_pos this]
  rfl
theorem Zw6:∀(n:Nat) (f g:Fm),f.full<=n->n<274877906944->g.full<274877906944->f.shape=true->g.shape=true->PC E 48 [.agg f.view,.agg g.view] (.i (FO f g)):=by
 intro n;induction n with
 |zero=>intro f g h;have:=f.Ac;omega
 |succ n ih=>
 intro f g hsz hb hg hfs hgs;have hfull:=Fm.Af f;have hgull:=Fm.Af g;have h1:=y4 _ f.ty g.ty (Nat.le_refl _) (by omega);have he:=Ygv f g;have hl:=zh Tm.full Tm.Ac f.terms;have hl2:=zh Fm.full Fm.Ac f.args;by_cases hk:f.kind=g.kind;case neg=>
  rw[if_neg (fun h=>hk h.1)] at he;rw[he];refine M.F Tryz.func48 ?_;(repeat' first|refine M.go ?_|refine M.c2 (h1) ?_|refine M.gs ?_ ?_<;>intro h|refine M.z1 3 ?_|refine M.cs ?_ ?_<;>intro h|refine M.gk ?_|fail);all_goals first
   |rfl
   |(exfalso;simp_all;done)
 by_cases ht:f.ty=g.ty;case neg=>
  rw[if_neg (fun h=>ht h.2)] at he;rw[he];rw[decide_eq_false ht] at h1;refine M.F Tryz.func48 ?_;(repeat' first|refine M.go ?_|refine M.c2 (h1) ?_|refine M.gs ?_ ?_<;>intro h|refine M.z1 3 ?_|refine M.gk ?_|fail);all_goals first
   |rfl
   |(exfalso;simp_all;done)
 rw[if_pos ⟨hk,ht⟩] at he;rw[decide_eq_true ht] at h1;obtain⟨l1,l2⟩:=Zs7 hfs hgs hk;refine M.F Tryz.func48 ?_;(repeat' first|refine M.gw ?_|refine M.c2 (h1) ?_|refine M.gs ?_ ?_<;>intro h|fail);all_goals first
  |(exfalso;simp at h;omega)
  |(exfalso;simp at h;exact h hk)
  |skip
 refine AW.range f.terms.length (fun m=>∀j (h1:j<f.terms.length) (h2:j<g.terms.length),j<m->GJ f.terms[j] g.terms[j] 1000=0)
  (fun m=>([(2,.ptr 0 0),(3,.ptr 1 0),(24,.i f.terms.length),(25,.i m)],⟨2,[(0,.var f.view),(1,.var g.view)]⟩))
  (by omega) (fun m=>rfl) (fun m=>rfl) rfl (fun j _ _ h=>by omega) (M.W [some 0,some 1]) ?_ ?_
 ·intro m hm hP;have hm2:m<g.terms.length:=by omega
  have hs1:=ze Tm.full (List.getElem_mem hm);have hs2:=ze Tm.full (List.getElem_mem hm2);have hc:=Yb2 f.terms[m] g.terms[m] (by omega) (by omega) 1000;by_cases e0:GJ f.terms[m] g.terms[m] 1000=0
  ·rw[e0] at hc;(repeat' first|refine M.gw ?_|refine M.c2 (hc) ?_|fail);refine⟨rfl,fun j h1 h2 hj=> ?_,(M.W [some 0,some 1])⟩;by_cases hjm:j=m
   ·subst hjm;exact e0
   ·exact hP j h1 h2 (by omega)
  ·have e1:=RX f.terms g.terms m hm hm2 hP e0;rw[if_pos (by rw[e1];exact e0),e1] at he;rw[he];(repeat' first|refine M.gw ?_|refine M.c2 (hc) ?_|refine M.cs ?_ ?_<;>intro h|fail)
   ·rfl
   ·exfalso;simp at h;exact e0 h
 ·intro hP;have e1:=V7 f.terms g.terms fun j h1 h2=>hP j h1 h2 (by omega);rw[if_neg (by simp[e1])] at he;(repeat' first|refine M.gw ?_|fail);refine AW.range f.args.length (fun m=>∀j (h1:j<f.args.length) (h2:j<g.args.length),j<m->FO f.args[j] g.args[j]=0)
   (fun m=>([(2,.ptr 0 0),(3,.ptr 1 0),(45,.i f.args.length),(46,.i m)],⟨2,[(0,.var f.view),(1,.var g.view)]⟩))
   (by omega) (fun m=>rfl) (fun m=>rfl) rfl (fun j _ _ h=>by omega) (M.W [some 0,some 1]) ?_ ?_
  ·intro m hm hP2;have hm2:m<g.args.length:=by omega
   have hs1:=ze Fm.full (List.getElem_mem hm);have hs2:=ze Fm.full (List.getElem_mem hm2);have hc:=ih f.args[m] g.args[m] (by omega) (by omega) (by omega) (zl hfs (List.getElem_mem hm)) (zl hgs (List.getElem_mem hm2));by_cases e0:FO f.args[m] g.args[m]=0
   ·rw[e0] at hc;(repeat' first|refine M.gw ?_|refine M.c2 (hc) ?_|fail);refine⟨rfl,fun j h1 h2 hj=> ?_,(M.W [some 0,some 1])⟩;by_cases hjm:j=m
    ·subst hjm;exact e0
    ·exact hP2 j h1 h2 (by omega)
   ·have e3:=U1 f.args g.args m hm hm2 hP2 e0;rw[e3] at he;rw[he];(repeat' first|refine M.gw ?_|refine M.c2 (hc) ?_|refine M.cs ?_ ?_<;>intro h|fail)
    ·rfl
    ·exfalso;simp at h;exact e0 h
  ·intro hP2;have e3:=Wp f.args g.args fun j h1 h2=>hP2 j h1 h2 (by omega);rw[e3] at he;rw[he];(repeat' first|refine M.gw ?_|fail)
   rfl
end Go.Ab
