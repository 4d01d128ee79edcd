/- A part of this seat's proofs. No conditions. -/
import Derived.Test.YtmhcohcihajegaaGreatDoorHS2
namespace Go.Ab
open Go Go.Proofs
set_option maxRecDepth 100000
set_option maxHeartbeats 4000000
set_option linter.all false
theorem Yct(k:Int):Zzl k=match arK k with|some n=>(n:Int)|none=> -1:=by
 simp only[Zzl,arK];(repeat' split)<;>simp_all<;>omega
theorem Tm.head_eqR(t:Tm):t.head=(!((t.args.length:Int) !=Zzl t.kind)&& !decide (t.index<0)&&(!(t.kind !=1)|| !(t.index !=0))&&(bif we t.kind then !(t.ty.err !=0) else !(!t.ty.isNo))):=by
 simp only[Tm.head,Ty.ok_err,Yct];cases hk:arK t.kind with
 |none=>
  have:((t.args.length:Int) != -1)=true:=by simp
  simp[this]
 |some n=>
  have h1:(t.args.length==n)= !((t.args.length:Int) !=((n:Nat):Int)):=by rw[Bool.eq_iff_iff];simp;omega
  have h2:decide (0<=t.index)= !decide (t.index<0):=by rw[Bool.eq_iff_iff];simp
  simp only[h1,h2,bne];cases(t.index==0)<;>cases(t.kind==1)<;>simp
theorem Zje:∀(b:Nat) (t:Tm),t.full<=b->b<1099511627776->PC E 147 [.agg t.view] (.bool t.shape):=by
 intro b;induction b with
 |zero=>intro t h;have:=t.full_pos;omega
 |succ b ih=>
 intro t hsz hb;have hsz':=Tm.full_eq t;have hlen:=zg Tm.full Tm.full_pos t.args;have hsh:=Tm.shape_eq t;have h1:=Yld t.kind;have h3:=Zme t.ty;have h4:=Zbf t.ty (by omega);refine M.F Tryz.func147 ?_;(repeat' first|refine M.w3 @h1 @h3 @h4 ?_|refine M.gs ?_ ?_<;>intro h|refine M.bl ?_|refine M.cs ?_ ?_<;>intro h|fail);all_goals first
  |(have hd:t.head=false:=by rw[t.head_eqR];simp_all[we]
    have:t.shape=false:=by rw[hsh,hd,Bool.false_and]
    simp[this,zn,za,V.wk,V.wks];done)
  |(have hd:t.head=true:=by rw[t.head_eqR];simp_all[we]
    refine M.rp t.args.length (fun m=>∀j (hj:j<t.args.length),j<m->(t.args[j]).shape=true)
     (fun m=>([(1,.ptr 0 0),(42,.s .tm t.args),(43,.i t.args.length),(44,.i m)],⟨1,[(0,.var t.view)]⟩))
     (by intro j hj h;omega) (M.W rh1) ?_ ?_
    ·intro m hm hP;have hs2:=zc Tm.full (List.getElem_mem hm);(repeat' first|refine M.w0 ?_|refine M.c2 (ih _ ?_ ?_) ?_|refine M.cs ?_ ?_<;>intro h|exact M.le|exact M.lt|fail)
     ·have h1:(t.args[m]).shape=false:=by simpa using h
      have:t.shape=false:=by rw[hsh,ul Tm.shape hm h1,Bool.and_false]
      simp[this,zn,za,V.wk,V.wks]
     ·have hh:(t.args[m]).shape=true:=by simpa using h
      exact⟨rfl,yj (p:=fun t=>Tm.shape t=true) hm hP hh,(M.W rh1)⟩
    ·intro hP;have:t.shape=true:=by simp only[hsh,hd,Zbu Tm.shape t.args fun j hj=>hP j hj hj];simp
     refine M.w0 ?_;simp[this,zn,za,V.wk,V.wks])
theorem Zah(t:Tm)(ht:t.full<1099511627776):PC E 172 [.agg t.view] (.i t.err):=by
 have h1:=Zje _ t (Nat.le_refl _) ht;have h2:=y7 _ t (Nat.le_refl _) ht;refine M.F Tryz.func172 ?_;(repeat' first|refine M.w2 @h1 @h2 ?_|refine M.cs ?_ ?_<;>intro h|fail);all_goals simp_all[zn,V.wk,V.wks,za,Tm.err]
 all_goals(first|omega|(split<;>first|omega|simp_all))
theorem Zmy(k:Int):PC E 137 [.i k] (.bool (x9 k)):=by
 have e:x9 k=decide (k=4\/k=5\/k=6\/k=7):=by rw[Bool.eq_iff_iff,quantK_iff,decide_eq_true_iff];omega
 rw[e];refine M.F Tryz.func137 ?_;(repeat' first|refine M.w0 ?_|refine M.gs ?_ ?_<;>intro h|fail);all_goals(simp_all[zn,V.wk,V.wks,za];try(first|omega|(rw[Bool.eq_iff_iff];simp)))
theorem Zf6(f:Fm):PC E 92 [.agg f.view] (.i (upF f.kind 0)):=by
 have h1:=Zmy f.kind;cases hq:x9 f.kind with
 |true=>
  have e:upF f.kind 0=1:=by simp[upF,hq]
  rw[hq] at h1;rw[e];refine M.F Tryz.func92 ?_;refine M.w1 @h1 ?_
  rfl
 |false=>
  have e:upF f.kind 0=0:=by simp[upF,hq]
  rw[hq] at h1;rw[e];refine M.F Tryz.func92 ?_;refine M.w1 @h1 ?_
  rfl
theorem Zie(k b:Int):b+upF k 0=upF k b:=by simp only[upF];split<;>omega
theorem Zm1(t:Ty):t.ok=(t.err==0):=Ty.ok_err t
theorem Ybb{f:Fm}(hk:f.kind=1):f.shape=(decide (f.args.length=0)&&f.ty.isNo&&decide (f.terms.length=2)&&f.terms.all Tm.shape):=by
 rw[Fm.shape_eq];simp only[Fm.head,hk,if_true];by_cases h:f.args.length=0
 ·have ha:f.args=[]:=List.length_eq_zero_iff.1 h;rw[ha];cases f.ty.isNo<;>simp;rw[Bool.eq_iff_iff];simp
 ·simp[h]
theorem Zym{f:Fm}(hk:f.kind=2\/f.kind=3):f.shape=(decide (f.terms.length=0)&&f.ty.isNo&&decide (f.args.length=2)&&f.args.all Fm.shape):=by
 rw[Fm.shape_eq];have h1:¬f.kind=1:=by omega
 simp only[Fm.head,if_neg h1,if_pos hk];by_cases h:f.terms.length=0
 ·have ha:f.terms=[]:=List.length_eq_zero_iff.1 h;rw[ha];cases f.ty.isNo<;>simp;rw[Bool.eq_iff_iff];simp
 ·simp[h]
theorem Zsv{f:Fm}(hk:x9 f.kind=true):f.shape=(decide (f.terms.length=0)&&f.ty.ok&&decide (f.args.length=1)&&f.args.all Fm.shape):=by
 rw[Fm.shape_eq];rw[quantK_iff] at hk;have h1:¬f.kind=1:=by omega
 have h2:¬(f.kind=2\/f.kind=3):=by omega
 have h3:f.kind=4\/f.kind=5\/f.kind=6\/f.kind=7:=by omega
 simp only[Fm.head,if_neg h1,if_neg h2,if_pos h3];by_cases h:f.terms.length=0
 ·have ha:f.terms=[]:=List.length_eq_zero_iff.1 h;rw[ha];cases f.ty.ok<;>simp;rw[Bool.eq_iff_iff];simp
 ·simp[h]
theorem Ya5{f:Fm}(h1:f.kind≠1)(h2:¬(f.kind=2\/f.kind=3))(h3:x9 f.kind=false):f.shape=false:=by
 rw[Fm.shape_eq];have h4:¬(f.kind=4\/f.kind=5\/f.kind=6\/f.kind=7):=by
  intro hc;have:x9 f.kind=true:=by rw[quantK_iff];omega
  rw[h3] at this;cases this
 simp only[Fm.head,if_neg h1,if_neg h2,if_neg h4,Bool.false_and]
theorem Zpv:∀(n:Nat) (f:Fm),f.full<=n->n<549755813888->PC E 111 [.agg f.view] (.bool f.shape):=by
 intro n;induction n with
 |zero=>intro f h;have:=f.full_pos;omega
 |succ n ih=>
 intro f hsz hn;have hsz':=f.full_eq;have hlen:=zg Fm.full Fm.full_pos f.args;have hlen2:=zg Tm.full Tm.full_pos f.terms;have hz:=Zme f.ty;have hty:=Zbf f.ty (by omega);have hq:=Zmy f.kind;have ht:∀x∈f.terms,PC E 147 [.agg x.view] (.bool x.shape):=fun x hx=>Zje _ x (Nat.le_refl _) (by have:=zc Tm.full hx;omega);have ha:∀x∈f.args,PC E 111 [.agg x.view] (.bool x.shape):=fun x hx=>ih x (by have:=zc Fm.full hx;omega) (by omega);clear ih;by_cases k1:f.kind=1
 ·have e:=Ybb k1;obtain⟨k,ty,ts,fs⟩:=f;simp only[Fm.kind_mk,Fm.ty_mk,Fm.terms_mk,Fm.args_mk] at*;subst k1;by_cases hl:ts.length=2
  ·obtain ⟨a,b,rfl⟩:=Ydi hl;have t1:=ht a (by simp);have t2:=ht b (by simp);rw[e];refine M.F Tryz.func111 ?_;(repeat' first|refine M.w3 @hz @t1 @t2 ?_|refine M.gs ?_ ?_<;>intro h|refine M.zb ?_|fail);all_goals(simp at*;simp_all[zn,V.wk,V.wks,za];done)
  ·have e2:(Fm.mk 1 ty ts fs).shape=false:=by rw[e];simp[hl]
   rw[e2];refine M.F Tryz.func111 ?_;(repeat' first|refine M.w1 @hz ?_|refine M.gs ?_ ?_<;>intro h|refine M.zb ?_|fail);all_goals first|simp at*;simp_all[zn,V.wk,V.wks,za];done|exfalso;simp at*;omega
 by_cases k2:f.kind=2\/f.kind=3
 ·have e:=Zym k2;obtain⟨k,ty,ts,fs⟩:=f;simp only[Fm.kind_mk,Fm.ty_mk,Fm.terms_mk,Fm.args_mk] at*;by_cases hl:fs.length=2
  ·obtain ⟨a,b,rfl⟩:=Ydi hl;have t1:=ha a (by simp);have t2:=ha b (by simp);rw[e];rcases k2 with rfl|rfl;all_goals
    refine M.F Tryz.func111 ?_;(repeat' first|refine M.w3 @hz @t1 @t2 ?_|refine M.gs ?_ ?_<;>intro h|refine M.zb ?_|fail);all_goals(simp at*;simp_all[zn,V.wk,V.wks,za];done)
  ·have e2:(Fm.mk k ty ts fs).shape=false:=by rw[e];simp[hl]
   rw[e2];rcases k2 with rfl|rfl;all_goals
    refine M.F Tryz.func111 ?_;(repeat' first|refine M.w1 @hz ?_|refine M.gs ?_ ?_<;>intro h|refine M.zb ?_|fail);all_goals first|simp at*;simp_all[zn,V.wk,V.wks,za];done|exfalso;simp at*;omega
 cases k3:x9 f.kind with
 |true=>
  have e:=Zsv k3;rw[k3] at hq;have hk:f.kind=4\/f.kind=5\/f.kind=6\/f.kind=7:=by rw[quantK_iff] at k3;omega
  obtain⟨k,ty,ts,fs⟩:=f;simp only[Fm.kind_mk,Fm.ty_mk,Fm.terms_mk,Fm.args_mk] at*;rw[Zm1] at e;by_cases hl:fs.length=1
  ·obtain ⟨a,rfl⟩:=Ygj hl;have t1:=ha a (by simp);rw[e];rcases hk with rfl|rfl|rfl|rfl;all_goals
    refine M.F Tryz.func111 ?_;(repeat' first|refine M.w3 @hty @hq @t1 ?_|refine M.gs ?_ ?_<;>intro h|refine M.zb ?_|fail);all_goals(simp at*;simp_all[zn,V.wk,V.wks,za];done)
  ·have e2:(Fm.mk k ty ts fs).shape=false:=by rw[e];simp[hl]
   rw[e2];rcases hk with rfl|rfl|rfl|rfl;all_goals
    refine M.F Tryz.func111 ?_;(repeat' first|refine M.w2 @hty @hq ?_|refine M.gs ?_ ?_<;>intro h|refine M.zb ?_|fail);all_goals first|simp at*;simp_all[zn,V.wk,V.wks,za];done|exfalso;simp at*;omega
 |false=>
  have e:=Ya5 k1 k2 k3;rw[k3] at hq;rw[e];refine M.F Tryz.func111 ?_;(repeat' first|refine M.w1 @hq ?_|refine M.gs ?_ ?_<;>intro h|refine M.zb ?_|refine M.cs ?_ ?_<;>intro h|fail);all_goals first
   |rfl
   |(exfalso;simp at*;omega)
theorem Zgn:∀(n:Nat) (f:Fm),f.full<=n->n<549755813888->PC E 112 [.agg f.view] (.i f.size):=by
 intro n;induction n with
 |zero=>intro f h;have:=f.full_pos;omega
 |succ n ih=>
 intro f hsz hn;have hsz':=f.full_eq;have hse:=f.size_eq;have hlen:=zg Fm.full Fm.full_pos f.args;have hlen2:=zg Tm.full Tm.full_pos f.terms;have hle1:=xv (f:=Tm.size) (g:=Tm.full) f.terms fun x _=>x.size_le_full;have hle2:=xv (f:=Fm.size) (g:=Fm.full) f.args fun x _=>x.size_le_full;refine M.F Tryz.func112 ?_;refine M.w0 ?_;refine M.rt f.terms.length
  (fun m=>([(1,.ptr 0 0),(3,.i (1+((f.terms.take m).map Tm.size).sum:Nat)),(9,.s .tm f.terms),(10,.i f.terms.length),(11,.i m)],⟨1,[(0,.var f.view)]⟩))
  (M.W rh1) ?_ ?_
 ·intro m hm _;have hs1:=xd Tm.size f.terms m hm;have hs2:=zc Tm.full (List.getElem_mem hm);have hs3:=ya Tm.size f.terms (m+1);have hc:=y7 _ f.terms[m] (Nat.le_refl _) (by omega);refine M.w1 @hc ?_;refine⟨rfl,trivial,?_⟩;simp only[hs1];exact(M.W rh1 (hf:=(by(repeat'(first|exact trivial|refine And.intro ?_ ?_|refine⟨_,U,_,U,?_⟩|exact VLe.refl _|exact VLe.of_eq (by simp[Sto.upd,Int.natCast_add,Int.add_assoc])));done)))
 ·intro _;simp only[List.take_length];refine M.w0 ?_;refine M.rt f.args.length
   (fun m=>([(1,.ptr 0 0),(3,.i (1+(f.terms.map Tm.size).sum+((f.args.take m).map Fm.size).sum:Nat)),(21,.s .fm f.args),(22,.i f.args.length),(23,.i m)],⟨1,[(0,.var f.view)]⟩))
   (M.W rh1) ?_ ?_
  ·intro m hm _;have hs1:=xd Fm.size f.args m hm;have hs2:=zc Fm.full (List.getElem_mem hm);have hs3:=ya Fm.size f.args (m+1);have hc:=ih f.args[m] (by omega) (by omega);refine M.w1 @hc ?_;refine⟨rfl,trivial,?_⟩;simp only[hs1];exact(M.W rh1 (hf:=(by(repeat'(first|exact trivial|refine And.intro ?_ ?_|refine⟨_,U,_,U,?_⟩|exact VLe.refl _|exact VLe.of_eq (by simp[Sto.upd,Int.natCast_add,Int.add_assoc])));done)))
  ·intro _;simp only[List.take_length];refine M.w0 ?_;rw[hse]
   rfl
theorem Zc3(f:Fm)(hf:f.full<549755813888):PC E 50 [.agg f.view] (.i f.err):=by
 have h1:=Zpv _ f (Nat.le_refl _) hf;have h2:=Zgn _ f (Nat.le_refl _) hf;have hle:=f.size_le_full;cases hs:f.shape with
 |false=>
  have e:f.err=2:=by simp[Fm.err,hs]
  rw[hs] at h1;rw[e];refine M.F Tryz.func50 ?_;refine M.w1 @h1 ?_
  rfl
 |true=>
  rw[hs] at h1;by_cases hz:f.size>4096
  ·have e:f.err=4:=by simp[Fm.err,hs,hz]
   rw[e];refine M.F Tryz.func50 ?_;(repeat' first|refine M.w2 @h1 @h2 ?_|refine M.cs ?_ ?_<;>intro h|fail)
   ·rfl
   ·exfalso;simp at h;omega
  ·have e:f.err=0:=by simp[Fm.err,hs,hz]
   rw[e];refine M.F Tryz.func50 ?_;(repeat' first|refine M.w2 @h1 @h2 ?_|refine M.cs ?_ ?_<;>intro h|fail)
   ·exfalso;simp at h;omega
   ·rfl
theorem Ye4:∀(n:Nat) (f:Fm) (at_:Int),f.full<=n->n<274877906944->-274877906944<=at_->at_+n<549755813888->f.shape=true->PC E 197 [.agg f.view,.i at_] (.bool (decide (zp at_ f≠0))):=by
 intro n;induction n with
 |zero=>intro f at_ h;have:=f.full_pos;omega
 |succ n ih=>
 intro f at_ hsz hn h1 h2 hs;have hsz':=f.full_eq;have hlen:=zg Fm.full Fm.full_pos f.args;have hlen2:=zg Tm.full Tm.full_pos f.terms;have he:=Zo5 (at_:=at_) hs;have hup:=Zk8 f.kind at_;have hpl:=Zie f.kind at_;have hb:=Zf6 f;refine M.F Tryz.func197 ?_;refine M.w0 ?_;refine M.rp f.terms.length (fun m=>∀j (hj:j<f.terms.length),j<m->y9 at_ f.terms[j]=0)
  (fun m=>([(1,.i at_),(2,.ptr 0 0),(10,.s .tm f.terms),(11,.i f.terms.length),(12,.i m)],⟨1,[(0,.var f.view)]⟩))
  (fun j hj h=>by omega) (M.W rh1) ?_ ?_
 ·intro m hm hP;have hs2:=zc Tm.full (List.getElem_mem hm);have hc:=Yi3 _ f.terms[m] at_ (Nat.le_refl _) (by omega) (by omega) (by omega) (yi hs (List.getElem_mem hm));(repeat' first|refine M.w1 @hc ?_|refine M.cs ?_ ?_<;>intro h|fail)
  ·have hx:y9 at_ f.terms[m]≠0:=by simpa using h
   have:=Zqr hm hx;rw[he,decide_eq_true (show _≠0 by omega)];rfl
  ·have hx:y9 at_ f.terms[m]=0:=by simpa using h
   exact⟨rfl,yj (p:=fun t'=>y9 at_ t'=0) hm hP hx,(M.W rh1)⟩
 ·intro hP;rw[Znd (f:=y9 at_) fun j hj=>hP j hj hj,Nat.zero_add] at he;refine M.w0 ?_;refine M.rp f.args.length (fun m=>∀j (hj:j<f.args.length),j<m->zp (upF f.kind at_) f.args[j]=0)
   (fun m=>([(1,.i at_),(2,.ptr 0 0),(21,.s .fm f.args),(22,.i f.args.length),(23,.i m)],⟨1,[(0,.var f.view)]⟩))
   (fun j hj h=>by omega) (M.W rh1) ?_ ?_
  ·intro m hm hP;have hs2:=zc Fm.full (List.getElem_mem hm);have hc:=ih f.args[m] (upF f.kind at_) (by omega) (by omega) (by omega) (by omega) (zx hs (List.getElem_mem hm));rw[<-hpl] at hc;rw[<-hpl] at hP he;(repeat' first|refine M.w2 @hb @hc ?_|refine M.cs ?_ ?_<;>intro h|fail)
   ·have hx:zp (at_+upF f.kind 0) f.args[m]≠0:=by simpa using h
    rw[he,decide_eq_true (Zqr hm hx)];rfl
   ·have hx:zp (at_+upF f.kind 0) f.args[m]=0:=by simpa using h
    exact⟨rfl,by rw[<-hpl];exact yj (p:=fun t'=>zp (at_+upF f.kind 0) t'=0) hm hP hx,(M.W rh1)⟩
  ·intro hP;rw[he,Znd fun j hj=>hP j hj hj];refine M.w0 ?_
   rfl
theorem Zyi{at_ b:Int}{s t:Tm}(h:t.kind≠1):t.re (xy at_ s) b= .mk t.kind t.index t.ty (t.args.map fun x=>x.re (xy at_ s) (up t.kind b)):=wq h
theorem Yju(at_:Int)(s:Tm)(hat:0<=at_/\at_<137438953472)(hs:s.shape=true)(hsf:s.full<137438953472)(hsi:∀p∈s.vars 0,0<=p.1/\p.1<274877906944):∀(n:Nat) (t:Tm) (dp:Int),t.full<=n->n<137438953472->0<=dp->dp+n<274877906944->t.shape=true->(∀p∈t.vars 0,0<=p.1/\p.1<274877906944)->
 PC E 254 [.agg t.view,.i at_,.i dp,.agg s.view] (.agg (t.re (xy at_ s) dp).view):=by
 intro n;induction n with
 |zero=>intro t dp h;have:=t.full_pos;omega
 |succ n ih=>
 intro t dp hsz hn h1 h2 ht hix;have hsz':=Tm.full_eq t;have hlen:=zg Tm.full Tm.full_pos t.args;have hup:=Zyw t.kind dp;have hpl:=Zim t.kind dp;have hb:=Zf5 t;by_cases hv:t.kind=1
 ·have hti:=hix (t.index,0) (by rw[Zaj ht hv];simp);rw[Zkl ht hv];generalize t.index=i at hti;simp only at hti;rw[Zb0,vn];have hvi:(vT i).index=i:=rfl;have hu:=Ygp (at_+dp) (by omega) _ s 0 (Nat.le_refl _) (by omega) (by omega) (by omega) hs fun p hp=>by have:=hsi p hp;omega
  have hvc:=Zdf (i-1);clear ih hix;by_cases h3:i-dp=at_
  ·rw[if_pos h3];have h3':i=at_+dp:=by omega
   subst h3';refine M.F Tryz.func254 ?_;(repeat' first|refine M.o1 @hu ?_|refine M.z1 4 ?_|refine M.cs ?_ ?_<;>intro h|refine M.gk ?_|fail);all_goals first
    |rfl
    |(exfalso;simp at h;done)
    |(exfalso;simp at h;omega)
  ·rw[if_neg h3];by_cases h4:i-dp>at_
   ·rw[if_pos h4];refine M.F Tryz.func254 ?_;(repeat' first|refine M.o0 ?_|refine M.z3 3 5 6 ?_|refine M.cs ?_ ?_<;>intro h|refine M.gk ?_|fail);all_goals first
     |(exfalso;simp at h;omega)
     |skip
    refine M.w1 @hvc ?_
    rfl
   ·rw[if_neg h4];refine M.F Tryz.func254 ?_;(repeat' first|refine M.o0 ?_|refine M.z3 3 5 6 ?_|refine M.cs ?_ ?_<;>intro h|refine M.gk ?_|fail);all_goals first
     |(exfalso;simp at h;omega)
     |skip
    refine M.w0 ?_
    rfl
 have he:=Zyi (at_:=at_) (b:=dp) (s:=s) hv;refine M.F Tryz.func254 ?_;(repeat' first|refine M.o0 ?_|refine M.z1 2 ?_|refine M.cs ?_ ?_<;>intro h|refine M.gk ?_|fail);all_goals first
  |(exfalso;simp at h;exact hv h)
  |skip
 skip;refine M.rt t.args.length (fun m=>([(1,.i at_),(2,.i dp),(4,.ptr 0 0),(7,.ptr 1 0),(8,.ptr 2 0),(9,.ptr 3 0),(45,.s .tm t.args),(46,.i t.args.length),(47,.i m)],⟨5,[(0,.var t.view),(1,.var s.view),(2,.var [.i 0,.i 0,.i 0,.slice .nil (.t .ty []),.slice .nil (.t .tm [])]),(3,.var [.i t.kind,.i t.index,.i t.ty.kind,.s .ty t.ty.args,.slice (.own 4) (.t .tm ((t.args.take m).map fun x=>x.re (xy at_ s) (up t.kind dp)))]),(4,.row)]⟩))
  (M.W rn4) ?_ ?_
 ·intro m hm _;have hs2:=zc Tm.full (List.getElem_mem hm);have hc:=ih t.args[m] (up t.kind dp) (by omega) (by omega) (by omega) (by omega) (zd ht _ (List.getElem_mem hm)) (fun p hp=>by
   obtain⟨q,hq,hqe⟩:=Zmi (b':=up t.kind 0) p hp;have:=hix q (Zgc hv (List.getElem_mem hm) hq);rw[<-hqe];exact this)
  rw[<-hpl] at hc;simp only[<-hpl];refine M.w2 @hb @hc ?_;exact⟨rfl,trivial,(M.W [some 0,some 1,some 2,some 3,some 6] (he:=(by(repeat'(first|exact trivial|exact Or.inr ⟨_,U,rfl⟩|refine And.intro ?_ ?_|refine⟨_,U,_,U,_,U,?_⟩|exact VLe.refl _|exact VLe.of_eq (by simp[Sto.upd,ym _ _ _ hm])));done)))⟩
 ·intro _;simp only[List.take_length];refine M.w0 ?_;rw[he];simp[zn,V.wk,V.wks,za,Ty.view,Tm.view]
theorem Zly{t:Tm}(h:t.near=true):∀q∈t.vars 0,q.1<=536870912:=fun q hq=>by simpa using List.all_eq_true.1 h q hq
theorem Zv5:∀(n:Nat) (f:Fm) (at_:Int),f.full<=n->n<274877906944->-274877906944<=at_->at_+n<549755813888->f.shape=true->PC E 242 [.agg f.view,.i at_] (.i (zp at_ f)):=by
 intro n;induction n with
 |zero=>intro f at_ h;have:=f.full_pos;omega
 |succ n ih=>
 intro f at_ hsz hn h1 h2 hs;have hsz':=f.full_eq;have hlen:=zg Fm.full Fm.full_pos f.args;have hlen2:=zg Tm.full Tm.full_pos f.terms;have he:=Zo5 (at_:=at_) hs;have hup:=Zk8 f.kind at_;have hpl:=Zie f.kind at_;have hb:=Zf6 f;have hle1:∀m,((f.terms.take m).map (y9 at_)).sum<=(f.terms.map Tm.full).sum:=fun m=>by
  have a1:=ya Tm.full f.terms m;have a2:=xv (f:=y9 at_) (g:=Tm.full) (f.terms.take m) fun x _=>Nat.le_trans (Zdy x _) x.size_le_full;omega
 have hle2:∀m,((f.args.take m).map (zp (upF f.kind at_))).sum<=(f.args.map Fm.full).sum:=fun m=>by
  have a1:=ya Fm.full f.args m;have a2:=xv (f:=zp (upF f.kind at_)) (g:=Fm.full) (f.args.take m) fun x _=>Nat.le_trans (Zck _ x) x.size_le_full;omega
 refine M.F Tryz.func242 ?_;refine M.w0 ?_;refine M.rt f.terms.length
  (fun m=>([(1,.i at_),(2,.ptr 0 0),(5,.i (((f.terms.take m).map (y9 at_)).sum:Nat)),(11,.s .tm f.terms),(12,.i f.terms.length),(13,.i m)],⟨1,[(0,.var f.view)]⟩))
  (M.W rh1) ?_ ?_
 ·intro m hm _;have hs1:=xd (y9 at_) f.terms m hm;have hs2:=zc Tm.full (List.getElem_mem hm);have hs3:=hle1 m;have hs4:=Zdy f.terms[m] at_;have hs5:=f.terms[m].size_le_full;have hc:=Zuc _ f.terms[m] at_ (Nat.le_refl _) (by omega) (by omega) (by omega) (yi hs (List.getElem_mem hm));refine M.w1 @hc ?_;refine⟨rfl,trivial,?_⟩;simp only[hs1];exact(M.W rh1)
 ·intro _;have hs6:=hle1 f.terms.length;simp only[List.take_length] at hs6 ⊢;refine M.w0 ?_;refine M.rt f.args.length
   (fun m=>([(1,.i at_),(2,.ptr 0 0),(5,.i ((f.terms.map (y9 at_)).sum+((f.args.take m).map (zp (upF f.kind at_))).sum:Nat)),(24,.s .fm f.args),(25,.i f.args.length),(26,.i m)],⟨1,[(0,.var f.view)]⟩))
   (M.W rh1) ?_ ?_
  ·intro m hm _;have hs1:=xd (zp (upF f.kind at_)) f.args m hm;have hs2:=zc Fm.full (List.getElem_mem hm);have hs3:=hle2 m;have hs4:=Zck (upF f.kind at_) f.args[m];have hs5:=f.args[m].size_le_full;have hc:=ih f.args[m] (upF f.kind at_) (by omega) (by omega) (by omega) (by omega) (zx hs (List.getElem_mem hm));rw[<-hpl] at hc hs1 hs3 hs4;simp only[<-hpl];refine M.w2 @hb @hc ?_;refine⟨rfl,trivial,?_⟩;simp only[hs1];exact(M.W rh1 (hf:=(by(repeat'(first|exact trivial|refine And.intro ?_ ?_|refine⟨_,U,_,U,?_⟩|exact VLe.refl _|exact VLe.of_eq (by simp[Sto.upd,Int.natCast_add,Int.add_assoc])));done)))
  ·intro _;simp only[List.take_length];refine M.w0 ?_;rw[he]
   rfl
theorem Zv7(most:Int)(h0:0<=most):∀(n:Nat) (f:Fm),f.full<=n->n<549755813888->f.shape=true->PC E 241 [.agg f.view,.i most] (.bool (Zcs most f)):=by
 intro n;induction n with
 |zero=>intro f h;have:=f.full_pos;omega
 |succ n ih=>
 intro f hsz hn hs;have hsz':=f.full_eq;have hlen:=zg Fm.full Fm.full_pos f.args;have hlen2:=zg Tm.full Tm.full_pos f.terms;have he:=Yaf most f;refine M.F Tryz.func241 ?_;refine M.w0 ?_;refine M.rp f.terms.length (fun m=>∀j (hj:j<f.terms.length),j<m->vd most f.terms[j]=true)
  (fun m=>([(1,.i most),(2,.ptr 0 0),(10,.s .tm f.terms),(11,.i f.terms.length),(12,.i m)],⟨1,[(0,.var f.view)]⟩))
  (fun j hj h=>by omega) (M.W rh1) ?_ ?_
 ·intro m hm hP;have hs2:=zc Tm.full (List.getElem_mem hm);have hc:=Zl1 most h0 _ f.terms[m] (Nat.le_refl _) (by omega) (yi hs (List.getElem_mem hm));(repeat' first|refine M.w1 @hc ?_|refine M.cs ?_ ?_<;>intro h|fail)
  ·have hx:vd most f.terms[m]=false:=by simpa using h
   rw[he,ul (vd most) hm hx];rfl
  ·have hx:vd most f.terms[m]=true:=by simpa using h
   exact⟨rfl,yj (p:=fun t=>vd most t=true) hm hP hx,(M.W rh1)⟩
 ·intro hP;rw[Zbu (vd most) f.terms fun j hj=>hP j hj hj,Bool.true_and] at he;refine M.w0 ?_;refine M.rp f.args.length (fun m=>∀j (hj:j<f.args.length),j<m->Zcs most f.args[j]=true)
   (fun m=>([(1,.i most),(2,.ptr 0 0),(22,.s .fm f.args),(23,.i f.args.length),(24,.i m)],⟨1,[(0,.var f.view)]⟩))
   (fun j hj h=>by omega) (M.W rh1) ?_ ?_
  ·intro m hm hP;have hs2:=zc Fm.full (List.getElem_mem hm);have hc:=ih f.args[m] (by omega) (by omega) (zx hs (List.getElem_mem hm));(repeat' first|refine M.w1 @hc ?_|refine M.cs ?_ ?_<;>intro h|fail)
   ·have hx:Zcs most f.args[m]=false:=by simpa using h
    rw[he,ul (Zcs most) hm hx];rfl
   ·have hx:Zcs most f.args[m]=true:=by simpa using h
    exact⟨rfl,yj (p:=fun t=>Zcs most t=true) hm hP hx,(M.W rh1)⟩
  ·intro hP;rw[he,Zbu (Zcs most) f.args fun j hj=>hP j hj hj];refine M.w0 ?_
   rfl
end Go.Ab
