/- A part of the proofs of this seat. No conditions. -/
import Derived.Test.YtjgokiomgcfclaaGreatDoorS1
namespace Go.Ab
open Go Go.Proofs
set_option maxRecDepth 100000
set_option linter.all false
theorem Ylg(k:Int):PC E 213 [.i k] (.i (MM k)):=by
 refine M.F Tryz.func213 ?_;(repeat' first|refine M.gw ?_|refine M.bl ?_|refine M.cs ?_ ?_<;>intro h|fail);all_goals
  simp only[beq_iff_eq,beq_eq_false_iff_ne,ne_eq] at*;simp[zi,V.wk,V.An,zd,MM, *]
theorem y6:∀(b:Nat) (t:Tm),t.full<=b->b<1099511627776->PC E 118 [.agg t.view] (.i t.size):=by
 intro b;induction b with
 |zero=>intro t h;have:=t.Aa;omega
 |succ b ih=>
 intro t hsz hb;have hsz':=Tm.Ag t;have hszz:=Tm.size_eq t;have hle:=Tm.Ak t;have hlen:=zg Tm.full Tm.Aa t.args;refine M.F Tryz.func118 ?_;(repeat' first|refine M.gw ?_|fail);refine AW.range t.args.length (fun m=>True)
  (fun m=>([(3,.i (1+((t.args.take m).map Tm.size).sum)),(7,.s .tm t.args),(8,.i t.args.length),(9,.i m)],⟨1,[(0,.var t.view)]⟩))
  (by omega) (fun m=>rfl) (fun m=>rfl) rfl trivial (M.W [some 0]) ?_ ?_
 ·intro m hm hP;have hs1:=yv Tm.size t.args m hm;have hs2:=ze Tm.full (List.getElem_mem hm);have hs3:=zw Tm.size t.args (m+1);have e:(1+((((t.args.take (m+1)).map Tm.size).sum:Nat):Int))=1+(((t.args.take m).map Tm.size).sum:Nat)+t.args[m].size:=by rw[hs1];omega
  (repeat' first|refine M.gw ?_|refine M.c2 (ih _ ?_ ?_) ?_|exact M.le|exact M.lt|fail);refine⟨rfl,trivial,?_⟩;simp only[e];exact(M.W [some 0])
 ·intro hP;(repeat' first|refine M.gw ?_|fail);simp[zi,zd,hszz,V.wk,V.An]
end Go.Ab
namespace Go.Ab
open Go Go.Proofs
set_option maxRecDepth 100000
set_option maxHeartbeats 4000000
set_option linter.all false
theorem Yd3(k:Int):MM k=match CZ k with|some n=>(n:Int)|none=> -1:=by
 simp only[MM,CZ];(repeat' split)<;>simp_all<;>omega
theorem Tm.E1(t:Tm):t.head=(!((t.args.length:Int) !=MM t.kind)&& !decide (t.index<0)&&(!(t.kind !=1)|| !(t.index !=0))&&(bif wo t.kind then !(t.ty.err !=0) else !(!t.ty.BJ))):=by
 simp only[Tm.head,Ty.EK,Yd3];cases hk:CZ t.kind with
 |none=>
  have:((t.args.length:Int) != -1)=true:=by simp
  simp[this]
 |some n=>
  have h1:(t.args.length==n)= !((t.args.length:Int) !=((n:Nat):Int)):=by rw[Bool.eq_iff_iff];simp;omega
  have h2:decide (0<=t.index)= !decide (t.index<0):=by rw[Bool.eq_iff_iff];simp
  simp only[h1,h2,bne];cases(t.index==0)<;>cases(t.kind==1)<;>simp
theorem TB:∀(b:Nat) (t:Tm),t.full<=b->b<1099511627776->PC E 144 [.agg t.view] (.bool t.shape):=by
 intro b;induction b with
 |zero=>intro t h;have:=t.Aa;omega
 |succ b ih=>
 intro t hsz hb;have hsz':=Tm.Ag t;have hlen:=zg Tm.full Tm.Aa t.args;have hsh:=Tm.Ai t;have h1:=Ylg t.kind;have h3:=SO t.ty;have h4:=LQ t.ty (by omega);refine M.F Tryz.func144 ?_;(repeat' first|refine M.gw ?_|refine M.c2 (h1) ?_|refine M.c2 (h3) ?_|refine M.c2 (h4) ?_|refine M.gs ?_ ?_<;>intro h|refine M.bl ?_|refine M.cs ?_ ?_<;>intro h|fail);all_goals first
  |(have hd:t.head=false:=by rw[t.E1];simp_all[wo]
    have:t.shape=false:=by rw[hsh,hd,Bool.false_and]
    simp[this,zi,zd,V.wk,V.An];done)
  |(have hd:t.head=true:=by rw[t.E1];simp_all[wo]
    refine AW.range t.args.length (fun m=>∀j (hj:j<t.args.length),j<m->(t.args[j]).shape=true)
     (fun m=>([(1,.ptr 0 0),(42,.s .tm t.args),(43,.i t.args.length),(44,.i m)],⟨1,[(0,.var t.view)]⟩))
     (by omega) (fun m=>rfl) (fun m=>rfl) rfl (by intro j hj h;omega) (M.W [some 0]) ?_ ?_
    ·intro m hm hP;have hs2:=ze Tm.full (List.getElem_mem hm);(repeat' first|refine M.gw ?_|refine M.c2 (ih _ ?_ ?_) ?_|refine M.cs ?_ ?_<;>intro h|exact M.le|exact M.lt|fail)
     ·have h1:(t.args[m]).shape=false:=by simpa using h
      have:t.shape=false:=by rw[hsh,vx Tm.shape hm h1,Bool.and_false]
      simp[this,zi,zd,V.wk,V.An]
     ·have hh:(t.args[m]).shape=true:=by simpa using h
      exact⟨rfl,yb (p:=fun t=>Tm.shape t=true) hm hP hh,(M.W [some 0])⟩
    ·intro hP;have:t.shape=true:=by simp only[hsh,hd,FL Tm.shape t.args fun j hj=>hP j hj hj];simp
     (repeat' first|refine M.gw ?_|fail);simp[this,zi,zd,V.wk,V.An])
theorem v8(t:Tm)(ht:t.full<1099511627776):PC E 113 [.agg t.view] (.i t.err):=by
 have h1:=TB _ t (Nat.le_refl _) ht;have h2:=y6 _ t (Nat.le_refl _) ht;refine M.F Tryz.func113 ?_;(repeat' first|refine M.gw ?_|refine M.c2 (h1) ?_|refine M.c2 (h2) ?_|refine M.cs ?_ ?_<;>intro h|fail);all_goals simp_all[zi,V.wk,V.An,zd,Tm.err]
 all_goals(first|omega|(split<;>first|omega|simp_all))
end Go.Ab
namespace Go.Ab
open Go Go.Proofs
set_option maxRecDepth 100000
set_option maxHeartbeats 40000000
set_option linter.all false
theorem Ykc:∀(n:Nat) (t:Tm) (g:List Ty),t.full<=n->n<274877906944->t.shape=true->(∀x∈g,x.err=0)->g.length+n<274877906944->PC E 271 [.s .ty g,.agg t.view] (.At [.agg (t.inf g).1.view,.i (t.inf g).2]):=by
 intro n;induction n with
 |zero=>intro t g h;have:=t.Aa;omega
 |succ n ih=>
 intro t g hsz hb hsh hg hgn;have hsz':=Tm.Ag t;have hlen:=zg Tm.full Tm.Aa t.args;have hix:=x9 hsh;have hak:=Hg hsh;have hargs:=zh hsh;have hinf:=Tm.AO g t;have e64:∀{x:Ty},x.err=0->x.size<=64:=fun h=>((Ty.Ae _).1 h).2;by_cases k1:t.kind=1
 ·rw[if_pos k1] at hinf;have hk:(t.kind==1)=true:=by simp[k1]
  refine M.F Tryz.func271 ?_;by_cases hlt:t.index>=g.length
  ·rw[if_pos hlt] at hinf;(repeat' first|refine M.gw ?_|refine M.cs ?_ ?_<;>intro h|fail);all_goals first|exfalso;simp_all;done|simp[zi,V.wk,V.An,zd,Ty.view,hinf,Ba];done|exfalso;simp at*;omega
  ·rw[if_neg hlt] at hinf;have h0:g.length-1-t.index.toNat<g.length:=by omega
   have hcp:=w7 _ (g[g.length-1-t.index.toNat]) (Nat.le_refl _) (by have:=e64 (hg _ (List.getElem_mem h0));omega);rw[KX h0] at hinf;(repeat' first|refine M.gw ?_|refine M.cs ?_ ?_<;>intro h|fail);all_goals first
    |(exfalso;simp_all;done)
    |(exfalso;simp at*;omega)
    |skip
   refine L.Cp (g.length-1-t.index.toNat) rfl rfl rfl rfl (by omega) rfl rfl h0 ?_;(repeat' first|refine M.gw ?_|refine M.c2 (hcp) ?_|fail);simp[zi,V.wk,V.An,zd,Ty.view,hinf]
 rw[if_neg k1] at hinf;by_cases k2:t.kind=2
 ·rw[if_pos k2] at hinf;have hl1:t.args.length=1:=by rw[k2] at hak;exact(Option.some.inj hak).symm
  have h0:0<t.args.length:=by omega
  have hte:t.ty.err=0:=Lw hsh (by rw[k2];rfl);have hs2:=ze Tm.full (List.getElem_mem h0);have hg':∀x∈g++[t.ty],x.err=0:=fun x hx=>by
   rcases List.mem_append.1 hx with hx|hx
   ·exact hg x hx
   ·simp at hx;subst hx;exact hte
  have hc:=ih t.args[0] (g++[t.ty]) (by omega) (by omega) (hargs _ (List.getElem_mem h0)) hg' (by simp;omega);have hgood:=Tm.BP t.args[0] (g++[t.ty]) (hargs _ (List.getElem_mem h0)) hg';have hinfs:Tm.AD (g++[t.ty]) t.args=if(t.args[0].inf (g++[t.ty])).2≠0 then([],(t.args[0].inf (g++[t.ty])).2) else([(t.args[0].inf (g++[t.ty])).1],0):=
   (congrArg (Tm.AD (g++[t.ty])) (Ml hl1)).trans (by simp only[Tm.AD,ne_eq,not_true_eq_false,if_false])
  have hf:(t.args[0].inf (g++[t.ty])).2=0->_:=fun h=>JO t.ty (t.args[0].inf (g++[t.ty])).1 (by have:=e64 hte;omega) (by have:=e64 (hgood h);omega);have ho:(t.args[0].inf (g++[t.ty])).2=0->_:=fun h=>Wx (yt t.ty (t.args[0].inf (g++[t.ty])).1) (by have:=e64 (hgood h);have:=e64 hte;simp only[yt,Ty.size,Ty.sizes];omega);refine M.F Tryz.func271 ?_;(repeat' first|refine M.gw ?_|refine M.c2 (hc) ?_|refine M.c2 (hf (by simp_all)) ?_|refine M.c2 (ho (by simp_all)) ?_|refine M.cs ?_ ?_<;>intro h|fail);all_goals first
   |(exfalso;simp_all;done)
   |skip
  ·have h':(t.args[0].inf (g++[t.ty])).2≠0:=by simpa using h
   rw[if_pos h'] at hinfs;rw[hinfs,if_pos h'] at hinf;simp[zi,V.wk,V.An,zd,Ty.view,hinf,Ba]
  ·have h':¬(t.args[0].inf (g++[t.ty])).2≠0:=by simpa using h
   rw[if_neg h'] at hinfs;rw[hinfs] at hinf;have hinf':t.inf g=Bk (yt t.ty (t.args[0].inf (g++[t.ty])).1):=by rw[hinf];rfl
   rw[hinf'];by_cases he:(yt t.ty (t.args[0].inf (g++[t.ty])).1).err=0
   ·simp[zi,V.wk,V.An,zd,Ty.view,Bk,he]
   ·simp[zi,V.wk,V.An,zd,Ty.view,Bk,he]
 rw[if_neg k2] at hinf;refine M.F Tryz.func271 ?_;(repeat' first|refine M.gw ?_|refine M.cs ?_ ?_<;>intro h|fail);all_goals first
  |(exfalso;simp_all;done)
  |skip
 refine AW.range t.args.length (fun m=>∀j (hj:j<t.args.length),j<m->(t.args[j].inf g).2=0)
  (fun m=>([(0,.s .ty g),(3,.ptr 0 0),(4,.ptr 1 0),(8,.slice (.own 2) (.t .ty ((t.args.take m).map fun x=>(x.inf g).1))),(67,.s .tm t.args),(68,.i t.args.length),(69,.i m)],⟨3,[(0,.var t.view),(1,.var [.i 0,.slice .nil (.t .ty [])]),(2,.row)]⟩))
  (by omega) (fun m=>rfl) (fun m=>rfl) rfl (by intro j hj h;omega) (M.W [some 0,some 1,none]) ?_ ?_
 ·intro m hm hP;have hs2:=ze Tm.full (List.getElem_mem hm);have hc:=ih t.args[m] g (by omega) (by omega) (hargs _ (List.getElem_mem hm)) hg (by omega);(repeat' first|refine M.gw ?_|refine M.c2 (hc) ?_|refine M.cs ?_ ?_<;>intro h|fail)
  ·have h':(t.args[m].inf g).2≠0:=by simpa using h
   have h2:=Tm.Hw g t.args m hm hP h';rw[h2,if_pos h'] at hinf;simp[zi,V.wk,V.An,zd,Ty.view,hinf,Ba]
  ·have h':(t.args[m].inf g).2=0:=by simpa using h
   refine⟨rfl,yb (p:=fun x:Tm=>(x.inf g).2=0) hm hP h',?_⟩;exact(M.W [some 0,some 1,some 5] (hf:=(by(repeat'(first|exact trivial|refine And.intro ?_ ?_|refine⟨_,U,_,U,?_⟩|exact Aj.refl _|exact Aj.of_eq (by simp[Ao.Ar,ya _ _ _ hm])));done)))
 ·intro hP;have hall:∀x∈t.args,(x.inf g).2=0:=fun x hx=>by
   obtain⟨j,hj,rfl⟩:=List.mem_iff_getElem.1 hx;exact hP j hj hj
  have h5:=Tm.EH g t.args hall;have hgood:∀x∈t.args.map (fun x=>(x.inf g).1),x.err=0:=fun x hx=>by
   obtain⟨y,hy,rfl⟩:=List.mem_map.1 hx;exact Tm.BP y g (hargs y hy) hg (hall y hy)
  rw[h5] at hinf;simp only[ne_eq,not_true_eq_false,if_false] at hinf;have hLl:(t.args.map fun x=>(x.inf g).1).length=t.args.length:=by simp
  rw[show t.args.take t.args.length=t.args from List.take_length];generalize hL:t.args.map (fun x=>(x.inf g).1)=L at*;have hty:=Lw hsh;have hcpT:wo t.kind=true->_:=fun h=>w7 _ t.ty (Nat.le_refl _) (by have:=e64 (hty h);omega);clear hP hall h5 hargs hlen ih hsz' hix hsz;rw[<-hLl] at hak;rcases O7 hak with⟨hn,hk⟩|⟨hn,hk⟩|⟨hn,hk⟩|⟨hn,hk⟩
  ·have hLL:=List.eq_nil_of_length_eq_zero hn;subst hLL;obtain⟨k,i,th,xs⟩:=t;simp only[Tm.Ah,Tm.AL] at hk hinf;rcases hk with rfl|rfl|rfl|rfl
   ·exact absurd rfl k1
   all_goals
    (repeat' first|refine M.gw ?_|refine M.c2 (uq) ?_|refine M.c2 (Fp) ?_|refine M.c2 (T9) ?_|refine M.bl ?_|fail);simp[zi,V.wk,V.An,zd,Ty.view,hinf,yr,Af,Al,G9]
  ·obtain ⟨x,hLL⟩:=J9 hn;subst hLL;have hx:=hgood x (by simp);have hxn:=xo _ x Af (Nat.le_refl _) (by have:=e64 hx;omega);have hx2:x.kind=3->∃y z,x.args=[y,z]:=fun h=>Ty.BW ((Ty.Ae _).1 hx).1 (.inl h);obtain⟨k,i,th,xs⟩:=t;simp only[Tm.Ah,Tm.AL] at hk hinf;rcases hk with rfl|rfl|rfl|rfl
   ·exact absurd rfl k2
   ·repeat' (first|refine M.gw ?_|refine M.c2 (uq) ?_|refine M.c2 (Fp) ?_|refine M.c2 (hxn) ?_|refine M.bl ?_|refine M.cs ?_ ?_<;>intro h|fail)
    ·have h':¬x=Af:=by simpa using h
     simp[zi,V.wk,V.An,zd,Ty.view,hinf,yr,h',Ba]
    ·have h':x=Af:=by simpa using h
     simp[zi,V.wk,V.An,zd,Ty.view,hinf,yr,h',Af]
   all_goals
    by_cases hx3:x.kind=3
    ·obtain ⟨y,z,hyz⟩:=hx2 hx3;obtain⟨xk,xa⟩:=x;simp only[Ty.Ah,Ty.Ac] at hx3 hyz;subst hx3;subst hyz;(repeat' first|refine M.gw ?_|refine M.c2 (uq) ?_|refine M.c2 (Fp) ?_|refine M.bl ?_|fail);simp[zi,V.wk,V.An,zd,Ty.view,EC.view,hinf,yr]
    ·repeat' (first|refine M.gw ?_|refine M.c2 (uq) ?_|refine M.c2 (Fp) ?_|refine M.bl ?_|refine M.cs ?_ ?_<;>intro h|fail)
     ·simp[zi,V.wk,V.An,zd,Ty.view,hinf,yr,hx3,Ba]
     all_goals exact absurd (by simpa using h) hx3
  ·obtain ⟨x,y,hLL⟩:=JY hn;subst hLL;have hx:=hgood x (by simp);have hy:=hgood y (by simp);have ex:=e64 hx;have ey:=e64 hy;have hxn:=xo _ x Af (Nat.le_refl _) (by omega);have GP:=xo _ y Al (Nat.le_refl _) (by omega);have hx2:x.kind=4->∃y z,x.args=[y,z]:=fun h=>Ty.BW ((Ty.Ae _).1 hx).1 (.inr h);obtain⟨k,i,th,xs⟩:=t;simp only[Tm.Ah,Tm.AL] at hk hinf;rcases hk with rfl|rfl|rfl
   ·by_cases hx3:x.kind=4
    ·obtain ⟨a,b,hab⟩:=hx2 hx3;obtain⟨xk,xa⟩:=x;simp only[Ty.Ah,Ty.Ac] at hx3 hab;subst hx3;subst hab;simp only[Ty.size,Ty.sizes] at ex;have hay:=xo _ a y (Nat.le_refl _) (by omega);(repeat' first|refine M.gw ?_|refine M.c2 (uq) ?_|refine M.c2 (Fp) ?_|refine M.c2 (hay) ?_|refine M.bl ?_|refine M.cs ?_ ?_<;>intro h|fail)
     ·have h':¬a=y:=by simpa using h
      simp[zi,V.wk,V.An,zd,Ty.view,hinf,yr,h',Ba]
     ·have h':a=y:=by simpa using h
      simp[zi,V.wk,V.An,zd,Ty.view,EC.view,hinf,yr,h']
    ·repeat' (first|refine M.gw ?_|refine M.c2 (uq) ?_|refine M.c2 (Fp) ?_|refine M.gs ?_ ?_<;>intro h|refine M.bl ?_|fail)
     ·simp[zi,V.wk,V.An,zd,Ty.view,hinf,yr,hx3,Ba]
     ·exact absurd (by simpa using h) hx3
   ·clear hgood hLl hL hak hn hsh hcpT hty e64 hg hx2;(repeat' first|refine M.gw ?_|refine M.c2 (uq) ?_|refine M.c2 (Fp) ?_|refine M.c2 (hxn) ?_|refine M.c2 (GP) ?_|refine M.gs ?_ ?_<;>intro h|refine M.bl ?_|refine M.cs ?_ ?_<;>intro h|fail);all_goals
     clear hxn GP;by_cases p1:x=Af<;>by_cases p2:y=Al<;>first|exfalso;simp[p1,p2] at*;done|simp[zi,V.wk,V.An,zd,Ty.view,EC.view,hinf,yr,p1,p2,Ba];done|(simp[zi,V.wk,V.An,zd,Ty.view,EC.view,hinf,yr,p1,p2];rfl)|simp[zi,V.wk,V.An,zd,Ty.view,EC.view,hinf,yr,p1,p2,Al];done
   ·have htw:=Xy x y (by omega) (by omega);have hok:=Wx (B8 x y) (by simp only[B8,Ty.size,Ty.sizes];omega);(repeat' first|refine M.gw ?_|refine M.c2 (uq) ?_|refine M.c2 (Fp) ?_|refine M.c2 (htw) ?_|refine M.c2 (hok) ?_|refine M.bl ?_|fail);by_cases he:(B8 x y).err=0
    ·simp[zi,V.wk,V.An,zd,Ty.view,hinf,yr,Bk,he]
    ·simp[zi,V.wk,V.An,zd,Ty.view,hinf,yr,Bk,he]
  ·obtain ⟨x,y,z,hLL⟩:=Pb hn;subst hLL;have hx:=e64 (hgood x (by simp));have hy:=e64 (hgood y (by simp));have hz:=e64 (hgood z (by simp));have ht:t.ty.size<=64:=e64 (hty (by rcases hk with hk|hk<;>rw[hk]<;>rfl));have hcp:=w7 _ t.ty (Nat.le_refl _) (by omega);have hs1:=xo _ x t.ty (Nat.le_refl _) (by omega);have hf1:=JO t.ty t.ty (by omega) (by omega);obtain⟨k,i,th,xs⟩:=t;simp only[Tm.Ah,Tm.AL] at hk hinf ht hs1 hf1 hcp;rcases hk with rfl|rfl
   ·have hf2:=JO Af (yt th th) (by decide) (by simp only[yt,Ty.size,Ty.sizes];omega);have hs2:=xo _ y (yt Af (yt th th)) (Nat.le_refl _) (by omega);have hs3:=xo _ z Af (Nat.le_refl _) (by omega);clear hgood hLl hL hak hn hsh hcpT hty e64 hg;(repeat' first|refine M.gw ?_|refine M.c2 (uq) ?_|refine M.c2 (Fp) ?_|refine M.c2 (hs1) ?_|refine M.c2 (hf1) ?_|refine M.c2 (hf2) ?_|refine M.c2 (hs2) ?_|refine M.c2 (hs3) ?_|refine M.c2 (hcp) ?_|refine M.gs ?_ ?_<;>intro h|refine M.bl ?_|refine M.cs ?_ ?_<;>intro h|fail);all_goals
     clear hs1 hf1 hcp hf2 hs2 hs3;by_cases p1:x=th<;>by_cases p2:y=yt Af (yt th th)<;>by_cases p3:z=Af<;>first|exfalso;simp[p1,p2,p3] at*;done|simp[zi,V.wk,V.An,zd,Ty.view,EC.view,hinf,yr,p1,p2,p3,Ba];done
   ·have hf2:=JO Al (yt th th) (by decide) (by simp only[yt,Ty.size,Ty.sizes];omega);have hf3:=JO Af (yt Al (yt th th)) (by decide) (by simp only[yt,Al,Ty.size,Ty.sizes];omega);have hs2:=xo _ y (yt Af (yt Al (yt th th))) (Nat.le_refl _) (by omega);have hs3:=xo _ z Al (Nat.le_refl _) (by omega);clear hgood hLl hL hak hn hsh hcpT hty e64 hg;(repeat' first|refine M.gw ?_|refine M.c2 (uq) ?_|refine M.c2 (Fp) ?_|refine M.c2 (hs1) ?_|refine M.c2 (hf1) ?_|refine M.c2 (hf2) ?_|refine M.c2 (hf3) ?_|refine M.c2 (hs2) ?_|refine M.c2 (hs3) ?_|refine M.c2 (hcp) ?_|refine M.gs ?_ ?_<;>intro h|refine M.bl ?_|refine M.cs ?_ ?_<;>intro h|fail);all_goals
     clear hs1 hf1 hcp hf2 hs2 hs3;by_cases p1:x=th<;>by_cases p2:y=yt Af (yt Al (yt th th))<;>by_cases p3:z=Al<;>first|exfalso;simp[p1,p2,p3] at*;done|simp[zi,V.wk,V.An,zd,Ty.view,EC.view,hinf,yr,p1,p2,p3,Ba];done
end Go.Ab
namespace Go.Ab
open Go Go.Proofs
set_option maxRecDepth 100000
set_option maxHeartbeats 4000000
set_option linter.all false
def HT(n:Nat):Prop:=∀(d:Dk) (g:List Ty) (t:Ty) (k:Int),k=(n:Int)-2->d.ok->Ap g->t.small->1<=n->(n=1->t.size=1)->g.length+3*n<=10000->
 AC E 57 [.ptr 0 0,.s .ty g,.agg t.view,.i k] ⟨1,[(0,.var d.cells)]⟩ (.agg (Dk.tm n d g t).1.view) ⟨1,[(0,.var (Dk.tm n d g t).2.cells)]⟩
abbrev F14:AF->AF:=id
theorem UK(g:List Ty)(t:Tm)(ht:t.full<137438953472)(hg:∀x∈g,x.err=0)(hl:g.length<100000):PC E 251 [.s .ty g,.agg t.view] (.At [.agg (Ec g t).1.view,.i (Ec g t).2]):=by
 have h1:=v8 t (by omega);have h2:t.err=0->_:=fun h=>Ykc _ t g (Nat.le_refl _) (by omega) ((Tm.Ae t).1 h).1 hg (by omega);refine M.F Tryz.func251 ?_;(repeat' first|refine M.gw ?_|refine M.c2 (h1) ?_|refine M.c2 (h2 (by simpa using h)) ?_|refine M.cs ?_ ?_<;>intro h|fail)
 ·have h':t.err≠0:=by simpa using h
  simp[zi,V.wk,V.An,zd,Ty.view,Ec,h',Ba]
 ·have h':t.err=0:=by simpa using h
  simp[zi,V.wk,V.An,zd,Ty.view,Ec,h']
theorem Ua(g:List Ty)(t:Tm)(ht:t.full<137438953472)(hg:(g.map Ty.size).sum<1099511627776):PC E 218 [.s .ty g,.agg t.view] (.At [.agg (xj g t).1.view,.i (xj g t).2]):=by
 have h1:=SE g hg;have h2:xg g=0->_:=fun h=>UK g t ht (ua h).2 (by have:=(ua h).1;omega);refine M.F Tryz.func218 ?_;(repeat' first|refine M.gw ?_|refine M.c2 (h1) ?_|refine M.c2 (h2 (by simpa using h)) ?_|refine M.cs ?_ ?_<;>intro h|fail)
 ·have h':xg g≠0:=by simpa using h
  simp[zi,V.wk,V.An,zd,Ty.view,xj,h',Ba]
 ·have h':xg g=0:=by simpa using h
  simp[zi,V.wk,V.An,zd,Ty.view,xj,h']
theorem Ys(x:Ty)(h:x.size<1099511627776):PC E 72 [.agg x.view,.agg x.view] (.bool true):=by
 have:=xo _ x x (Nat.le_refl _) h;simpa using this
theorem Yfg(x:Tm)(h:x.full<1099511627776):PC E 50 [.agg x.view,.agg x.view] (.bool true):=by
 have:=Mj _ x x (Nat.le_refl _) h;simpa using this
end Go.Ab
namespace Go.Ab
open Go Go.Proofs
set_option maxRecDepth 100000
set_option maxHeartbeats 2000000
set_option linter.all false
theorem K5{x:Ty}(h:x.err=0)(hk:x.kind=1):x=Af:=(Ty.eq_iff _ _).2 ⟨hk,M5 ((Ty.Ae x).1 h).1 (by omega)⟩
theorem OP{x:Ty}(h:x.err=0)(hk:x.kind=2):x=Al:=(Ty.eq_iff _ _).2 ⟨hk,M5 ((Ty.Ae x).1 h).1 (by omega)⟩
end Go.Ab
namespace Go.Ab
open Go Go.Proofs
set_option maxRecDepth 100000
set_option maxHeartbeats 4000000
set_option linter.all false
abbrev CT(t:Tm)(g:List Ty):Prop:=PC E 273 [.s .sz (g.map A3),.agg t.view] (.At [.agg (A3 (t.inf g).1).view,.i (t.inf g).2])
theorem Jk:∀(b:Nat) (t:Tm),t.full<=b->b<1099511627776->PC E 63 [.agg t.view] (.agg t.view):=by
 intro b;induction b with
 |zero=>intro t h;have:=t.Aa;omega
 |succ b ih=>
 intro t hsz hb;have hsz':=Tm.Ag t;have hlen:=zg Tm.full Tm.Aa t.args;have hty:=u7 _ t.ty (Nat.le_refl _) (by omega);refine M.F Tryz.func63 ?_;(repeat' first|refine M.gw ?_|refine M.c2 (hty) ?_|fail);refine AW.range t.args.length (fun m=>True)
  (fun m=>([(1,.ptr 0 0),(2,.ptr 1 0),(3,.ptr 2 0),(15,.s .tm t.args),(16,.i t.args.length),(17,.i m)],⟨4,[(0,.var t.view),(1,.var [.i 0,.i 0,.i 0,.slice .nil (.t .ty []),.slice .nil (.t .tm [])]),(2,.var [.i t.kind,.i t.index,.i t.ty.kind,.s .ty t.ty.args,.slice (.own 3) (.t .tm (t.args.take m))]),(3,.row)]⟩))
  (by omega) (fun m=>rfl) (fun m=>rfl) rfl trivial (M.W [some 0,some 1,some 2,none]) ?_ ?_
 ·intro m hm hP;have hs2:=ze Tm.full (List.getElem_mem hm);(repeat' first|refine M.gw ?_|refine M.c2 (ih _ ?_ ?_) ?_|exact M.le|exact M.lt|fail);exact⟨rfl,trivial,(M.W [some 0,some 1,some 2,some 5] (he:=(by(repeat'(first|exact trivial|exact Or.inr ⟨_,U,rfl⟩|refine And.intro ?_ ?_|refine⟨_,U,_,U,_,U,?_⟩|exact Aj.refl _|exact Aj.of_eq (by simp[Ao.Ar,List.take_append_getElem])));done)))⟩
 ·intro hP;(repeat' first|refine M.gw ?_|fail);simp[zi,V.wk,V.An,zd,Ty.view,Tm.view]
def Xj(b:Tm)(l:List Ty):Tm:=l.foldr BV b
def dflS(t:Ty):Tm:=if t.err=0 then Dr t else AU
theorem vd(k:Int):PC E 169 [.i k] (.bool (xq k)):=by
 refine M.F Tryz.func169 ?_;(repeat' first|refine M.gw ?_|refine M.gs ?_ ?_<;>intro h|fail);all_goals(simp_all[zi,V.wk,V.An,zd,xq];try omega)
theorem Ydn(f:Fm)(ht:f.ty.size<1099511627776):PC E 257 [.agg f.view] (.bool f.head):=by
 have h1:=QI f.ty;have h2:=Ng f.ty ht;have hok:=Ty.EK f.ty;obtain⟨k,h,ts,fs⟩:=f;simp only[Fm.AL] at*;have hk:k=1\/k=2\/k=3\/k=4\/k=5\/k=6\/k=7\/(k≠1/\k≠2/\k≠3/\k≠4/\k≠5/\k≠6/\k≠7):=by omega
 rcases hk with rfl|rfl|rfl|rfl|rfl|rfl|rfl|hk
 ·cases hn:h.BJ with
  |false=>
   rw[hn] at h1;refine M.F Tryz.func257 ?_;(repeat' first|refine M.gw ?_|refine M.c2 (h1) ?_|refine M.bl ?_|fail);simp[zi,V.wk,V.An,zd,Fm.head,hn]
  |true=>
   rw[hn] at h1;refine M.F Tryz.func257 ?_;(repeat' first|refine M.gw ?_|refine M.c2 (h1) ?_|refine M.gs ?_ ?_<;>intro h|refine M.bl ?_|fail)
   ·have h':ts.length=2:=by simp at h;omega
    have e:((fs.length:Int)==0)=(fs.length==0):=by rw[Bool.eq_iff_iff];simp
    simp[zi,V.wk,V.An,zd,Fm.head,hn,h',e]
   ·have h':¬ts.length=2:=by simp at h;omega
    simp[zi,V.wk,V.An,zd,Fm.head,hn,h']
 all_goals first
  |(cases hn:h.BJ with
    |false=>
     rw[hn] at h1;refine M.F Tryz.func257 ?_;(repeat' first|refine M.gw ?_|refine M.c2 (h1) ?_|refine M.bl ?_|refine M.cs ?_ ?_<;>intro h|fail);simp[zi,V.wk,V.An,zd,Fm.head,hn];done
    |true=>
     rw[hn] at h1;refine M.F Tryz.func257 ?_;(repeat' first|refine M.gw ?_|refine M.c2 (h1) ?_|refine M.gs ?_ ?_<;>intro h|refine M.bl ?_|fail)
     ·have h':ts.length=0:=by simp at h;simp[h]
      have e:((fs.length:Int)==2)=(fs.length==2):=by rw[Bool.eq_iff_iff];simp;omega
      simp[zi,V.wk,V.An,zd,Fm.head,hn,h',e]
     ·have h':¬ts.length=0:=by simp at h;simpa using h
      simp[zi,V.wk,V.An,zd,Fm.head,hn,h'];done)
  |(by_cases hn:h.err=0
    ·rw[hn] at h2;refine M.F Tryz.func257 ?_;(repeat' first|refine M.gw ?_|refine M.c2 (h2) ?_|refine M.gs ?_ ?_<;>intro h|refine M.bl ?_|refine M.cs ?_ ?_<;>intro h|fail)
     ·have h':ts.length=0:=by simp at h;simp[h]
      have e:((fs.length:Int)==1)=(fs.length==1):=by rw[Bool.eq_iff_iff];simp;omega
      simp[zi,V.wk,V.An,zd,Fm.head,hok,hn,h',e]
     ·have h':¬ts.length=0:=by simp at h;simpa using h
      simp[zi,V.wk,V.An,zd,Fm.head,hok,hn,h'];done
    ·have hb:(h.err !=0)=true:=by simpa using hn
     refine M.F Tryz.func257 ?_;(repeat' first|refine M.gw ?_|refine M.c2 (h2) ?_|refine M.gs ?_ ?_<;>intro h|refine M.bl ?_|refine M.cs ?_ ?_<;>intro h|fail)
     ·simp[zi,V.wk,V.An,zd,Fm.head,hok,hn]
     all_goals(exfalso;simp_all;done))
  |(refine M.F Tryz.func257 ?_
    (repeat' first|refine M.gw ?_|refine M.bl ?_|refine M.cs ?_ ?_<;>intro h|fail);all_goals first
     |(exfalso;simp_all;done)
     |(simp[zi,V.wk,V.An,zd,Fm.head,hk];done))
theorem Zj9:∀(b:Nat) (f:Fm),f.full<=b->b<1099511627776->PC E 225 [.agg f.view] (.At [.i f.nodes,.bool f.shape]):=by
 intro b;induction b with
 |zero=>intro f h;have:=f.Aa;omega
 |succ b ih=>
 intro f hsz hb;have hsz':=f.Ag;have hse:=f.size_eq;have hle:=f.Ak;have hlen:=zg Fm.full Fm.Aa f.args;have hlen2:=zg Tm.full Tm.Aa f.terms;have hsh:=f.Ai;have h1:=Ydn f (by omega);cases hh:f.head with
 |false=>
  rw[hh] at h1 hsh;have e:f.shape=false:=by rw[hsh];rfl
  rw[show f.nodes=0 by simp[Fm.nodes,e],e];refine M.F Tryz.func225 ?_;(repeat' first|refine M.gw ?_|refine M.c2 (h1) ?_|fail)
  rfl
 |true=>
 rw[hh] at h1 hsh;refine M.F Tryz.func225 ?_;(repeat' first|refine M.gw ?_|refine M.c2 (h1) ?_|fail);refine AW.range f.terms.length (fun m=>∀j (hj:j<f.terms.length),j<m->(f.terms[j]).shape=true)
  (fun m=>([(1,.ptr 0 0),(4,.i (1+((f.terms.take m).map Tm.size).sum:Nat)),(17,.s .tm f.terms),(18,.i f.terms.length),(19,.i m)],⟨1,[(0,.var f.view)]⟩))
  (by omega) (fun m=>rfl) (fun m=>rfl) rfl (fun j hj h=>by omega) (M.W [some 0]) ?_ ?_
 ·intro m hm hP;have hs1:=yv Tm.size f.terms m hm;have hs2:=ze Tm.full (List.getElem_mem hm);have hs3:=zw Tm.size f.terms m;have hs4:=xi (f:=Tm.size) (g:=Tm.full) f.terms fun x _=>x.Ak;have hs5:=f.terms[m].Ak;have hc:=VF _ f.terms[m] (Nat.le_refl _) (by omega);cases hx:(f.terms[m]).shape with
  |false=>
   rw[show J7 f.terms[m]= .At [.i 0,.bool false] by simp[J7,Tm.nodes,hx]] at hc;have e:f.shape=false:=by rw[hsh,vx Tm.shape hm hx];rfl
   rw[show f.nodes=0 by simp[Fm.nodes,e],e];(repeat' first|refine M.gw ?_|refine M.c2 (hc) ?_|fail)
   rfl
  |true=>
   rw[show J7 f.terms[m]= .At [.i f.terms[m].size,.bool true] by simp[J7,Tm.nodes,hx]] at hc;(repeat' first|refine M.gw ?_|refine M.c2 (hc) ?_|fail);refine⟨rfl,yb (p:=fun t=>Tm.shape t=true) hm hP hx,?_⟩;simp only[hs1];exact(M.W [some 0] (hf:=(by(repeat'(first|exact trivial|refine And.intro ?_ ?_|refine⟨_,U,_,U,?_⟩|exact Aj.refl _|exact Aj.of_eq (by simp[Ao.Ar,Int.natCast_add,Int.add_assoc])));done)))
 ·intro hP;have hpt:=FL Tm.shape f.terms fun j hj=>hP j hj hj;rw[hpt] at hsh;simp only[List.take_length];(repeat' first|refine M.gw ?_|fail);refine AW.range f.args.length (fun m=>∀j (hj:j<f.args.length),j<m->(f.args[j]).shape=true)
   (fun m=>([(1,.ptr 0 0),(4,.i (1+(f.terms.map Tm.size).sum+((f.args.take m).map Fm.size).sum:Nat)),(35,.s .fm f.args),(36,.i f.args.length),(37,.i m)],⟨1,[(0,.var f.view)]⟩))
   (by omega) (fun m=>rfl) (fun m=>rfl) rfl (fun j hj h=>by omega) (M.W [some 0]) ?_ ?_
  ·intro m hm hP;have hs0:=xi (f:=Tm.size) (g:=Tm.full) f.terms fun x _=>x.Ak;have hs1:=yv Fm.size f.args m hm;have hs2:=ze Fm.full (List.getElem_mem hm);have hs3:=zw Fm.size f.args m;have hs4:=xi (f:=Fm.size) (g:=Fm.full) f.args fun x _=>x.Ak;have hs5:=f.args[m].Ak;have hc:=ih f.args[m] (by omega) (by omega);cases hx:(f.args[m]).shape with
   |false=>
    rw[hx,show(f.args[m]).nodes=0 by simp[Fm.nodes,hx]] at hc;have e:f.shape=false:=by rw[hsh,vx Fm.shape hm hx];rfl
    rw[show f.nodes=0 by simp[Fm.nodes,e],e];(repeat' first|refine M.gw ?_|refine M.c2 (hc) ?_|fail)
    rfl
   |true=>
    rw[hx,show(f.args[m]).nodes=(f.args[m]).size by simp[Fm.nodes,hx]] at hc;(repeat' first|refine M.gw ?_|refine M.c2 (hc) ?_|fail);refine⟨rfl,yb (p:=fun t=>Fm.shape t=true) hm hP hx,?_⟩;simp only[hs1];exact(M.W [some 0] (hf:=(by(repeat'(first|exact trivial|refine And.intro ?_ ?_|refine⟨_,U,_,U,?_⟩|exact Aj.refl _|exact Aj.of_eq (by simp[Ao.Ar,Int.natCast_add,Int.add_assoc])));done)))
  ·intro hP;have hpa:=FL Fm.shape f.args fun j hj=>hP j hj hj;rw[hpa] at hsh;have e:f.shape=true:=hsh;rw[show f.nodes=f.size by simp[Fm.nodes,e],e,hse];simp only[List.take_length];(repeat' first|refine M.gw ?_|fail)
   rfl
theorem NO(f:Fm)(hf:f.full<1099511627776):PC E 162 [.agg f.view] (.At [.i f.num,.i f.err]):=by
 have h1:=Zj9 _ f (Nat.le_refl _) hf;have hle:=f.Ak;cases hs:f.shape with
 |false=>
  have e:f.err=2:=by simp[Fm.err,hs]
  rw[hs,show f.nodes=0 by simp[Fm.nodes,hs]] at h1;rw[show f.num=0 by simp[Fm.num,e],e];refine M.F Tryz.func162 ?_;(repeat' first|refine M.gw ?_|refine M.c2 (h1) ?_|refine M.zb ?_|fail)
  rfl
 |true=>
  rw[hs,show f.nodes=f.size by simp[Fm.nodes,hs]] at h1;by_cases hz:f.size>4096
  ·have e:f.err=4:=by simp[Fm.err,hs,hz]
   rw[show f.num=0 by simp[Fm.num,e],e];refine M.F Tryz.func162 ?_;(repeat' first|refine M.gw ?_|refine M.c2 (h1) ?_|refine M.zb ?_|refine M.cs ?_ ?_<;>intro h|fail)
   ·rfl
   ·exfalso;simp at h;omega
  ·have e:f.err=0:=by simp[Fm.err,hs,hz]
   rw[show f.num=f.size by simp[Fm.num,e],e];refine M.F Tryz.func162 ?_;(repeat' first|refine M.gw ?_|refine M.c2 (h1) ?_|refine M.zb ?_|refine M.cs ?_ ?_<;>intro h|fail)
   ·exfalso;simp at h;omega
   ·rfl
theorem w4:∀(b:Nat) (f:Fm),f.full<=b->b<1099511627776->PC E 46 [.agg f.view] (.agg f.view):=by
 intro b;induction b with
 |zero=>intro f h;have:=f.Aa;omega
 |succ b ih=>
 intro f hsz hb;have hsz':=f.Ag;have hlen:=zg Fm.full Fm.Aa f.args;have hlen2:=zg Tm.full Tm.Aa f.terms;have hty:=w7 _ f.ty (Nat.le_refl _) (by omega);refine M.F Tryz.func46 ?_;(repeat' first|refine M.gw ?_|refine M.c2 (hty) ?_|fail);refine AW.range f.terms.length (fun m=>True)
  (fun m=>([(1,.ptr 0 0),(2,.ptr 1 0),(3,.ptr 2 0),(15,.s .tm f.terms),(16,.i f.terms.length),(17,.i m)],⟨4,[(0,.var f.view),(1,.var [.i 0,.i 0,.slice .nil (.t .ty []),.slice .nil (.t .tm []),.slice .nil (.t .fm [])]),(2,.var [.i f.kind,.i f.ty.kind,.s .ty f.ty.args,.slice (.own 3) (.t .tm (f.terms.take m)),.slice .nil (.t .fm [])]),(3,.row)]⟩))
  (by omega) (fun m=>rfl) (fun m=>rfl) rfl trivial (M.W [some 0,some 1,some 2,none]) ?_ ?_
 ·intro m hm _;have hs2:=ze Tm.full (List.getElem_mem hm);(repeat' first|refine M.gw ?_|refine M.c2 (vf _ _ (Nat.le_refl _) ?_) ?_|exact M.lt|fail);exact⟨rfl,trivial,(M.W [some 0,some 1,some 2,some 5] (he:=(by(repeat'(first|exact trivial|exact Or.inr ⟨_,U,rfl⟩|refine And.intro ?_ ?_|refine⟨_,U,_,U,_,U,?_⟩|exact Aj.refl _|exact Aj.of_eq (by simp[Ao.Ar,List.take_append_getElem])));done)))⟩
 ·intro _;simp only[List.take_length];(repeat' first|refine M.gw ?_|fail);refine AW.range f.args.length (fun m=>True)
   (fun m=>([(1,.ptr 0 0),(2,.ptr 1 0),(3,.ptr 2 0),(30,.s .fm f.args),(31,.i f.args.length),(32,.i m)],⟨5,[(0,.var f.view),(1,.var [.i 0,.i 0,.slice .nil (.t .ty []),.slice .nil (.t .tm []),.slice .nil (.t .fm [])]),(2,.var [.i f.kind,.i f.ty.kind,.s .ty f.ty.args,.slice (.own 3) (.t .tm f.terms),.slice (.own 4) (.t .fm (f.args.take m))]),(3,.row),(4,.row)]⟩))
   (by omega) (fun m=>rfl) (fun m=>rfl) rfl trivial (M.W [some 0,some 1,some 2,some 3,none]) ?_ ?_
  ·intro m hm _;have hs2:=ze Fm.full (List.getElem_mem hm);(repeat' first|refine M.gw ?_|refine M.c2 (ih _ ?_ ?_) ?_|exact M.le|exact M.lt|fail);exact⟨rfl,trivial,(M.W [some 0,some 1,some 2,some 3,some 6] (he:=(by(repeat'(first|exact trivial|exact Or.inr ⟨_,U,rfl⟩|refine And.intro ?_ ?_|refine⟨_,U,_,U,_,U,?_⟩|exact Aj.refl _|exact Aj.of_eq (by simp[Ao.Ar,List.take_append_getElem])));done)))⟩
  ·intro _;simp only[List.take_length];(repeat' first|refine M.gw ?_|fail)
   rfl
theorem GS(a b:Tm)(ha:a.full<1099511627776)(hb:b.full<1099511627776):PC E 30 [.agg a.view,.agg b.view] (.agg (AV a b).view):=by
 have h1:=vf _ a (Nat.le_refl _) ha;have h2:=vf _ b (Nat.le_refl _) hb;refine M.F Tryz.func30 ?_;(repeat' first|refine M.gw ?_|refine M.c2 (h1) ?_|refine M.c2 (h2) ?_|fail)
 rfl
theorem Nl(k:Int)(a b:Fm)(ha:a.full<1099511627776)(hb:b.full<1099511627776):PC E 103 [.i k,.agg a.view,.agg b.view] (.agg (Fm.mk k (.mk 0 []) [] [a,b]).view):=by
 have h1:=w4 _ a (Nat.le_refl _) ha;have h2:=w4 _ b (Nat.le_refl _) hb;refine M.F Tryz.func103 ?_;(repeat' first|refine M.gw ?_|refine M.c2 (h1) ?_|refine M.c2 (h2) ?_|fail)
 rfl
theorem Gx(k:Int)(s:Ty)(f:Fm)(hs:s.size<1099511627776)(hf:f.full<1099511627776):PC E 104 [.i k,.agg s.view,.agg f.view] (.agg (Fm.mk k s [] [f]).view):=by
 have h1:=w7 _ s (Nat.le_refl _) hs;have h2:=w4 _ f (Nat.le_refl _) hf;refine M.F Tryz.func104 ?_;(repeat' first|refine M.gw ?_|refine M.c2 (h1) ?_|refine M.c2 (h2) ?_|fail)
 rfl
theorem Yij(t:Tm)(b:Int)(ht:t.full<1099511627776):PC E 190 [.agg t.view,.i b] (.agg t.view):=by
 have h1:=Jk _ t (Nat.le_refl _) ht;refine M.F Tryz.func190 ?_;(repeat' first|refine M.gw ?_|refine M.c2 (h1) ?_|fail);simp[zi,V.wk,V.An,zd,Ty.view,Tm.view]
theorem Yg6:∀(n:Nat) (f:Fm) (bl:Int),f.full<=n->n<549755813888->0<=bl->bl+n<549755813888->PC E 189 [.agg f.view,.i bl,.fn (.func 190) [] []] (.agg f.view):=by
 intro n;induction n with
 |zero=>intro f bl h;have:=f.Aa;omega
 |succ n ih=>
 intro f bl hsz hb hbl hbn;have hsz':=f.Ag;have hlen:=zg Fm.full Fm.Aa f.args;have hlen2:=zg Tm.full Tm.Aa f.terms;have hty:=u7 _ f.ty (Nat.le_refl _) (by omega);have hq:=vd f.kind;refine M.F Tryz.func189 ?_;(repeat' first|refine M.gw ?_|refine M.c2 (hty) ?_|fail);refine AW.range f.terms.length (fun m=>True)
  (fun m=>([(1,.i bl),(2,.fn (.func 190) [] []),(3,.ptr 0 0),(6,.ptr 1 0),(7,.ptr 2 0),(19,.s .tm f.terms),(20,.i f.terms.length),(21,.i m)],⟨4,[(0,.var f.view),(1,.var [.i 0,.i 0,.slice .nil (.t .ty []),.slice .nil (.t .tm []),.slice .nil (.t .fm [])]),(2,.var [.i f.kind,.i f.ty.kind,.s .ty f.ty.args,.slice (.own 3) (.t .tm (f.terms.take m)),.slice .nil (.t .fm [])]),(3,.row)]⟩))
  (by omega) (fun m=>rfl) (fun m=>rfl) rfl trivial (M.W [some 0,some 1,some 2,none]) ?_ ?_
 ·intro m hm _;have hs2:=ze Tm.full (List.getElem_mem hm);have hc:=Yij f.terms[m] bl (by omega);(repeat' first|refine M.gw ?_|refine M.cv (hc) [] 0 ?_|fail);exact⟨rfl,trivial,(M.W [some 0,some 1,some 2,some 5] (he:=(by(repeat'(first|exact trivial|exact Or.inr ⟨_,U,rfl⟩|refine And.intro ?_ ?_|refine⟨_,U,_,U,_,U,?_⟩|exact Aj.refl _|exact Aj.of_eq (by simp[Ao.Ar,List.take_append_getElem])));done)))⟩
 ·intro _;simp only[List.take_length];cases hqk:xq f.kind with
  |true=>
   rw[hqk] at hq;(repeat' first|refine M.gw ?_|refine M.c2 (hq) ?_|fail);refine AW.range f.args.length (fun m=>True)
    (fun m=>([(1,.i (bl+1)),(2,.fn (.func 190) [] []),(3,.ptr 0 0),(6,.ptr 1 0),(7,.ptr 2 0),(41,.s .fm f.args),(42,.i f.args.length),(43,.i m)],⟨5,[(0,.var f.view),(1,.var [.i 0,.i 0,.slice .nil (.t .ty []),.slice .nil (.t .tm []),.slice .nil (.t .fm [])]),(2,.var [.i f.kind,.i f.ty.kind,.s .ty f.ty.args,.slice (.own 3) (.t .tm f.terms),.slice (.own 4) (.t .fm (f.args.take m))]),(3,.row),(4,.row)]⟩))
    (by omega) (fun m=>rfl) (fun m=>rfl) rfl trivial (M.W [some 0,some 1,some 2,some 3,none]) ?_ ?_
   ·intro m hm _;have hs2:=ze Fm.full (List.getElem_mem hm);have hc:=ih f.args[m] (bl+1) (by omega) (by omega) (by omega) (by omega);(repeat' first|refine M.gw ?_|refine M.c2 (hc) ?_|fail);exact⟨rfl,trivial,(M.W [some 0,some 1,some 2,some 3,some 6] (he:=(by(repeat'(first|exact trivial|exact Or.inr ⟨_,U,rfl⟩|refine And.intro ?_ ?_|refine⟨_,U,_,U,_,U,?_⟩|exact Aj.refl _|exact Aj.of_eq (by simp[Ao.Ar,List.take_append_getElem])));done)))⟩
   ·intro _;simp only[List.take_length];(repeat' first|refine M.gw ?_|fail)
    rfl
  |false=>
   rw[hqk] at hq;(repeat' first|refine M.gw ?_|refine M.c2 (hq) ?_|fail);refine AW.range f.args.length (fun m=>True)
    (fun m=>([(1,.i bl),(2,.fn (.func 190) [] []),(3,.ptr 0 0),(6,.ptr 1 0),(7,.ptr 2 0),(41,.s .fm f.args),(42,.i f.args.length),(43,.i m)],⟨5,[(0,.var f.view),(1,.var [.i 0,.i 0,.slice .nil (.t .ty []),.slice .nil (.t .tm []),.slice .nil (.t .fm [])]),(2,.var [.i f.kind,.i f.ty.kind,.s .ty f.ty.args,.slice (.own 3) (.t .tm f.terms),.slice (.own 4) (.t .fm (f.args.take m))]),(3,.row),(4,.row)]⟩))
    (by omega) (fun m=>rfl) (fun m=>rfl) rfl trivial (M.W [some 0,some 1,some 2,some 3,none]) ?_ ?_
   ·intro m hm _;have hs2:=ze Fm.full (List.getElem_mem hm);have hc:=ih f.args[m] bl (by omega) (by omega) (by omega) (by omega);(repeat' first|refine M.gw ?_|refine M.c2 (hc) ?_|fail);exact⟨rfl,trivial,(M.W [some 0,some 1,some 2,some 3,some 6] (he:=(by(repeat'(first|exact trivial|exact Or.inr ⟨_,U,rfl⟩|refine And.intro ?_ ?_|refine⟨_,U,_,U,_,U,?_⟩|exact Aj.refl _|exact Aj.of_eq (by simp[Ao.Ar,List.take_append_getElem])));done)))⟩
   ·intro _;simp only[List.take_length];(repeat' first|refine M.gw ?_|fail)
    rfl
theorem KK(f:Fm)(hf:f.full<274877906944):PC E 123 [.agg f.view] (.agg f.view):=by
 have h1:=Yg6 _ f 0 (Nat.le_refl _) (by omega) (by omega) (by omega);refine M.F Tryz.func123 ?_;(repeat' first|refine M.gw ?_|refine M.c2 (h1) ?_|fail)
 rfl
theorem To(l:List Tm)(h:(l.map Tm.full).sum<1099511627776):PC E 73 [.s .tm l,.s .tm l] (.bool true):=by
 have hlen:=zg Tm.full Tm.Aa l;refine M.F Tryz.func73 ?_;(repeat' first|refine M.gw ?_|refine M.cs ?_ ?_<;>intro h|fail)
 ·exfalso;simp at h
 refine AW.range l.length (fun m=>True) (fun m=>([(0,.s .tm l),(1,.s .tm l),(11,.s .tm l),(12,.i l.length),(13,.i m)],⟨0,[]⟩))
  (by omega) (fun m=>rfl) (fun m=>rfl) rfl trivial (M.W []) ?_ ?_
 ·intro m hm _;have hs2:=ze Tm.full (List.getElem_mem hm);have hc:=Yfg l[m] (by omega);(repeat' first|refine M.gw ?_|refine M.c2 (hc) ?_|fail);exact⟨rfl,trivial,(M.W [])⟩
 ·intro _;(repeat' first|refine M.gw ?_|fail)
  rfl
theorem Yef:∀(n:Nat) (f:Fm),f.full<=n->n<1099511627776->PC E 70 [.agg f.view,.agg f.view] (.bool true):=by
 intro n;induction n with
 |zero=>intro f h;have:=f.Aa;omega
 |succ n ih=>
 intro f hsz hn;have hsz':=f.Ag;have hlen:=zg Fm.full Fm.Aa f.args;have h1:=Ys f.ty (by omega);have h2:=To f.terms (by omega);refine M.F Tryz.func70 ?_;(repeat' first|refine M.gw ?_|refine M.c2 (h1) ?_|refine M.c2 (h2) ?_|refine M.gs ?_ ?_<;>intro h|refine M.cs ?_ ?_<;>intro h|fail);all_goals first
  |(exfalso;simp at h;done)
  |skip
 refine AW.range f.args.length (fun m=>True) (fun m=>([(2,.ptr 0 0),(3,.ptr 1 0),(37,.s .fm f.args),(38,.i f.args.length),(39,.i m)],⟨2,[(0,.var f.view),(1,.var f.view)]⟩))
  (by omega) (fun m=>rfl) (fun m=>rfl) rfl trivial (M.W [some 0,some 1]) ?_ ?_
 ·intro m hm _;have hs2:=ze Fm.full (List.getElem_mem hm);have hc:=ih f.args[m] (by omega) (by omega);(repeat' first|refine M.gw ?_|refine M.c2 (hc) ?_|fail);exact⟨rfl,trivial,(M.W [some 0,some 1])⟩
 ·intro _;(repeat' first|refine M.gw ?_|fail)
  rfl
def EV(b:Bool)(l:List (Int×Int)):Bool:=b&&l.all fun p=>decide (p.1<=268435456)
theorem Yhg(b:Bool)(t:Tm)(bl:Int)(ht:t.full<1099511627776):AC E 205 [.agg t.view,.i bl,.ptr 0 0] ⟨1,[(0,.var [.bool b])]⟩ (.At []) ⟨1,[(0,.var [.bool (Ed Tm.near b [(t,bl)])])]⟩:=by
 have hc:=L9 t ht;refine M.F Tryz.func205 ?_;(repeat' first|refine M.gw ?_|refine M.c2 (hc) ?_|refine M.gs ?_ ?_<;>intro h|fail)
 ·(exact M.n2 [some 0] (h6:=(by(repeat'(first|exact trivial|refine And.intro ?_ ?_|refine⟨_,U,_,U,_,U,?_⟩|exact Aj.of_eq (by simp[Ao.Ar,Lo,h])));done)) (h8:=(by simp[zi,V.wk,V.An,zd,Ty.view,Tm.view,Lo,h])))
 ·(exact M.n2 [some 0] (h6:=(by(repeat'(first|exact trivial|refine And.intro ?_ ?_|refine⟨_,U,_,U,_,U,?_⟩|exact Aj.of_eq (by simp[Ao.Ar,Lo,h])));done)) (h8:=(by simp[zi,V.wk,V.An,zd,Ty.view,Tm.view,Lo,h])))
theorem Ycz(at_ c:Int)(t:Tm)(bl:Int)(ht:t.full<549755813888)(hc0:0<=c/\c<549755813888)(ha:0<=at_/\at_<549755813888)(hb:0<=bl/\bl<549755813888)(hix:∀p∈t.vars 0,0<=p.1/\p.1<1099511627776):
 AC E 236 [.agg t.view,.i bl,.ptr 0 0,.ptr 1 0] ⟨2,[(0,.var [.i c]),(1,.var [.i at_])]⟩ (.At []) ⟨2,[(0,.var [.i (c+w6 at_ [(t,bl)])]),(1,.var [.i at_])]⟩:=by
 have hc:=Qt t (at_+bl) ht hix;have h1:=P9 (at_+bl) (t.vars 0);have h2:=t.CQ 0;have h3:=t.Ak;refine M.F Tryz.func236 ?_;(repeat' first|refine M.gw ?_|refine M.c2 (hc) ?_|fail)
 (exact M.n2 [some 0,some 1] (h8:=(by simp[zi,V.wk,V.An,zd,Ty.view,Tm.view,w6])))
theorem Zvz:∀(n:Nat) (f:Fm) (b:Bool) (bl:Int),f.full<=n->n<549755813888->0<=bl->bl+n<549755813888->AC E 163 [.agg f.view,.i bl,.fn (.func 205) [] [.ptr 0 0]] ⟨1,[(0,.var [.bool b])]⟩ (.At []) ⟨1,[(0,.var [.bool (Ed Tm.near b (f.AZ bl))])]⟩:=by
 intro n;induction n with
 |zero=>intro f;intros;have:=f.Aa;omega
 |succ n ih=>
 intro f b bl hsz hn hbl hbn;have hsz':=f.Ag;have hlen:=zg Fm.full Fm.Aa f.args;have hlen2:=zg Tm.full Tm.Aa f.terms;have htm:=f.A6 bl;have hq:=vd f.kind;refine M.F Tryz.func163 ?_;(repeat' first|refine M.gw ?_|fail);refine AW.range f.terms.length (fun m=>True)
  (fun m=>([(1,.i bl),(2,.fn (.func 205) [] [.ptr 0 0]),(3,.ptr 1 0),(11,.s .tm f.terms),(12,.i f.terms.length),(13,.i m)],⟨2,[(0,.var [.bool (Ed Tm.near b ((f.terms.take m).map (fun t=>(t,bl))))]),(1,.var f.view)]⟩))
  (by omega) (fun m=>rfl) (fun m=>rfl) rfl trivial ?_ ?_ ?_
 ·exact (M.W [some 0,some 1] (he:=(by(repeat'(first|exact trivial|refine And.intro ?_ ?_|refine⟨_,U,_,U,_,U,?_⟩|exact Aj.refl _|exact Aj.of_eq (by simp[Ao.Ar,KW])));done)))
 ·intro m hm _;have hs2:=ze Tm.full (List.getElem_mem hm);have hc:=Yhg (Ed Tm.near b ((f.terms.take m).map (fun t=>(t,bl)))) f.terms[m] bl (by omega);(repeat' first|refine M.gw ?_|refine M.cv (hc) [0] 0 ?_|fail);refine⟨rfl,trivial,?_⟩;exact(M.W [some 0,some 1] (he:=(by(repeat'(first|exact trivial|refine And.intro ?_ ?_|refine⟨_,U,_,U,_,U,?_⟩|exact Aj.refl _|exact Aj.of_eq (by simp[Ao.Ar,PL,ya _ _ _ hm])));done)))
 ·intro _;simp only[List.take_length];(repeat' first|refine M.gw ?_|refine M.c2 (hq) ?_|refine M.cs ?_ ?_<;>intro h|fail);all_goals
   have hup:AE f.kind bl<=bl+1:=by simp only[AE];split<;>omega
   have hup0:0<=AE f.kind bl:=by simp only[AE];split<;>omega
   refine AW.range f.args.length (fun m=>True)
    (fun m=>([(1,.i (AE f.kind bl)),(2,.fn (.func 205) [] [.ptr 0 0]),(3,.ptr 1 0),(28,.s .fm f.args),(29,.i f.args.length),(30,.i m)],⟨2,[(0,.var [.bool (Ed Tm.near b (f.terms.map (fun t=>(t,bl))++(f.args.take m).flatMap (Fm.AZ (AE f.kind bl))))]),(1,.var f.view)]⟩))
    (by omega) (fun m=>rfl) (fun m=>rfl) rfl trivial ?_ ?_ ?_
   ·exact (M.W [some 0,some 1] (hf:=(by(repeat'(first|exact trivial|refine And.intro ?_ ?_|refine⟨_,U,_,U,?_⟩|exact Aj.refl _|exact Aj.of_eq (by simp[Ao.Ar,AE,h,KW])));done)) (he:=(by(repeat'(first|exact trivial|refine And.intro ?_ ?_|refine⟨_,U,_,U,_,U,?_⟩|exact Aj.refl _|exact Aj.of_eq (by simp[Ao.Ar,AE,h,KW])));done)))
   ·intro m hm _;have hs2:=ze Fm.full (List.getElem_mem hm);have hc:=ih f.args[m] (Ed Tm.near b (f.terms.map (fun t=>(t,bl))++(f.args.take m).flatMap (Fm.AZ (AE f.kind bl)))) (AE f.kind bl) (by omega) (by omega) hup0 (by omega);(repeat' first|refine M.gw ?_|refine M.cv (hc) [0] 0 ?_|fail);refine⟨rfl,trivial,?_⟩;exact(M.W [some 0,some 1] (he:=(by(repeat'(first|exact trivial|refine And.intro ?_ ?_|refine⟨_,U,_,U,_,U,?_⟩|exact Aj.refl _|exact Aj.of_eq (by simp[Ao.Ar,PL,Jn _ _ _ hm])));done)))
   ·intro _;skip
    (exact M.n2 [some 0] (h6:=(by(repeat'(first|exact trivial|refine And.intro ?_ ?_|refine⟨_,U,_,U,_,U,?_⟩|exact Aj.of_eq (by simp[Ao.Ar,htm])));done)) (h8:=(by simp[zi,V.wk,V.An,zd,Ty.view,Tm.view,htm])))
theorem Zro(at_ C:Int)(ha:0<=at_/\at_<549755813888)(hC:C<549755813888):∀(n:Nat) (f:Fm) (c:Int) (bl:Int),f.full<=n->n<549755813888->0<=bl->bl+n<549755813888->0<=c->c+f.size<=C->(∀p∈f.AZ bl,∀q∈p.1.vars 0,0<=q.1/\q.1<1099511627776)->AC E 163 [.agg f.view,.i bl,.fn (.func 236) [] [.ptr 0 0,.ptr 1 0]] ⟨2,[(0,.var [.i c]),(1,.var [.i at_])]⟩ (.At []) ⟨2,[(0,.var [.i (c+w6 at_ (f.AZ bl))]),(1,.var [.i at_])]⟩:=by
 intro n;induction n with
 |zero=>intro f;intros;have:=f.Aa;omega
 |succ n ih=>
 intro f c bl hsz hn hbl hbn hc0 hcC hix;have hsz':=f.Ag;have hlen:=zg Fm.full Fm.Aa f.args;have hlen2:=zg Tm.full Tm.Aa f.terms;have htm:=f.A6 bl;have hq:=vd f.kind;refine M.F Tryz.func163 ?_;(repeat' first|refine M.gw ?_|fail);refine AW.range f.terms.length (fun m=>True)
  (fun m=>([(1,.i bl),(2,.fn (.func 236) [] [.ptr 0 0,.ptr 1 0]),(3,.ptr 2 0),(11,.s .tm f.terms),(12,.i f.terms.length),(13,.i m)],⟨3,[(0,.var [.i (c+w6 at_ ((f.terms.take m).map (fun t=>(t,bl))))]),(1,.var [.i at_]),(2,.var f.view)]⟩))
  (by omega) (fun m=>rfl) (fun m=>rfl) rfl trivial ?_ ?_ ?_
 ·exact (M.W [some 0,some 1,some 2] (he:=(by(repeat'(first|exact trivial|refine And.intro ?_ ?_|refine⟨_,U,_,U,_,U,?_⟩|exact Aj.refl _|exact Aj.of_eq (by simp[Ao.Ar,w6])));done)))
 ·intro m hm _;have hs2:=ze Tm.full (List.getElem_mem hm);have hle1:=Ky at_ ((f.terms.take m).map (fun t=>(t,bl)));have hle2:(((f.terms.take m).map (fun t=>(t,bl))).map fun p:Tm×Int=>p.1.size).sum<=f.size:=Yj3 f bl m;have hc:=Ycz at_ (c+w6 at_ ((f.terms.take m).map (fun t=>(t,bl)))) f.terms[m] bl (by omega) (by omega) ha (by omega) (fun p hp=>hix _ (by rw[htm];exact List.mem_append_left _ (List.mem_map.2 ⟨_,List.getElem_mem hm,rfl⟩)) p hp);(repeat' first|refine M.gw ?_|refine M.cv (hc) [0,1] 0 ?_|fail);refine⟨rfl,trivial,?_⟩;exact(M.W [some 0,some 1,some 2] (he:=(by(repeat'(first|exact trivial|refine And.intro ?_ ?_|refine⟨_,U,_,U,_,U,?_⟩|exact Aj.refl _|exact Aj.of_eq (by simp[Ao.Ar,y9,Int.natCast_add,Int.add_assoc,ya _ _ _ hm])));done)))
 ·intro _;simp only[List.take_length];(repeat' first|refine M.gw ?_|refine M.c2 (hq) ?_|refine M.cs ?_ ?_<;>intro h|fail);all_goals
   have hup:AE f.kind bl<=bl+1:=by simp only[AE];split<;>omega
   have hup0:0<=AE f.kind bl:=by simp only[AE];split<;>omega
   refine AW.range f.args.length (fun m=>True)
    (fun m=>([(1,.i (AE f.kind bl)),(2,.fn (.func 236) [] [.ptr 0 0,.ptr 1 0]),(3,.ptr 2 0),(28,.s .fm f.args),(29,.i f.args.length),(30,.i m)],⟨3,[(0,.var [.i (c+w6 at_ (f.terms.map (fun t=>(t,bl))++(f.args.take m).flatMap (Fm.AZ (AE f.kind bl))))]),(1,.var [.i at_]),(2,.var f.view)]⟩))
    (by omega) (fun m=>rfl) (fun m=>rfl) rfl trivial ?_ ?_ ?_
   ·exact (M.W [some 0,some 1,some 2] (hf:=(by(repeat'(first|exact trivial|refine And.intro ?_ ?_|refine⟨_,U,_,U,?_⟩|exact Aj.refl _|exact Aj.of_eq (by simp[Ao.Ar,AE,h,w6])));done)) (he:=(by(repeat'(first|exact trivial|refine And.intro ?_ ?_|refine⟨_,U,_,U,_,U,?_⟩|exact Aj.refl _|exact Aj.of_eq (by simp[Ao.Ar,AE,h,w6])));done)))
   ·intro m hm _;have hs2:=ze Fm.full (List.getElem_mem hm);have hle1:=Ky at_ (f.terms.map (fun t=>(t,bl))++(f.args.take m).flatMap (Fm.AZ (AE f.kind bl)));have hle2:((f.terms.map (fun t=>(t,bl))++(f.args.take m).flatMap (Fm.AZ (AE f.kind bl))).map fun p:Tm×Int=>p.1.size).sum+(f.args[m]).size<=f.size:=Yhb f bl m hm;have hc:=ih f.args[m] (c+w6 at_ (f.terms.map (fun t=>(t,bl))++(f.args.take m).flatMap (Fm.AZ (AE f.kind bl)))) (AE f.kind bl) (by omega) (by omega) hup0 (by omega) (by omega) (by omega) (fun p hp=>hix p (by rw[htm];exact List.mem_append_right _ (List.mem_flatMap.2 ⟨_,List.getElem_mem hm,hp⟩)));(repeat' first|refine M.gw ?_|refine M.cv (hc) [0,1] 0 ?_|fail);refine⟨rfl,trivial,?_⟩;exact(M.W [some 0,some 1,some 2] (he:=(by(repeat'(first|exact trivial|refine And.intro ?_ ?_|refine⟨_,U,_,U,_,U,?_⟩|exact Aj.refl _|exact Aj.of_eq (by simp[Ao.Ar,y9,Int.natCast_add,Int.add_assoc,Jn _ _ _ hm])));done)))
   ·intro _;skip
    (exact M.n2 [some 0,some 1] (h6:=(by(repeat'(first|exact trivial|refine And.intro ?_ ?_|refine⟨_,U,_,U,_,U,?_⟩|exact Aj.refl _|exact Aj.of_eq (by simp[Ao.Ar,htm])));done)) (h8:=(by simp[zi,V.wk,V.An,zd,Ty.view,Tm.view,htm])))
theorem Vd(f:Fm)(hf:f.full<274877906944):PC E 133 [.agg f.view] (.bool f.near):=by
 have hc:=Zvz _ f true 0 (Nat.le_refl _) (by omega) (by omega) (by omega);refine M.F Tryz.func133 ?_;(repeat' first|refine M.gw ?_|refine M.cv (hc) [1] 0 ?_|fail);simp[zi,V.wk,V.An,Ed,Fm.near]
theorem VI(f:Fm)(at_:Int)(ha:0<=at_/\at_<549755813888)(hf:f.full<274877906944)(hix:∀p∈f.AZ 0,∀q∈p.1.vars 0,0<=q.1/\q.1<1099511627776):PC E 197 [.agg f.view,.i at_] (.i (w6 at_ (f.AZ 0))):=by
 have hle:=f.Ak;have hc:=Zro at_ (f.size) ha (by omega) _ f 0 0 (Nat.le_refl _) (by omega) (by omega) (by omega) (by omega) (by omega) hix;refine M.F Tryz.func197 ?_;(repeat' first|refine M.gw ?_|refine M.cv (hc) [2,1] 0 ?_|fail);simp[zi,V.wk,V.An]
theorem Yi0(at_:Int)(s:Tm)(hat:0<=at_/\at_<274877906944)(hs:s.full<274877906944)(hsi:∀p∈s.vars 0,0<=p.1/\p.1<549755813888)(t:Tm)(bl:Int)(ht:t.full<274877906944)(hb:0<=bl/\bl<274877906944)(hix:∀p∈t.vars 0,0<=p.1/\p.1<549755813888):
 AC E 238 [.agg t.view,.i bl,.ptr 0 0,.ptr 1 0] ⟨2,[(0,.var [.i at_]),(1,.var s.view)]⟩ (.agg (t.re (xu (at_+bl) s) 0).view) ⟨2,[(0,.var [.i at_]),(1,.var s.view)]⟩:=by
 have hc:=RR t (at_+bl) s (by omega) hs hsi ht hix;refine M.F Tryz.func238 ?_;(repeat' first|refine M.gw ?_|refine M.c2 (hc) ?_|fail)
 (exact M.n2 [some 0,some 1] (h8:=(by simp[zi,V.wk,V.An,zd,Ty.view,Tm.view,hc])))
theorem Ykf(at_:Int)(s:Tm)(hat:0<=at_/\at_<274877906944)(hs:s.full<274877906944)(hsi:∀p∈s.vars 0,0<=p.1/\p.1<549755813888):∀(n:Nat) (f:Fm) (bl:Int),f.full<=n->n<274877906944->0<=bl->bl+n<274877906944->(∀p∈f.AZ bl,∀q∈p.1.vars 0,0<=q.1/\q.1<549755813888)->
 AC E 189 [.agg f.view,.i bl,.fn (.func 238) [] [.ptr 0 0,.ptr 1 0]] ⟨2,[(0,.var [.i at_]),(1,.var s.view)]⟩ (.agg (f.re (fun b t=>t.re (xu (at_+b) s) 0) bl).view) ⟨2,[(0,.var [.i at_]),(1,.var s.view)]⟩:=by
 intro n;induction n with
 |zero=>intro f bl h;intros;have:=f.Aa;omega
 |succ n ih=>
 intro f bl hsz hb hbl hbn hix;have hsz':=f.Ag;have hlen:=zg Fm.full Fm.Aa f.args;have hlen2:=zg Tm.full Tm.Aa f.terms;have hty:=u7 _ f.ty (Nat.le_refl _) (by omega);have hq:=vd f.kind;have hre:=Fm.Bz (fun b t=>t.re (xu (at_+b) s) 0) bl f;have htm:=f.A6 bl;refine M.F Tryz.func189 ?_;(repeat' first|refine M.gw ?_|refine M.c2 (hty) ?_|fail);refine AW.range f.terms.length (fun m=>True)
  (fun m=>([(1,.i bl),(2,.fn (.func 238) [] [.ptr 0 0,.ptr 1 0]),(3,.ptr 2 0),(6,.ptr 3 0),(7,.ptr 4 0),(19,.s .tm f.terms),(20,.i f.terms.length),(21,.i m)],⟨6,[(0,.var [.i at_]),(1,.var s.view),(2,.var f.view),(3,.var [.i 0,.i 0,.slice .nil (.t .ty []),.slice .nil (.t .tm []),.slice .nil (.t .fm [])]),(4,.var [.i f.kind,.i f.ty.kind,.s .ty f.ty.args,.slice (.own 5) (.t .tm ((f.terms.take m).map ((fun b t=>t.re (xu (at_+b) s) 0) bl))),.slice .nil (.t .fm [])]),(5,.row)]⟩))
  (by omega) (fun m=>rfl) (fun m=>rfl) rfl trivial (M.W [some 0,some 1,some 2,some 3,some 4,none]) ?_ ?_
 ·intro m hm _;have hs2:=ze Tm.full (List.getElem_mem hm);have hc:=Yi0 at_ s hat hs hsi f.terms[m] bl (by omega) (by omega) (fun p hp=>hix _ (by rw[htm];exact List.mem_append_left _ (List.mem_map.2 ⟨_,List.getElem_mem hm,rfl⟩)) p hp);(repeat' first|refine M.gw ?_|refine M.cv (hc) [0,1] 0 ?_|fail);exact⟨rfl,trivial,(M.W [some 0,some 1,some 2,some 3,some 4,some 7] (he:=(by(repeat'(first|exact trivial|exact Or.inr ⟨_,U,rfl⟩|refine And.intro ?_ ?_|refine⟨_,U,_,U,_,U,?_⟩|exact Aj.refl _|exact Aj.of_eq (by simp[Ao.Ar,ya _ _ _ hm])));done)))⟩
 ·intro _;simp only[List.take_length];cases hqk:xq f.kind with
  |true=>
   rw[hqk] at hq;have hu:AE f.kind bl=bl+1:=by simp[AE,hqk]
   rw[hu] at hre htm;(repeat' first|refine M.gw ?_|refine M.c2 (hq) ?_|fail);refine AW.range f.args.length (fun m=>True)
    (fun m=>([(1,.i (bl+1)),(2,.fn (.func 238) [] [.ptr 0 0,.ptr 1 0]),(3,.ptr 2 0),(6,.ptr 3 0),(7,.ptr 4 0),(41,.s .fm f.args),(42,.i f.args.length),(43,.i m)],⟨7,[(0,.var [.i at_]),(1,.var s.view),(2,.var f.view),(3,.var [.i 0,.i 0,.slice .nil (.t .ty []),.slice .nil (.t .tm []),.slice .nil (.t .fm [])]),(4,.var [.i f.kind,.i f.ty.kind,.s .ty f.ty.args,.slice (.own 5) (.t .tm (f.terms.map ((fun b t=>t.re (xu (at_+b) s) 0) bl))),.slice (.own 6) (.t .fm ((f.args.take m).map (Fm.re (fun b t=>t.re (xu (at_+b) s) 0) (bl+1))))]),(5,.row),(6,.row)]⟩))
    (by omega) (fun m=>rfl) (fun m=>rfl) rfl trivial (M.W [some 0,some 1,some 2,some 3,some 4,some 5,none]) ?_ ?_
   ·intro m hm _;have hs2:=ze Fm.full (List.getElem_mem hm);have hc:=ih f.args[m] (bl+1) (by omega) (by omega) (by omega) (by omega) (fun p hp=>hix p (by rw[htm];exact List.mem_append_right _ (List.mem_flatMap.2 ⟨_,List.getElem_mem hm,hp⟩)));(repeat' first|refine M.gw ?_|refine M.cv (hc) [0,1] 0 ?_|fail);exact⟨rfl,trivial,(M.W [some 0,some 1,some 2,some 3,some 4,some 5,some 8] (he:=(by(repeat'(first|exact trivial|exact Or.inr ⟨_,U,rfl⟩|refine And.intro ?_ ?_|refine⟨_,U,_,U,_,U,?_⟩|exact Aj.refl _|exact Aj.of_eq (by simp[Ao.Ar,ya _ _ _ hm])));done)))⟩
   ·intro _;simp only[List.take_length];(repeat' first|refine M.gw ?_|fail)
    (exact M.n2 [some 0,some 1] (h8:=(by simp[zi,V.wk,V.An,zd,Ty.view,Tm.view,hre])))
  |false=>
   rw[hqk] at hq;have hu:AE f.kind bl=bl:=by simp[AE,hqk]
   rw[hu] at hre htm;(repeat' first|refine M.gw ?_|refine M.c2 (hq) ?_|fail);refine AW.range f.args.length (fun m=>True)
    (fun m=>([(1,.i bl),(2,.fn (.func 238) [] [.ptr 0 0,.ptr 1 0]),(3,.ptr 2 0),(6,.ptr 3 0),(7,.ptr 4 0),(41,.s .fm f.args),(42,.i f.args.length),(43,.i m)],⟨7,[(0,.var [.i at_]),(1,.var s.view),(2,.var f.view),(3,.var [.i 0,.i 0,.slice .nil (.t .ty []),.slice .nil (.t .tm []),.slice .nil (.t .fm [])]),(4,.var [.i f.kind,.i f.ty.kind,.s .ty f.ty.args,.slice (.own 5) (.t .tm (f.terms.map ((fun b t=>t.re (xu (at_+b) s) 0) bl))),.slice (.own 6) (.t .fm ((f.args.take m).map (Fm.re (fun b t=>t.re (xu (at_+b) s) 0) bl)))]),(5,.row),(6,.row)]⟩))
    (by omega) (fun m=>rfl) (fun m=>rfl) rfl trivial (M.W [some 0,some 1,some 2,some 3,some 4,some 5,none]) ?_ ?_
   ·intro m hm _;have hs2:=ze Fm.full (List.getElem_mem hm);have hc:=ih f.args[m] bl (by omega) (by omega) (by omega) (by omega) (fun p hp=>hix p (by rw[htm];exact List.mem_append_right _ (List.mem_flatMap.2 ⟨_,List.getElem_mem hm,hp⟩)));(repeat' first|refine M.gw ?_|refine M.cv (hc) [0,1] 0 ?_|fail);exact⟨rfl,trivial,(M.W [some 0,some 1,some 2,some 3,some 4,some 5,some 8] (he:=(by(repeat'(first|exact trivial|exact Or.inr ⟨_,U,rfl⟩|refine And.intro ?_ ?_|refine⟨_,U,_,U,_,U,?_⟩|exact Aj.refl _|exact Aj.of_eq (by simp[Ao.Ar,ya _ _ _ hm])));done)))⟩
   ·intro _;simp only[List.take_length];(repeat' first|refine M.gw ?_|fail)
    (exact M.n2 [some 0,some 1] (h8:=(by simp[zi,V.wk,V.An,zd,Ty.view,Tm.view,hre])))
theorem Xd(f:Fm)(at_:Int)(s:Tm)(hat:0<=at_/\at_<274877906944)(hs:s.full<274877906944)(hsi:∀p∈s.vars 0,0<=p.1/\p.1<549755813888)(hf:f.full<137438953472)(hix:∀p∈f.AZ 0,∀q∈p.1.vars 0,0<=q.1/\q.1<549755813888):PC E 198 [.agg f.view,.i at_,.agg s.view] (.agg (f.put at_ s).view):=by
 have hc:=Ykf at_ s hat hs hsi _ f 0 (Nat.le_refl _) (by omega) (by omega) (by omega) hix;refine M.F Tryz.func198 ?_;(repeat' first|refine M.gw ?_|refine M.cv (hc) [1,2] 0 ?_|fail)
 rfl
end Go.Ab
