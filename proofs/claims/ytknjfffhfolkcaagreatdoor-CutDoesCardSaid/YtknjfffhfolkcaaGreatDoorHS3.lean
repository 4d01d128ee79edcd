/- A part of this seat's proofs. No conditions. -/
import Derived.Test.YtknjfffhfolkcaaGreatDoorHS2
namespace Go.Ab
open Go Go.Proofs
set_option maxRecDepth 100000
set_option linter.all false
theorem Znr(t:Tm)(fr by_:Int)(ht:t.full<274877906944):PC E 174 [.agg t.view,.i fr,.i by_] (.AD [.agg (if yx t fr by_=0 then t.re (zx fr by_) 0 else A4).view,.i (yx t fr by_)]):=by
 have h1:=Yc6 t (by omega);have h2:=Rq fr;have h3:=Rq by_;have h4:=Mb t (by omega);have h5:t.err=0->t.near=true->(0<=by_/\by_<=4096)->_:=fun h hn hy=>VS t fr by_ (by omega) ht (PR h hn);refine M.F Tryz.func174 ?_;(repeat' first|refine M.gw ?_|refine M.c2 (h1) ?_|refine M.c2 (h2) ?_|refine M.c2 (h3) ?_|refine M.c2 (h4) ?_|refine M.c2 (h5 (by simp_all) (by simp_all) (by simp_all)) ?_|refine M.gs ?_ ?_<;>intro h|refine M.cs ?_ ?_<;>intro h|fail)
 .have e':t.err≠0:=by simpa using h
  have e:yx t fr by_=t.err:=by simp only[yx];rw[if_pos e']
  simp[zk,V.wk,V.Ap,zc,Ty.view,Tm.view,e,A4,e']
 .rename_i h0;have e':¬t.err≠0:=by simpa using h0
  have e:yx t fr by_=1:=by simp only[yx];rw[if_neg e',if_pos (.inl (by intro hc;simp[hc] at h))]
  simp[zk,V.wk,V.Ap,zc,Ty.view,Tm.view,e,A4]
 .rename_i h0 h1;have e':¬t.err≠0:=by simpa using h0
  have e:yx t fr by_=1:=by simp only[yx];rw[if_neg e',if_pos (.inr (.inl (by intro hc;simp[hc] at h)))]
  simp[zk,V.wk,V.Ap,zc,Ty.view,Tm.view,e,A4]
 .rename_i h0 h1 h2;have e':¬t.err≠0:=by simpa using h0
  have e:yx t fr by_=1:=by simp only[yx];rw[if_neg e',if_pos (.inr (.inr (by simpa using h)))]
  simp[zk,V.wk,V.Ap,zc,Ty.view,Tm.view,e,A4]
 .rename_i h0 h1 h2;have e':¬t.err≠0:=by simpa using h0
  have e:yx t fr by_=0:=by
   simp only[yx];rw[if_neg e',if_neg];rintro(hc|hc|hc)
   .simp at h1;omega
   .simp at h2;omega
   .simp[hc] at h
  simp[zk,V.wk,V.Ap,zc,Ty.view,Tm.view,e,A4]
theorem Yhk(g:List Ty)(t:Ty)(hg:(g.map Ty.size).sum<1099511627776):PC E 79 [.s .ty g,.agg t.view] (.s .int (x7 g t)):=by
 have hlen:=zd Ty.size Ty.size_pos g;refine M.F Tryz.func79 ?_;(repeat' first|refine M.gw ?_|fail);refine AW.range g.length (fun m=>True)
  (fun m=>([(0,.s .ty g),(3,.ptr 0 0),(5,.slice (.own 1) (.t .int (((List.range m).filter fun i=>decide (g[g.length-1-i]? =some t)).map Int.ofNat))),(8,.i g.length),(9,.i m)],⟨2,[(0,.var t.view),(1,.row)]⟩))
  (by omega) (fun m=>rfl) (fun m=>rfl) rfl trivial (M.W [some 0,none]) ?_ ?_
 .intro m hm hP;have hm2:g.length-1-m<g.length:=by omega
  have hs2:=za Ty.size (Wi hm2);have hsame:=xh _ g[g.length-1-m] t (Wj _) (by omega);have hg:g[g.length-1-m]? =some g[g.length-1-m]:=Wl hm2;have hfl:(List.filter (fun i=>decide (g[g.length-1-i]? =some t)) (List.range m)).length<=m:=by have:=X9 (fun i=>decide (g[g.length-1-i]? =some t)) (List.range m);simpa using this
  (repeat' first|refine M.gw ?_|fail);refine L.D9 (g.length-1-m) rfl rfl rfl rfl (by omega) rfl rfl (by omega) ?_;(repeat' first|refine M.gw ?_|refine M.c2 (hsame) ?_|refine M.cs ?_ ?_<;>intro h|fail)
  .exact ⟨rfl,trivial,(M.W [some 0,some 2] (hf:=(by(repeat'(first|exact trivial|refine And.intro ?_ ?_|refine⟨_,U,_,U,?_⟩|exact Ao.refl _|exact Ao.of_eq (by simp[Aq.Ay,List.range_succ,hg,of_decide_eq_true h])));done)))⟩
  .exact ⟨rfl,trivial,(M.W [some 0,some 1] (hf:=(by(repeat'(first|exact trivial|refine And.intro ?_ ?_|refine⟨_,U,_,U,?_⟩|exact Ao.refl _|exact Ao.of_eq (by simp[Aq.Ay,List.range_succ,hg,of_decide_eq_false h])));done)))⟩
 .intro _;(repeat' first|refine M.gw ?_|fail);simp[zk,V.wk,V.Ap]
  rfl
theorem Zxk:∀(b:Nat) (t:Ty),t.size<=b->b<1099511627776->PC E 162 [.agg t.view] (.bool t.shape):=by
 intro b;induction b with
 |zero=>intro t h;have:=t.size_pos;omega
 |succ b ih=>
 intro t hsz hb;have hsz':=Ty.size_eq t;have hlen:=zd Ty.size Ty.size_pos t.args;have hsh:=Ty.Al t;refine M.F Tryz.func162 ?_;(repeat' first|refine M.gw ?_|fail);refine AW.Gz (ι:={n:Nat // DE t.kind=some n}) (fun n=>([(1,.ptr 0 0),(3,.i n.1)],⟨1,[(0,.var t.view)]⟩)) ?_ ?_
 .refine AW.block ?_;(repeat' first|refine M.gw ?_|refine M.cs ?_ ?_<;>intro h|fail)
  .exact ⟨⟨0,by simp at h;simp[DE,h]⟩,(M.W [some 0])⟩
  .exact ⟨⟨0,by simp at h;simp[DE,h]⟩,(M.W [some 0])⟩
  .exact ⟨⟨0,by simp at h;simp[DE,h]⟩,(M.W [some 0])⟩
  .exact ⟨⟨2,by simp at h;simp[DE,h]⟩,(M.W [some 0])⟩
  .exact ⟨⟨2,by simp at h;simp[DE,h]⟩,(M.W [some 0])⟩
  .have:t.shape=false:=by simp at*;simp[hsh,DE, *]
   simp[this,zk,zc,V.wk,V.Ap]
 rintro⟨n,hn⟩;(repeat' first|refine M.gw ?_|refine M.cs ?_ ?_<;>intro h|fail)
 .have h1:¬t.args.length=n:=by simp at h;omega
  have:t.shape=false:=by simp[hsh,hn,h1]
  simp[this,zk,zc,V.wk,V.Ap]
 have hn':t.args.length=n:=by simp at h;omega
 refine AW.range t.args.length (fun m=>∀j (hj:j<t.args.length),j<m->(t.args[j]).shape=true)
  (fun m=>([(1,.ptr 0 0),(21,.s .ty t.args),(22,.i t.args.length),(23,.i m)],⟨1,[(0,.var t.view)]⟩))
  (by omega) (fun m=>rfl) (fun m=>rfl) rfl (by intro j hj h;omega) (M.W [some 0]) ?_ ?_
 .intro m hm hP;have hs2:=za Ty.size (Wi hm);(repeat' first|refine M.gw ?_|refine M.c2 (ih _ ?_ ?_) ?_|refine M.cs ?_ ?_<;>intro h|exact M.le|exact M.lt|fail)
  .have h1:(t.args[m]).shape=false:=by simpa using h
   have:t.shape=false:=by rw[hsh,xn Ty.shape hm h1,YP]
   simp[this,zk,zc,V.wk,V.Ap]
  .have hh:(t.args[m]).shape=true:=by simpa using h
   exact⟨rfl,ya (p:=fun t=>Ty.shape t=true) hm hP hh,(M.W [some 0])⟩
 .intro hP;have:t.shape=true:=by simp only[hsh,hn,hn',w4 Ty.shape t.args fun j hj=>hP j hj hj];simp
  (repeat' first|refine M.gw ?_|fail);simp[this,zk,zc,V.wk,V.Ap]
theorem Zy6:∀(b:Nat) (t:Ty),t.size<=b->b<1099511627776->PC E 163 [.agg t.view] (.i t.size):=by
 intro b;induction b with
 |zero=>intro t h;have:=t.size_pos;omega
 |succ b ih=>
 intro t hsz hb;have hsz':=Ty.size_eq t;have hlen:=zd Ty.size Ty.size_pos t.args;refine M.F Tryz.func163 ?_;(repeat' first|refine M.gw ?_|fail);refine AW.range t.args.length (fun m=>True)
  (fun m=>([(3,.i (1+((t.args.take m).map Ty.size).sum)),(7,.s .ty t.args),(8,.i t.args.length),(9,.i m)],⟨1,[(0,.var t.view)]⟩))
  (by omega) (fun m=>rfl) (fun m=>rfl) rfl trivial (M.W [some 0]) ?_ ?_
 .intro m hm hP;have hs1:=yk Ty.size t.args m hm;have hs2:=za Ty.size (Wi hm);have hs3:=zm Ty.size t.args (m+1);have e:(1+((((t.args.take (m+1)).map Ty.size).sum:Nat):Int))=1+(((t.args.take m).map Ty.size).sum:Nat)+t.args[m].size:=by rw[hs1];omega
  (repeat' first|refine M.gw ?_|refine M.c2 (ih _ ?_ ?_) ?_|exact M.le|exact M.lt|fail);refine⟨rfl,trivial,?_⟩;simp only[e];exact(M.W [some 0])
 .intro hP;(repeat' first|refine M.gw ?_|fail);simp[zk,zc,hsz',V.wk,V.Ap]
theorem u9(t:Ty)(ht:t.size<1099511627776):PC E 119 [.agg t.view] (.i t.err):=by
 have h1:=Zxk _ t (Wj _) ht;have h2:=Zy6 _ t (Wj _) ht;refine M.F Tryz.func119 ?_;(repeat' first|refine M.gw ?_|refine M.c2 (h1) ?_|refine M.c2 (h2) ?_|refine M.cs ?_ ?_<;>intro h|fail);all_goals simp_all[zk,V.wk,V.Ap,zc,Ty.err]
 all_goals(first|omega|(split<;>first|omega|simp_all))
theorem Qx(t:Ty):PC E 120 [.agg t.view] (.bool t.BL):=by
 refine M.F Tryz.func120 ?_;(repeat' first|refine M.gw ?_|refine M.gs ?_ ?_<;>intro h|fail);all_goals simp_all[zk,V.wk,V.Ap,zc,Ty.BL]
 rw[Xm];simp
theorem To(t:Ty)(ht:t.size<1099511627776):PC E 256 [.agg t.view] (.AD [.agg (if t.err=0 then t else BJ).view,.i (if t.err=0 then 0 else 4)]):=by
 have h1:=u9 t ht;refine M.F Tryz.func256 ?_;(repeat' first|refine M.gw ?_|refine M.c2 (h1) ?_|refine M.cs ?_ ?_<;>intro h|fail);all_goals simp_all[zk,V.wk,V.Ap,zc,BJ,Ty.view]
theorem P8(l:List Ty)(hl:(l.map Ty.size).sum<1099511627776):PC E 105 [.s .ty l] (.i (xd l)):=by
 have hlen:=zd Ty.size Ty.size_pos l;refine M.F Tryz.func105 ?_;(repeat' first|refine M.gw ?_|refine M.cs ?_ ?_<;>intro h|fail)
 .have h':l.length>16:=by simp at h;omega
  simp[zk,V.wk,V.Ap,zc,xd,h']
 have h':¬l.length>16:=by simp at h;omega
 refine AW.range l.length (fun m=>∀j (hj:j<l.length),j<m->l[j].err=0)
  (fun m=>([(9,.s .ty l),(10,.i l.length),(11,.i m)],⟨0,[]⟩))
  (by omega) (fun m=>rfl) (fun m=>rfl) rfl (by intro j hj h;omega) (M.W []) ?_ ?_
 .intro m hm hP;have hs2:=za Ty.size (Wi hm);(repeat' first|refine M.gw ?_|refine M.c2 (u9 _ ?_) ?_|refine M.cs ?_ ?_<;>intro h|exact M.lt|fail)
  .have h1:¬l[m].err=0:=by simpa using h
   simp[zk,V.wk,V.Ap,zc,xd,h',Zox l m hm hP h1]
  .exact ⟨rfl,ya (p:=fun t=>Ty.err t=0) hm hP (by simpa using h),(M.W [])⟩
 .intro hP;(repeat' first|refine M.gw ?_|fail);simp[zk,V.wk,V.Ap,zc,xd,h',UH l hP]
theorem Yhr(k:Int):PC E 164 [.i k] (.i (KW k)):=by
 refine M.F Tryz.func164 ?_;(repeat' first|refine M.gw ?_|refine M.bl ?_|refine M.cs ?_ ?_<;>intro h|fail);all_goals
  simp only[beq_iff_eq,beq_eq_false_iff_ne,ne_eq] at*;simp[zk,V.wk,V.Ap,zc,KW, *]
theorem yl:∀(b:Nat) (t:Tm),t.full<=b->b<1099511627776->PC E 165 [.agg t.view] (.i t.size):=by
 intro b;induction b with
 |zero=>intro t h;have:=t.Aa;omega
 |succ b ih=>
 intro t hsz hb;have hsz':=Tm.Af t;have hszz:=Tm.size_eq t;have hle:=Tm.Aj t;have hlen:=zd Tm.full Tm.Aa t.args;refine M.F Tryz.func165 ?_;(repeat' first|refine M.gw ?_|fail);refine AW.range t.args.length (fun m=>True)
  (fun m=>([(3,.i (1+((t.args.take m).map Tm.size).sum)),(7,.s .tm t.args),(8,.i t.args.length),(9,.i m)],⟨1,[(0,.var t.view)]⟩))
  (by omega) (fun m=>rfl) (fun m=>rfl) rfl trivial (M.W [some 0]) ?_ ?_
 .intro m hm hP;have hs1:=yk Tm.size t.args m hm;have hs2:=za Tm.full (Wi hm);have hs3:=zm Tm.size t.args (m+1);have e:(1+((((t.args.take (m+1)).map Tm.size).sum:Nat):Int))=1+(((t.args.take m).map Tm.size).sum:Nat)+t.args[m].size:=by rw[hs1];omega
  (repeat' first|refine M.gw ?_|refine M.c2 (ih _ ?_ ?_) ?_|exact M.le|exact M.lt|fail);refine⟨rfl,trivial,?_⟩;simp only[e];exact(M.W [some 0])
 .intro hP;(repeat' first|refine M.gw ?_|fail);simp[zk,zc,hszz,V.wk,V.Ap]
end Go.Ab
namespace Go.Ab
open Go Go.Proofs
set_option maxRecDepth 100000
set_option maxHeartbeats 4000000
set_option linter.all false
theorem Yaw(k:Int):KW k=match CX k with|some n=>(n:Int)|none=> -1:=by
 simp only[KW,CX];(repeat' split)<;>simp_all<;>omega
theorem Tm.ER(t:Tm):t.head=(!((t.args.length:Int) !=KW t.kind)&& !decide (t.index<0)&&(!(t.kind !=1)|| !(t.index !=0))&&(bif xx t.kind then !(t.ty.err !=0) else !(!t.ty.BL))):=by
 simp only[Tm.head,Ty.Eo,Yaw];cases hk:CX t.kind with
 |none=>
  have:((t.args.length:Int) != -1)=true:=by simp
  simp[this]
 |some n=>
  have h1:(t.args.length==n)= !((t.args.length:Int) !=((n:Nat):Int)):=by rw[Xm];simp;omega
  have h2:decide (0<=t.index)= !decide (t.index<0):=by rw[Xm];simp
  simp only[h1,h2,bne];cases(t.index==0)<;>cases(t.kind==1)<;>simp
theorem QE:∀(b:Nat) (t:Tm),t.full<=b->b<1099511627776->PC E 121 [.agg t.view] (.bool t.shape):=by
 intro b;induction b with
 |zero=>intro t h;have:=t.Aa;omega
 |succ b ih=>
 intro t hsz hb;have hsz':=Tm.Af t;have hlen:=zd Tm.full Tm.Aa t.args;have hsh:=Tm.Al t;have h1:=Yhr t.kind;have h3:=Qx t.ty;have h4:=u9 t.ty (by omega);refine M.F Tryz.func121 ?_;(repeat' first|refine M.gw ?_|refine M.c2 (h1) ?_|refine M.c2 (h3) ?_|refine M.c2 (h4) ?_|refine M.gs ?_ ?_<;>intro h|refine M.bl ?_|refine M.cs ?_ ?_<;>intro h|fail);all_goals first
  |(have hd:t.head=false:=by rw[t.ER];simp_all[xx]
    have:t.shape=false:=by rw[hsh,hd,Xo]
    simp[this,zk,zc,V.wk,V.Ap];done)
  |(have hd:t.head=true:=by rw[t.ER];simp_all[xx]
    refine AW.range t.args.length (fun m=>∀j (hj:j<t.args.length),j<m->(t.args[j]).shape=true)
     (fun m=>([(1,.ptr 0 0),(42,.s .tm t.args),(43,.i t.args.length),(44,.i m)],⟨1,[(0,.var t.view)]⟩))
     (by omega) (fun m=>rfl) (fun m=>rfl) rfl (by intro j hj h;omega) (M.W [some 0]) ?_ ?_
    .intro m hm hP;have hs2:=za Tm.full (Wi hm);(repeat' first|refine M.gw ?_|refine M.c2 (ih _ ?_ ?_) ?_|refine M.cs ?_ ?_<;>intro h|exact M.le|exact M.lt|fail)
     .have h1:(t.args[m]).shape=false:=by simpa using h
      have:t.shape=false:=by rw[hsh,xn Tm.shape hm h1,YP]
      simp[this,zk,zc,V.wk,V.Ap]
     .have hh:(t.args[m]).shape=true:=by simpa using h
      exact⟨rfl,ya (p:=fun t=>Tm.shape t=true) hm hP hh,(M.W [some 0])⟩
    .intro hP;have:t.shape=true:=by simp only[hsh,hd,w4 Tm.shape t.args fun j hj=>hP j hj hj];simp
     (repeat' first|refine M.gw ?_|fail);simp[this,zk,zc,V.wk,V.Ap])
theorem wx(t:Tm)(ht:t.full<1099511627776):PC E 156 [.agg t.view] (.i t.err):=by
 have h1:=QE _ t (Wj _) ht;have h2:=yl _ t (Wj _) ht;refine M.F Tryz.func156 ?_;(repeat' first|refine M.gw ?_|refine M.c2 (h1) ?_|refine M.c2 (h2) ?_|refine M.cs ?_ ?_<;>intro h|fail);all_goals simp_all[zk,V.wk,V.Ap,zc,Tm.err]
 all_goals(first|omega|(split<;>first|omega|simp_all))
end Go.Ab
namespace Go.Ab
open Go Go.Proofs
set_option maxRecDepth 100000
set_option maxHeartbeats 40000000
set_option linter.all false
theorem Ydt:∀(n:Nat) (t:Tm) (g:List Ty),t.full<=n->n<274877906944->t.shape=true->(∀x∈g,x.err=0)->g.length+n<274877906944->PC E 245 [.s .ty g,.agg t.view] (.AD [.agg (t.inf g).1.view,.i (t.inf g).2]):=by
 intro n;induction n with
 |zero=>intro t g h;have:=t.Aa;omega
 |succ n ih=>
 intro t g hsz hb hsh hg hgn;have hsz':=Tm.Af t;have hlen:=zd Tm.full Tm.Aa t.args;have hix:=NT hsh;have hak:=HW hsh;have hargs:=zg hsh;have hinf:=Tm.A1 g t;have e64:∀{x:Ty},x.err=0->x.size<=64:=fun h=>((Ty.Ad _).1 h).2;by_cases k1:t.kind=1
 .rw[if_pos k1] at hinf;have hk:(t.kind==1)=true:=by simp[k1]
  refine M.F Tryz.func245 ?_;by_cases hlt:t.index>=g.length
  .rw[if_pos hlt] at hinf;(repeat' first|refine M.gw ?_|refine M.cs ?_ ?_<;>intro h|fail);all_goals first|exfalso;simp_all;done|simp[zk,V.wk,V.Ap,zc,Ty.view,hinf,BJ];done|exfalso;simp at*;omega
  .rw[if_neg hlt] at hinf;have h0:g.length-1-t.index.toNat<g.length:=by omega
   have hcp:=wh _ (g[g.length-1-t.index.toNat]) (Wj _) (by have:=e64 (hg _ (Wi h0));omega);rw[J5 h0] at hinf;(repeat' first|refine M.gw ?_|refine M.cs ?_ ?_<;>intro h|fail);all_goals first
    |(exfalso;simp_all;done)
    |(exfalso;simp at*;omega)
    |skip
   refine L.D9 (g.length-1-t.index.toNat) rfl rfl rfl rfl (by omega) rfl rfl h0 ?_;(repeat' first|refine M.gw ?_|refine M.c2 (hcp) ?_|fail);simp[zk,V.wk,V.Ap,zc,Ty.view,hinf]
 rw[if_neg k1] at hinf;by_cases k2:t.kind=2
 .rw[if_pos k2] at hinf;have hl1:t.args.length=1:=by rw[k2] at hak;exact(W6 hak).symm
  have h0:0<t.args.length:=by omega
  have hte:t.ty.err=0:=OP hsh (by rw[k2];rfl);have hs2:=za Tm.full (Wi h0);have hg':∀x∈g++[t.ty],x.err=0:=fun x hx=>by
   rcases WH.1 hx with hx|hx
   .exact hg x hx
   .simp at hx;subst hx;exact hte
  have hc:=ih t.args[0] (g++[t.ty]) (by omega) (by omega) (hargs _ (Wi h0)) hg' (by simp;omega);have hgood:=Tm.DP t.args[0] (g++[t.ty]) (hargs _ (Wi h0)) hg';have hinfs:Tm.AK (g++[t.ty]) t.args=if(t.args[0].inf (g++[t.ty])).2≠0 then([],(t.args[0].inf (g++[t.ty])).2) else([(t.args[0].inf (g++[t.ty])).1],0):=
   (congrArg (Tm.AK (g++[t.ty])) (K3 hl1)).trans (by simp only[Tm.AK,ne_eq,not_true_eq_false,if_false])
  have hf:(t.args[0].inf (g++[t.ty])).2=0->_:=fun h=>IJ t.ty (t.args[0].inf (g++[t.ty])).1 (by have:=e64 hte;omega) (by have:=e64 (hgood h);omega);have ho:(t.args[0].inf (g++[t.ty])).2=0->_:=fun h=>To (yv t.ty (t.args[0].inf (g++[t.ty])).1) (by have:=e64 (hgood h);have:=e64 hte;simp only[yv,Ty.size,Ty.sizes];omega);refine M.F Tryz.func245 ?_;(repeat' first|refine M.gw ?_|refine M.c2 (hc) ?_|refine M.c2 (hf (by simp_all)) ?_|refine M.c2 (ho (by simp_all)) ?_|refine M.cs ?_ ?_<;>intro h|fail);all_goals first
   |(exfalso;simp_all;done)
   |skip
  .have h':(t.args[0].inf (g++[t.ty])).2≠0:=by simpa using h
   rw[if_pos h'] at hinfs;rw[hinfs,if_pos h'] at hinf;simp[zk,V.wk,V.Ap,zc,Ty.view,hinf,BJ]
  .have h':¬(t.args[0].inf (g++[t.ty])).2≠0:=by simpa using h
   rw[if_neg h'] at hinfs;rw[hinfs] at hinf;have hinf':t.inf g=Bg (yv t.ty (t.args[0].inf (g++[t.ty])).1):=by rw[hinf];rfl
   rw[hinf'];by_cases he:(yv t.ty (t.args[0].inf (g++[t.ty])).1).err=0
   .simp[zk,V.wk,V.Ap,zc,Ty.view,Bg,he]
   .simp[zk,V.wk,V.Ap,zc,Ty.view,Bg,he]
 rw[if_neg k2] at hinf;refine M.F Tryz.func245 ?_;(repeat' first|refine M.gw ?_|refine M.cs ?_ ?_<;>intro h|fail);all_goals first
  |(exfalso;simp_all;done)
  |skip
 refine AW.range t.args.length (fun m=>∀j (hj:j<t.args.length),j<m->(t.args[j].inf g).2=0)
  (fun m=>([(0,.s .ty g),(3,.ptr 0 0),(4,.ptr 1 0),(8,.slice (.own 2) (.t .ty ((t.args.take m).map fun x=>(x.inf g).1))),(67,.s .tm t.args),(68,.i t.args.length),(69,.i m)],⟨3,[(0,.var t.view),(1,.var [.i 0,.slice .nil (.t .ty [])]),(2,.row)]⟩))
  (by omega) (fun m=>rfl) (fun m=>rfl) rfl (by intro j hj h;omega) (M.W [some 0,some 1,none]) ?_ ?_
 .intro m hm hP;have hs2:=za Tm.full (Wi hm);have hc:=ih t.args[m] g (by omega) (by omega) (hargs _ (Wi hm)) hg (by omega);(repeat' first|refine M.gw ?_|refine M.c2 (hc) ?_|refine M.cs ?_ ?_<;>intro h|fail)
  .have h':(t.args[m].inf g).2≠0:=by simpa using h
   have h2:=Tm.GC g t.args m hm hP h';rw[h2,if_pos h'] at hinf;simp[zk,V.wk,V.Ap,zc,Ty.view,hinf,BJ]
  .have h':(t.args[m].inf g).2=0:=by simpa using h
   refine⟨rfl,ya (p:=fun x:Tm=>(x.inf g).2=0) hm hP h',?_⟩;exact(M.W [some 0,some 1,some 5] (hf:=(by(repeat'(first|exact trivial|refine And.intro ?_ ?_|refine⟨_,U,_,U,?_⟩|exact Ao.refl _|exact Ao.of_eq (by simp[Aq.Ay,zy _ _ _ hm])));done)))
 .intro hP;have hall:∀x∈t.args,(x.inf g).2=0:=fun x hx=>by
   obtain⟨j,hj,rfl⟩:=Ye.1 hx;exact hP j hj hj
  have h5:=Tm.Ep g t.args hall;have hgood:∀x∈t.args.map (fun x=>(x.inf g).1),x.err=0:=fun x hx=>by
   obtain⟨y,hy,rfl⟩:=WA.1 hx;exact Tm.DP y g (hargs y hy) hg (hall y hy)
  rw[h5] at hinf;simp only[ne_eq,not_true_eq_false,if_false] at hinf;have hLl:(t.args.map fun x=>(x.inf g).1).length=t.args.length:=by simp
  rw[show t.args.take t.args.length=t.args from Wp];generalize hL:t.args.map (fun x=>(x.inf g).1)=L at*;have hty:=OP hsh;have hcpT:xx t.kind=true->_:=fun h=>wh _ t.ty (Wj _) (by have:=e64 (hty h);omega);clear hP hall h5 hargs hlen ih hsz' hix hsz;rw[<-hLl] at hak;rcases U5 hak with⟨hn,hk⟩|⟨hn,hk⟩|⟨hn,hk⟩|⟨hn,hk⟩
  .have hLL:=WB hn;subst hLL;obtain⟨k,i,th,xs⟩:=t;simp only[Tm.Ai,Tm.AQ] at hk hinf;rcases hk with rfl|rfl|rfl|rfl
   .exact absurd rfl k1
   all_goals
    (repeat' first|refine M.gw ?_|refine M.c2 (vk) ?_|refine M.c2 (ul) ?_|refine M.c2 (Ra) ?_|refine M.bl ?_|fail);simp[zk,V.wk,V.Ap,zc,Ty.view,hinf,vo,Ag,An,Hf]
  .obtain ⟨x,hLL⟩:=Qh hn;subst hLL;have hx:=hgood x (by simp);have hxn:=xh _ x Ag (Wj _) (by have:=e64 hx;omega);have hx2:x.kind=3->∃y z,x.args=[y,z]:=fun h=>Ty.Ct ((Ty.Ad _).1 hx).1 (.inl h);obtain⟨k,i,th,xs⟩:=t;simp only[Tm.Ai,Tm.AQ] at hk hinf;rcases hk with rfl|rfl|rfl|rfl
   .exact absurd rfl k2
   .repeat' (first|refine M.gw ?_|refine M.c2 (vk) ?_|refine M.c2 (ul) ?_|refine M.c2 (hxn) ?_|refine M.bl ?_|refine M.cs ?_ ?_<;>intro h|fail)
    .have h':¬x=Ag:=by simpa using h
     simp[zk,V.wk,V.Ap,zc,Ty.view,hinf,vo,h',BJ]
    .have h':x=Ag:=by simpa using h
     simp[zk,V.wk,V.Ap,zc,Ty.view,hinf,vo,h',Ag]
   all_goals
    by_cases hx3:x.kind=3
    .obtain ⟨y,z,hyz⟩:=hx2 hx3;obtain⟨xk,xa⟩:=x;simp only[Ty.Ai,Ty.Ae] at hx3 hyz;subst hx3;subst hyz;(repeat' first|refine M.gw ?_|refine M.c2 (vk) ?_|refine M.c2 (ul) ?_|refine M.bl ?_|fail);simp[zk,V.wk,V.Ap,zc,Ty.view,EC.view,hinf,vo]
    .repeat' (first|refine M.gw ?_|refine M.c2 (vk) ?_|refine M.c2 (ul) ?_|refine M.bl ?_|refine M.cs ?_ ?_<;>intro h|fail)
     .simp[zk,V.wk,V.Ap,zc,Ty.view,hinf,vo,hx3,BJ]
     all_goals exact absurd (by simpa using h) hx3
  .obtain ⟨x,y,hLL⟩:=NK hn;subst hLL;have hx:=hgood x (by simp);have hy:=hgood y (by simp);have ex:=e64 hx;have ey:=e64 hy;have hxn:=xh _ x Ag (Wj _) (by omega);have hyl:=xh _ y An (Wj _) (by omega);have hx2:x.kind=4->∃y z,x.args=[y,z]:=fun h=>Ty.Ct ((Ty.Ad _).1 hx).1 (.inr h);obtain⟨k,i,th,xs⟩:=t;simp only[Tm.Ai,Tm.AQ] at hk hinf;rcases hk with rfl|rfl|rfl
   .by_cases hx3:x.kind=4
    .obtain ⟨a,b,hab⟩:=hx2 hx3;obtain⟨xk,xa⟩:=x;simp only[Ty.Ai,Ty.Ae] at hx3 hab;subst hx3;subst hab;simp only[Ty.size,Ty.sizes] at ex;have hay:=xh _ a y (Wj _) (by omega);(repeat' first|refine M.gw ?_|refine M.c2 (vk) ?_|refine M.c2 (ul) ?_|refine M.c2 (hay) ?_|refine M.bl ?_|refine M.cs ?_ ?_<;>intro h|fail)
     .have h':¬a=y:=by simpa using h
      simp[zk,V.wk,V.Ap,zc,Ty.view,hinf,vo,h',BJ]
     .have h':a=y:=by simpa using h
      simp[zk,V.wk,V.Ap,zc,Ty.view,EC.view,hinf,vo,h']
    .repeat' (first|refine M.gw ?_|refine M.c2 (vk) ?_|refine M.c2 (ul) ?_|refine M.gs ?_ ?_<;>intro h|refine M.bl ?_|fail)
     .simp[zk,V.wk,V.Ap,zc,Ty.view,hinf,vo,hx3,BJ]
     .exact absurd (by simpa using h) hx3
   .clear hgood hLl hL hak hn hsh hcpT hty e64 hg hx2;(repeat' first|refine M.gw ?_|refine M.c2 (vk) ?_|refine M.c2 (ul) ?_|refine M.c2 (hxn) ?_|refine M.c2 (hyl) ?_|refine M.gs ?_ ?_<;>intro h|refine M.bl ?_|refine M.cs ?_ ?_<;>intro h|fail);all_goals
     clear hxn hyl;by_cases p1:x=Ag<;>by_cases p2:y=An<;>first|exfalso;simp[p1,p2] at*;done|simp[zk,V.wk,V.Ap,zc,Ty.view,EC.view,hinf,vo,p1,p2,BJ];done|(simp[zk,V.wk,V.Ap,zc,Ty.view,EC.view,hinf,vo,p1,p2];rfl)|simp[zk,V.wk,V.Ap,zc,Ty.view,EC.view,hinf,vo,p1,p2,An];done
   .have htw:=SS x y (by omega) (by omega);have hok:=To (CC x y) (by simp only[CC,Ty.size,Ty.sizes];omega);(repeat' first|refine M.gw ?_|refine M.c2 (vk) ?_|refine M.c2 (ul) ?_|refine M.c2 (htw) ?_|refine M.c2 (hok) ?_|refine M.bl ?_|fail);by_cases he:(CC x y).err=0
    .simp[zk,V.wk,V.Ap,zc,Ty.view,hinf,vo,Bg,he]
    .simp[zk,V.wk,V.Ap,zc,Ty.view,hinf,vo,Bg,he]
  .obtain ⟨x,y,z,hLL⟩:=Sf hn;subst hLL;have hx:=e64 (hgood x (by simp));have hy:=e64 (hgood y (by simp));have hz:=e64 (hgood z (by simp));have ht:t.ty.size<=64:=e64 (hty (by rcases hk with hk|hk<;>rw[hk]<;>rfl));have hcp:=wh _ t.ty (Wj _) (by omega);have hs1:=xh _ x t.ty (Wj _) (by omega);have hf1:=IJ t.ty t.ty (by omega) (by omega);obtain⟨k,i,th,xs⟩:=t;simp only[Tm.Ai,Tm.AQ] at hk hinf ht hs1 hf1 hcp;rcases hk with rfl|rfl
   .have hf2:=IJ Ag (yv th th) (by decide) (by simp only[yv,Ty.size,Ty.sizes];omega);have hs2:=xh _ y (yv Ag (yv th th)) (Wj _) (by omega);have hs3:=xh _ z Ag (Wj _) (by omega);clear hgood hLl hL hak hn hsh hcpT hty e64 hg;(repeat' first|refine M.gw ?_|refine M.c2 (vk) ?_|refine M.c2 (ul) ?_|refine M.c2 (hs1) ?_|refine M.c2 (hf1) ?_|refine M.c2 (hf2) ?_|refine M.c2 (hs2) ?_|refine M.c2 (hs3) ?_|refine M.c2 (hcp) ?_|refine M.gs ?_ ?_<;>intro h|refine M.bl ?_|refine M.cs ?_ ?_<;>intro h|fail);all_goals
     clear hs1 hf1 hcp hf2 hs2 hs3;by_cases p1:x=th<;>by_cases p2:y=yv Ag (yv th th)<;>by_cases p3:z=Ag<;>first|exfalso;simp[p1,p2,p3] at*;done|simp[zk,V.wk,V.Ap,zc,Ty.view,EC.view,hinf,vo,p1,p2,p3,BJ];done
   .have hf2:=IJ An (yv th th) (by decide) (by simp only[yv,Ty.size,Ty.sizes];omega);have hf3:=IJ Ag (yv An (yv th th)) (by decide) (by simp only[yv,An,Ty.size,Ty.sizes];omega);have hs2:=xh _ y (yv Ag (yv An (yv th th))) (Wj _) (by omega);have hs3:=xh _ z An (Wj _) (by omega);clear hgood hLl hL hak hn hsh hcpT hty e64 hg;(repeat' first|refine M.gw ?_|refine M.c2 (vk) ?_|refine M.c2 (ul) ?_|refine M.c2 (hs1) ?_|refine M.c2 (hf1) ?_|refine M.c2 (hf2) ?_|refine M.c2 (hf3) ?_|refine M.c2 (hs2) ?_|refine M.c2 (hs3) ?_|refine M.c2 (hcp) ?_|refine M.gs ?_ ?_<;>intro h|refine M.bl ?_|refine M.cs ?_ ?_<;>intro h|fail);all_goals
     clear hs1 hf1 hcp hf2 hs2 hs3;by_cases p1:x=th<;>by_cases p2:y=yv Ag (yv An (yv th th))<;>by_cases p3:z=An<;>first|exfalso;simp[p1,p2,p3] at*;done|simp[zk,V.wk,V.Ap,zc,Ty.view,EC.view,hinf,vo,p1,p2,p3,BJ];done
end Go.Ab
