/- A part of the proofs of this seat. No conditions. -/
import Derived.Test.YtpnbmjgblakifaaGreatDoorS1
namespace Go.Ab
open Go Go.Proofs
set_option maxRecDepth 100000
set_option linter.all false
theorem Yhd(g:List Ty)(t:Ty)(hg:(g.map Ty.size).sum<1099511627776):PC E 93 [.s .ty g,.agg t.view] (.s .int (wh g t)):=by
 have hlen:=zd Ty.size Ty.size_pos g;refine M.F Tryz.func93 ?_;(repeat' first|refine M.gw ?_|fail);refine AW.range g.length (fun m=>True)
  (fun m=>([(0,.s .ty g),(3,.ptr 0 0),(5,.slice (.own 1) (.t .int (((List.range m).filter fun i=>decide (g[g.length-1-i]? =some t)).map Int.ofNat))),(8,.i g.length),(9,.i m)],⟨2,[(0,.var t.view),(1,.row)]⟩))
  (by omega) (fun m=>rfl) (fun m=>rfl) rfl trivial (M.W [some 0,none]) ?_ ?_
 ·intro m hm hP;have hm2:g.length-1-m<g.length:=by omega
  have hs2:=zc Ty.size (List.getElem_mem hm2);have hsame:=xr _ g[g.length-1-m] t (Nat.le_refl _) (by omega);have hg:g[g.length-1-m]? =some g[g.length-1-m]:=List.getElem?_eq_getElem hm2;have hfl:(List.filter (fun i=>decide (g[g.length-1-i]? =some t)) (List.range m)).length<=m:=by have:=List.length_filter_le (fun i=>decide (g[g.length-1-i]? =some t)) (List.range m);simpa using this
  (repeat' first|refine M.gw ?_|fail);refine L.Dd (g.length-1-m) rfl rfl rfl rfl (by omega) rfl rfl (by omega) ?_;(repeat' first|refine M.gw ?_|refine M.c2 (hsame) ?_|refine M.cs ?_ ?_<;>intro h|fail)
  ·exact ⟨rfl,trivial,(M.W [some 0,some 2] (hf:=(by(repeat'(first|exact trivial|refine And.intro ?_ ?_|refine⟨_,U,_,U,?_⟩|exact An.refl _|exact An.of_eq (by simp[Ao.Ax,List.range_succ,hg,of_decide_eq_true h])));done)))⟩
  ·exact ⟨rfl,trivial,(M.W [some 0,some 1] (hf:=(by(repeat'(first|exact trivial|refine And.intro ?_ ?_|refine⟨_,U,_,U,?_⟩|exact An.refl _|exact An.of_eq (by simp[Ao.Ax,List.range_succ,hg,of_decide_eq_false h])));done)))⟩
 ·intro _;(repeat' first|refine M.gw ?_|fail);simp[zj,V.wk,V.Ap]
  rfl
theorem Zve:∀(b:Nat) (t:Ty),t.size<=b->b<1099511627776->PC E 176 [.agg t.view] (.bool t.shape):=by
 intro b;induction b with
 |zero=>intro t h;have:=t.size_pos;omega
 |succ b ih=>
 intro t hsz hb;have hsz':=Ty.size_eq t;have hlen:=zd Ty.size Ty.size_pos t.args;have hsh:=Ty.Ak t;refine M.F Tryz.func176 ?_;(repeat' first|refine M.gw ?_|fail);refine AW.LP (ι:={n:Nat // DF t.kind=some n}) (fun n=>([(1,.ptr 0 0),(3,.i n.1)],⟨1,[(0,.var t.view)]⟩)) ?_ ?_
 ·refine AW.block ?_;(repeat' first|refine M.gw ?_|refine M.cs ?_ ?_<;>intro h|fail)
  ·exact ⟨⟨0,by simp at h;simp[DF,h]⟩,(M.W [some 0])⟩
  ·exact ⟨⟨0,by simp at h;simp[DF,h]⟩,(M.W [some 0])⟩
  ·exact ⟨⟨0,by simp at h;simp[DF,h]⟩,(M.W [some 0])⟩
  ·exact ⟨⟨2,by simp at h;simp[DF,h]⟩,(M.W [some 0])⟩
  ·exact ⟨⟨2,by simp at h;simp[DF,h]⟩,(M.W [some 0])⟩
  ·have:t.shape=false:=by simp at*;simp[hsh,DF, *]
   simp[this,zj,za,V.wk,V.Ap]
 rintro⟨n,hn⟩;(repeat' first|refine M.gw ?_|refine M.cs ?_ ?_<;>intro h|fail)
 ·have h1:¬t.args.length=n:=by simp at h;omega
  have:t.shape=false:=by simp[hsh,hn,h1]
  simp[this,zj,za,V.wk,V.Ap]
 have hn':t.args.length=n:=by simp at h;omega
 refine AW.range t.args.length (fun m=>∀j (hj:j<t.args.length),j<m->(t.args[j]).shape=true)
  (fun m=>([(1,.ptr 0 0),(21,.s .ty t.args),(22,.i t.args.length),(23,.i m)],⟨1,[(0,.var t.view)]⟩))
  (by omega) (fun m=>rfl) (fun m=>rfl) rfl (by intro j hj h;omega) (M.W [some 0]) ?_ ?_
 ·intro m hm hP;have hs2:=zc Ty.size (List.getElem_mem hm);(repeat' first|refine M.gw ?_|refine M.c2 (ih _ ?_ ?_) ?_|refine M.cs ?_ ?_<;>intro h|exact M.le|exact M.lt|fail)
  ·have h1:(t.args[m]).shape=false:=by simpa using h
   have:t.shape=false:=by rw[hsh,vh Ty.shape hm h1,Bool.and_false]
   simp[this,zj,za,V.wk,V.Ap]
  ·have hh:(t.args[m]).shape=true:=by simpa using h
   exact⟨rfl,yc (p:=fun t=>Ty.shape t=true) hm hP hh,(M.W [some 0])⟩
 ·intro hP;have:t.shape=true:=by simp only[hsh,hn,hn',Fk Ty.shape t.args fun j hj=>hP j hj hj];simp
  (repeat' first|refine M.gw ?_|fail);simp[this,zj,za,V.wk,V.Ap]
theorem Zz4:∀(b:Nat) (t:Ty),t.size<=b->b<1099511627776->PC E 177 [.agg t.view] (.i t.size):=by
 intro b;induction b with
 |zero=>intro t h;have:=t.size_pos;omega
 |succ b ih=>
 intro t hsz hb;have hsz':=Ty.size_eq t;have hlen:=zd Ty.size Ty.size_pos t.args;refine M.F Tryz.func177 ?_;(repeat' first|refine M.gw ?_|fail);refine AW.range t.args.length (fun m=>True)
  (fun m=>([(3,.i (1+((t.args.take m).map Ty.size).sum)),(7,.s .ty t.args),(8,.i t.args.length),(9,.i m)],⟨1,[(0,.var t.view)]⟩))
  (by omega) (fun m=>rfl) (fun m=>rfl) rfl trivial (M.W [some 0]) ?_ ?_
 ·intro m hm hP;have hs1:=yl Ty.size t.args m hm;have hs2:=zc Ty.size (List.getElem_mem hm);have hs3:=zn Ty.size t.args (m+1);have e:(1+((((t.args.take (m+1)).map Ty.size).sum:Nat):Int))=1+(((t.args.take m).map Ty.size).sum:Nat)+t.args[m].size:=by rw[hs1];omega
  (repeat' first|refine M.gw ?_|refine M.c2 (ih _ ?_ ?_) ?_|exact M.le|exact M.lt|fail);refine⟨rfl,trivial,?_⟩;simp only[e];exact(M.W [some 0])
 ·intro hP;(repeat' first|refine M.gw ?_|fail);simp[zj,za,hsz',V.wk,V.Ap]
theorem KB(t:Ty)(ht:t.size<1099511627776):PC E 119 [.agg t.view] (.i t.err):=by
 have h1:=Zve _ t (Nat.le_refl _) ht;have h2:=Zz4 _ t (Nat.le_refl _) ht;refine M.F Tryz.func119 ?_;(repeat' first|refine M.gw ?_|refine M.c2 (h1) ?_|refine M.c2 (h2) ?_|refine M.cs ?_ ?_<;>intro h|fail);all_goals simp_all[zj,V.wk,V.Ap,za,Ty.err]
 all_goals(first|omega|(split<;>first|omega|simp_all))
theorem RA(t:Ty):PC E 120 [.agg t.view] (.bool t.BI):=by
 refine M.F Tryz.func120 ?_;(repeat' first|refine M.gw ?_|refine M.gs ?_ ?_<;>intro h|fail);all_goals simp_all[zj,V.wk,V.Ap,za,Ty.BI]
 rw[Bool.eq_iff_iff];simp
theorem UJ(t:Ty)(ht:t.size<1099511627776):PC E 288 [.agg t.view] (.Az [.agg (if t.err=0 then t else BF).view,.i (if t.err=0 then 0 else 4)]):=by
 have h1:=KB t ht;refine M.F Tryz.func288 ?_;(repeat' first|refine M.gw ?_|refine M.c2 (h1) ?_|refine M.cs ?_ ?_<;>intro h|fail);all_goals simp_all[zj,V.wk,V.Ap,za,BF,Ty.view]
theorem So(l:List Ty)(hl:(l.map Ty.size).sum<1099511627776):PC E 179 [.s .ty l] (.i (xq l)):=by
 have hlen:=zd Ty.size Ty.size_pos l;refine M.F Tryz.func179 ?_;(repeat' first|refine M.gw ?_|refine M.cs ?_ ?_<;>intro h|fail)
 ·have h':l.length>16:=by simp at h;omega
  simp[zj,V.wk,V.Ap,za,xq,h']
 have h':¬l.length>16:=by simp at h;omega
 refine AW.range l.length (fun m=>∀j (hj:j<l.length),j<m->l[j].err=0)
  (fun m=>([(9,.s .ty l),(10,.i l.length),(11,.i m)],⟨0,[]⟩))
  (by omega) (fun m=>rfl) (fun m=>rfl) rfl (by intro j hj h;omega) (M.W []) ?_ ?_
 ·intro m hm hP;have hs2:=zc Ty.size (List.getElem_mem hm);(repeat' first|refine M.gw ?_|refine M.c2 (KB _ ?_) ?_|refine M.cs ?_ ?_<;>intro h|exact M.lt|fail)
  ·have h1:¬l[m].err=0:=by simpa using h
   simp[zj,V.wk,V.Ap,za,xq,h',Zpu l m hm hP h1]
  ·exact ⟨rfl,yc (p:=fun t=>Ty.err t=0) hm hP (by simpa using h),(M.W [])⟩
 ·intro hP;(repeat' first|refine M.gw ?_|fail);simp[zj,V.wk,V.Ap,za,xq,h',Xn l hP]
theorem Yht(k:Int):PC E 118 [.i k] (.i (LM k)):=by
 refine M.F Tryz.func118 ?_;(repeat' first|refine M.gw ?_|refine M.bl ?_|refine M.cs ?_ ?_<;>intro h|fail);all_goals
  simp only[beq_iff_eq,beq_eq_false_iff_ne,ne_eq] at*;simp[zj,V.wk,V.Ap,za,LM, *]
theorem yu:∀(b:Nat) (t:Tm),t.full<=b->b<1099511627776->PC E 53 [.agg t.view] (.i t.size):=by
 intro b;induction b with
 |zero=>intro t h;have:=t.Aa;omega
 |succ b ih=>
 intro t hsz hb;have hsz':=Tm.Ag t;have hszz:=Tm.size_eq t;have hle:=Tm.Aj t;have hlen:=zd Tm.full Tm.Aa t.args;refine M.F Tryz.func53 ?_;(repeat' first|refine M.gw ?_|fail);refine AW.range t.args.length (fun m=>True)
  (fun m=>([(3,.i (1+((t.args.take m).map Tm.size).sum)),(7,.s .tm t.args),(8,.i t.args.length),(9,.i m)],⟨1,[(0,.var t.view)]⟩))
  (by omega) (fun m=>rfl) (fun m=>rfl) rfl trivial (M.W [some 0]) ?_ ?_
 ·intro m hm hP;have hs1:=yl Tm.size t.args m hm;have hs2:=zc Tm.full (List.getElem_mem hm);have hs3:=zn Tm.size t.args (m+1);have e:(1+((((t.args.take (m+1)).map Tm.size).sum:Nat):Int))=1+(((t.args.take m).map Tm.size).sum:Nat)+t.args[m].size:=by rw[hs1];omega
  (repeat' first|refine M.gw ?_|refine M.c2 (ih _ ?_ ?_) ?_|exact M.le|exact M.lt|fail);refine⟨rfl,trivial,?_⟩;simp only[e];exact(M.W [some 0])
 ·intro hP;(repeat' first|refine M.gw ?_|fail);simp[zj,za,hszz,V.wk,V.Ap]
end Go.Ab
namespace Go.Ab
open Go Go.Proofs
set_option maxRecDepth 100000
set_option maxHeartbeats 4000000
set_option linter.all false
theorem Zz5(k:Int):LM k=match CV k with|some n=>(n:Int)|none=> -1:=by
 simp only[LM,CV];(repeat' split)<;>simp_all<;>omega
theorem Tm.E6(t:Tm):t.head=(!((t.args.length:Int) !=LM t.kind)&& !decide (t.index<0)&&(!(t.kind !=1)|| !(t.index !=0))&&(bif wg t.kind then !(t.ty.err !=0) else !(!t.ty.BI))):=by
 simp only[Tm.head,Ty.EB,Zz5];cases hk:CV t.kind with
 |none=>
  have:((t.args.length:Int) != -1)=true:=by simp
  simp[this]
 |some n=>
  have h1:(t.args.length==n)= !((t.args.length:Int) !=((n:Nat):Int)):=by rw[Bool.eq_iff_iff];simp;omega
  have h2:decide (0<=t.index)= !decide (t.index<0):=by rw[Bool.eq_iff_iff];simp
  simp only[h1,h2,bne];cases(t.index==0)<;>cases(t.kind==1)<;>simp
theorem SK:∀(b:Nat) (t:Tm),t.full<=b->b<1099511627776->PC E 52 [.agg t.view] (.bool t.shape):=by
 intro b;induction b with
 |zero=>intro t h;have:=t.Aa;omega
 |succ b ih=>
 intro t hsz hb;have hsz':=Tm.Ag t;have hlen:=zd Tm.full Tm.Aa t.args;have hsh:=Tm.Ak t;have h1:=Yht t.kind;have h3:=RA t.ty;have h4:=KB t.ty (by omega);refine M.F Tryz.func52 ?_;(repeat' first|refine M.gw ?_|refine M.c2 (h1) ?_|refine M.c2 (h3) ?_|refine M.c2 (h4) ?_|refine M.gs ?_ ?_<;>intro h|refine M.bl ?_|refine M.cs ?_ ?_<;>intro h|fail);all_goals first
  |(have hd:t.head=false:=by rw[t.E6];simp_all[wg]
    have:t.shape=false:=by rw[hsh,hd,Bool.false_and]
    simp[this,zj,za,V.wk,V.Ap];done)
  |(have hd:t.head=true:=by rw[t.E6];simp_all[wg]
    refine AW.range t.args.length (fun m=>∀j (hj:j<t.args.length),j<m->(t.args[j]).shape=true)
     (fun m=>([(1,.ptr 0 0),(42,.s .tm t.args),(43,.i t.args.length),(44,.i m)],⟨1,[(0,.var t.view)]⟩))
     (by omega) (fun m=>rfl) (fun m=>rfl) rfl (by intro j hj h;omega) (M.W [some 0]) ?_ ?_
    ·intro m hm hP;have hs2:=zc Tm.full (List.getElem_mem hm);(repeat' first|refine M.gw ?_|refine M.c2 (ih _ ?_ ?_) ?_|refine M.cs ?_ ?_<;>intro h|exact M.le|exact M.lt|fail)
     ·have h1:(t.args[m]).shape=false:=by simpa using h
      have:t.shape=false:=by rw[hsh,vh Tm.shape hm h1,Bool.and_false]
      simp[this,zj,za,V.wk,V.Ap]
     ·have hh:(t.args[m]).shape=true:=by simpa using h
      exact⟨rfl,yc (p:=fun t=>Tm.shape t=true) hm hP hh,(M.W [some 0])⟩
    ·intro hP;have:t.shape=true:=by simp only[hsh,hd,Fk Tm.shape t.args fun j hj=>hP j hj hj];simp
     (repeat' first|refine M.gw ?_|fail);simp[this,zj,za,V.wk,V.Ap])
theorem vo(t:Tm)(ht:t.full<1099511627776):PC E 16 [.agg t.view] (.i t.err):=by
 have h1:=SK _ t (Nat.le_refl _) ht;have h2:=yu _ t (Nat.le_refl _) ht;refine M.F Tryz.func16 ?_;(repeat' first|refine M.gw ?_|refine M.c2 (h1) ?_|refine M.c2 (h2) ?_|refine M.cs ?_ ?_<;>intro h|fail);all_goals simp_all[zj,V.wk,V.Ap,za,Tm.err]
 all_goals(first|omega|(split<;>first|omega|simp_all))
end Go.Ab
namespace Go.Ab
open Go Go.Proofs
set_option maxRecDepth 100000
set_option maxHeartbeats 40000000
set_option linter.all false
theorem Yer:∀(n:Nat) (t:Tm) (g:List Ty),t.full<=n->n<274877906944->t.shape=true->(∀x∈g,x.err=0)->g.length+n<274877906944->PC E 273 [.s .ty g,.agg t.view] (.Az [.agg (t.inf g).1.view,.i (t.inf g).2]):=by
 intro n;induction n with
 |zero=>intro t g h;have:=t.Aa;omega
 |succ n ih=>
 intro t g hsz hb hsh hg hgn;have hsz':=Tm.Ag t;have hlen:=zd Tm.full Tm.Aa t.args;have hix:=N8 hsh;have hak:=I5 hsh;have hargs:=ze hsh;have hinf:=Tm.AY g t;have e64:∀{x:Ty},x.err=0->x.size<=64:=fun h=>((Ty.Ae _).1 h).2;by_cases k1:t.kind=1
 ·rw[if_pos k1] at hinf;have hk:(t.kind==1)=true:=by simp[k1]
  refine M.F Tryz.func273 ?_;by_cases hlt:t.index>=g.length
  ·rw[if_pos hlt] at hinf;(repeat' first|refine M.gw ?_|refine M.cs ?_ ?_<;>intro h|fail);all_goals first|exfalso;simp_all;done|simp[zj,V.wk,V.Ap,za,Ty.view,hinf,BF];done|exfalso;simp at*;omega
  ·rw[if_neg hlt] at hinf;have h0:g.length-1-t.index.toNat<g.length:=by omega
   have hcp:=wv _ (g[g.length-1-t.index.toNat]) (Nat.le_refl _) (by have:=e64 (hg _ (List.getElem_mem h0));omega);rw[L6 h0] at hinf;(repeat' first|refine M.gw ?_|refine M.cs ?_ ?_<;>intro h|fail);all_goals first
    |(exfalso;simp_all;done)
    |(exfalso;simp at*;omega)
    |skip
   refine L.Dd (g.length-1-t.index.toNat) rfl rfl rfl rfl (by omega) rfl rfl h0 ?_;(repeat' first|refine M.gw ?_|refine M.c2 (hcp) ?_|fail);simp[zj,V.wk,V.Ap,za,Ty.view,hinf]
 rw[if_neg k1] at hinf;by_cases k2:t.kind=2
 ·rw[if_pos k2] at hinf;have hl1:t.args.length=1:=by rw[k2] at hak;exact(Option.some.inj hak).symm
  have h0:0<t.args.length:=by omega
  have hte:t.ty.err=0:=Po hsh (by rw[k2];rfl);have hs2:=zc Tm.full (List.getElem_mem h0);have hg':∀x∈g++[t.ty],x.err=0:=fun x hx=>by
   rcases List.mem_append.1 hx with hx|hx
   ·exact hg x hx
   ·simp at hx;subst hx;exact hte
  have hc:=ih t.args[0] (g++[t.ty]) (by omega) (by omega) (hargs _ (List.getElem_mem h0)) hg' (by simp;omega);have hgood:=Tm.DM t.args[0] (g++[t.ty]) (hargs _ (List.getElem_mem h0)) hg';have hinfs:Tm.AH (g++[t.ty]) t.args=if(t.args[0].inf (g++[t.ty])).2≠0 then([],(t.args[0].inf (g++[t.ty])).2) else([(t.args[0].inf (g++[t.ty])).1],0):=
   (congrArg (Tm.AH (g++[t.ty])) (Mi hl1)).trans (by simp only[Tm.AH,ne_eq,not_true_eq_false,if_false])
  have hf:(t.args[0].inf (g++[t.ty])).2=0->_:=fun h=>IW t.ty (t.args[0].inf (g++[t.ty])).1 (by have:=e64 hte;omega) (by have:=e64 (hgood h);omega);have ho:(t.args[0].inf (g++[t.ty])).2=0->_:=fun h=>UJ (yy t.ty (t.args[0].inf (g++[t.ty])).1) (by have:=e64 (hgood h);have:=e64 hte;simp only[yy,Ty.size,Ty.sizes];omega);refine M.F Tryz.func273 ?_;(repeat' first|refine M.gw ?_|refine M.c2 (hc) ?_|refine M.c2 (hf (by simp_all)) ?_|refine M.c2 (ho (by simp_all)) ?_|refine M.cs ?_ ?_<;>intro h|fail);all_goals first
   |(exfalso;simp_all;done)
   |skip
  ·have h':(t.args[0].inf (g++[t.ty])).2≠0:=by simpa using h
   rw[if_pos h'] at hinfs;rw[hinfs,if_pos h'] at hinf;simp[zj,V.wk,V.Ap,za,Ty.view,hinf,BF]
  ·have h':¬(t.args[0].inf (g++[t.ty])).2≠0:=by simpa using h
   rw[if_neg h'] at hinfs;rw[hinfs] at hinf;have hinf':t.inf g=Bl (yy t.ty (t.args[0].inf (g++[t.ty])).1):=by rw[hinf];rfl
   rw[hinf'];by_cases he:(yy t.ty (t.args[0].inf (g++[t.ty])).1).err=0
   ·simp[zj,V.wk,V.Ap,za,Ty.view,Bl,he]
   ·simp[zj,V.wk,V.Ap,za,Ty.view,Bl,he]
 rw[if_neg k2] at hinf;refine M.F Tryz.func273 ?_;(repeat' first|refine M.gw ?_|refine M.cs ?_ ?_<;>intro h|fail);all_goals first
  |(exfalso;simp_all;done)
  |skip
 refine AW.range t.args.length (fun m=>∀j (hj:j<t.args.length),j<m->(t.args[j].inf g).2=0)
  (fun m=>([(0,.s .ty g),(3,.ptr 0 0),(4,.ptr 1 0),(8,.slice (.own 2) (.t .ty ((t.args.take m).map fun x=>(x.inf g).1))),(67,.s .tm t.args),(68,.i t.args.length),(69,.i m)],⟨3,[(0,.var t.view),(1,.var [.i 0,.slice .nil (.t .ty [])]),(2,.row)]⟩))
  (by omega) (fun m=>rfl) (fun m=>rfl) rfl (by intro j hj h;omega) (M.W [some 0,some 1,none]) ?_ ?_
 ·intro m hm hP;have hs2:=zc Tm.full (List.getElem_mem hm);have hc:=ih t.args[m] g (by omega) (by omega) (hargs _ (List.getElem_mem hm)) hg (by omega);(repeat' first|refine M.gw ?_|refine M.c2 (hc) ?_|refine M.cs ?_ ?_<;>intro h|fail)
  ·have h':(t.args[m].inf g).2≠0:=by simpa using h
   have h2:=Tm.GN g t.args m hm hP h';rw[h2,if_pos h'] at hinf;simp[zj,V.wk,V.Ap,za,Ty.view,hinf,BF]
  ·have h':(t.args[m].inf g).2=0:=by simpa using h
   refine⟨rfl,yc (p:=fun x:Tm=>(x.inf g).2=0) hm hP h',?_⟩;exact(M.W [some 0,some 1,some 5] (hf:=(by(repeat'(first|exact trivial|refine And.intro ?_ ?_|refine⟨_,U,_,U,?_⟩|exact An.refl _|exact An.of_eq (by simp[Ao.Ax,z8 _ _ _ hm])));done)))
 ·intro hP;have hall:∀x∈t.args,(x.inf g).2=0:=fun x hx=>by
   obtain⟨j,hj,rfl⟩:=List.mem_iff_getElem.1 hx;exact hP j hj hj
  have h5:=Tm.EE g t.args hall;have hgood:∀x∈t.args.map (fun x=>(x.inf g).1),x.err=0:=fun x hx=>by
   obtain⟨y,hy,rfl⟩:=List.mem_map.1 hx;exact Tm.DM y g (hargs y hy) hg (hall y hy)
  rw[h5] at hinf;simp only[ne_eq,not_true_eq_false,if_false] at hinf;have hLl:(t.args.map fun x=>(x.inf g).1).length=t.args.length:=by simp
  rw[show t.args.take t.args.length=t.args from List.take_length];generalize hL:t.args.map (fun x=>(x.inf g).1)=L at*;have hty:=Po hsh;have hcpT:wg t.kind=true->_:=fun h=>wv _ t.ty (Nat.le_refl _) (by have:=e64 (hty h);omega);clear hP hall h5 hargs hlen ih hsz' hix hsz;rw[<-hLl] at hak;rcases U5 hak with⟨hn,hk⟩|⟨hn,hk⟩|⟨hn,hk⟩|⟨hn,hk⟩
  ·have hLL:=List.eq_nil_of_length_eq_zero hn;subst hLL;obtain⟨k,i,th,xs⟩:=t;simp only[Tm.Ah,Tm.AL] at hk hinf;rcases hk with rfl|rfl|rfl|rfl
   ·exact absurd rfl k1
   all_goals
    (repeat' first|refine M.gw ?_|refine M.c2 (v8) ?_|refine M.c2 (Fe) ?_|refine M.c2 (Rv) ?_|refine M.bl ?_|fail);simp[zj,V.wk,V.Ap,za,Ty.view,hinf,vi,Af,Am,Hq]
  ·obtain ⟨x,hLL⟩:=Qo hn;subst hLL;have hx:=hgood x (by simp);have hxn:=xr _ x Af (Nat.le_refl _) (by have:=e64 hx;omega);have hx2:x.kind=3->∃y z,x.args=[y,z]:=fun h=>Ty.Ct ((Ty.Ae _).1 hx).1 (.inl h);obtain⟨k,i,th,xs⟩:=t;simp only[Tm.Ah,Tm.AL] at hk hinf;rcases hk with rfl|rfl|rfl|rfl
   ·exact absurd rfl k2
   ·repeat' (first|refine M.gw ?_|refine M.c2 (v8) ?_|refine M.c2 (Fe) ?_|refine M.c2 (hxn) ?_|refine M.bl ?_|refine M.cs ?_ ?_<;>intro h|fail)
    ·have h':¬x=Af:=by simpa using h
     simp[zj,V.wk,V.Ap,za,Ty.view,hinf,vi,h',BF]
    ·have h':x=Af:=by simpa using h
     simp[zj,V.wk,V.Ap,za,Ty.view,hinf,vi,h',Af]
   all_goals
    by_cases hx3:x.kind=3
    ·obtain ⟨y,z,hyz⟩:=hx2 hx3;obtain⟨xk,xa⟩:=x;simp only[Ty.Ah,Ty.Ad] at hx3 hyz;subst hx3;subst hyz;(repeat' first|refine M.gw ?_|refine M.c2 (v8) ?_|refine M.c2 (Fe) ?_|refine M.bl ?_|fail);simp[zj,V.wk,V.Ap,za,Ty.view,EC.view,hinf,vi]
    ·repeat' (first|refine M.gw ?_|refine M.c2 (v8) ?_|refine M.c2 (Fe) ?_|refine M.bl ?_|refine M.cs ?_ ?_<;>intro h|fail)
     ·simp[zj,V.wk,V.Ap,za,Ty.view,hinf,vi,hx3,BF]
     all_goals exact absurd (by simpa using h) hx3
  ·obtain ⟨x,y,hLL⟩:=NR hn;subst hLL;have hx:=hgood x (by simp);have hy:=hgood y (by simp);have ex:=e64 hx;have ey:=e64 hy;have hxn:=xr _ x Af (Nat.le_refl _) (by omega);have F2:=xr _ y Am (Nat.le_refl _) (by omega);have hx2:x.kind=4->∃y z,x.args=[y,z]:=fun h=>Ty.Ct ((Ty.Ae _).1 hx).1 (.inr h);obtain⟨k,i,th,xs⟩:=t;simp only[Tm.Ah,Tm.AL] at hk hinf;rcases hk with rfl|rfl|rfl
   ·by_cases hx3:x.kind=4
    ·obtain ⟨a,b,hab⟩:=hx2 hx3;obtain⟨xk,xa⟩:=x;simp only[Ty.Ah,Ty.Ad] at hx3 hab;subst hx3;subst hab;simp only[Ty.size,Ty.sizes] at ex;have hay:=xr _ a y (Nat.le_refl _) (by omega);(repeat' first|refine M.gw ?_|refine M.c2 (v8) ?_|refine M.c2 (Fe) ?_|refine M.c2 (hay) ?_|refine M.bl ?_|refine M.cs ?_ ?_<;>intro h|fail)
     ·have h':¬a=y:=by simpa using h
      simp[zj,V.wk,V.Ap,za,Ty.view,hinf,vi,h',BF]
     ·have h':a=y:=by simpa using h
      simp[zj,V.wk,V.Ap,za,Ty.view,EC.view,hinf,vi,h']
    ·repeat' (first|refine M.gw ?_|refine M.c2 (v8) ?_|refine M.c2 (Fe) ?_|refine M.gs ?_ ?_<;>intro h|refine M.bl ?_|fail)
     ·simp[zj,V.wk,V.Ap,za,Ty.view,hinf,vi,hx3,BF]
     ·exact absurd (by simpa using h) hx3
   ·clear hgood hLl hL hak hn hsh hcpT hty e64 hg hx2;(repeat' first|refine M.gw ?_|refine M.c2 (v8) ?_|refine M.c2 (Fe) ?_|refine M.c2 (hxn) ?_|refine M.c2 (F2) ?_|refine M.gs ?_ ?_<;>intro h|refine M.bl ?_|refine M.cs ?_ ?_<;>intro h|fail);all_goals
     clear hxn F2;by_cases p1:x=Af<;>by_cases p2:y=Am<;>first|exfalso;simp[p1,p2] at*;done|simp[zj,V.wk,V.Ap,za,Ty.view,EC.view,hinf,vi,p1,p2,BF];done|(simp[zj,V.wk,V.Ap,za,Ty.view,EC.view,hinf,vi,p1,p2];rfl)|simp[zj,V.wk,V.Ap,za,Ty.view,EC.view,hinf,vi,p1,p2,Am];done
   ·have htw:=TB x y (by omega) (by omega);have hok:=UJ (Cy x y) (by simp only[Cy,Ty.size,Ty.sizes];omega);(repeat' first|refine M.gw ?_|refine M.c2 (v8) ?_|refine M.c2 (Fe) ?_|refine M.c2 (htw) ?_|refine M.c2 (hok) ?_|refine M.bl ?_|fail);by_cases he:(Cy x y).err=0
    ·simp[zj,V.wk,V.Ap,za,Ty.view,hinf,vi,Bl,he]
    ·simp[zj,V.wk,V.Ap,za,Ty.view,hinf,vi,Bl,he]
  ·obtain ⟨x,y,z,hLL⟩:=X6 hn;subst hLL;have hx:=e64 (hgood x (by simp));have hy:=e64 (hgood y (by simp));have hz:=e64 (hgood z (by simp));have ht:t.ty.size<=64:=e64 (hty (by rcases hk with hk|hk<;>rw[hk]<;>rfl));have hcp:=wv _ t.ty (Nat.le_refl _) (by omega);have hs1:=xr _ x t.ty (Nat.le_refl _) (by omega);have hf1:=IW t.ty t.ty (by omega) (by omega);obtain⟨k,i,th,xs⟩:=t;simp only[Tm.Ah,Tm.AL] at hk hinf ht hs1 hf1 hcp;rcases hk with rfl|rfl
   ·have hf2:=IW Af (yy th th) (by decide) (by simp only[yy,Ty.size,Ty.sizes];omega);have hs2:=xr _ y (yy Af (yy th th)) (Nat.le_refl _) (by omega);have hs3:=xr _ z Af (Nat.le_refl _) (by omega);clear hgood hLl hL hak hn hsh hcpT hty e64 hg;(repeat' first|refine M.gw ?_|refine M.c2 (v8) ?_|refine M.c2 (Fe) ?_|refine M.c2 (hs1) ?_|refine M.c2 (hf1) ?_|refine M.c2 (hf2) ?_|refine M.c2 (hs2) ?_|refine M.c2 (hs3) ?_|refine M.c2 (hcp) ?_|refine M.gs ?_ ?_<;>intro h|refine M.bl ?_|refine M.cs ?_ ?_<;>intro h|fail);all_goals
     clear hs1 hf1 hcp hf2 hs2 hs3;by_cases p1:x=th<;>by_cases p2:y=yy Af (yy th th)<;>by_cases p3:z=Af<;>first|exfalso;simp[p1,p2,p3] at*;done|simp[zj,V.wk,V.Ap,za,Ty.view,EC.view,hinf,vi,p1,p2,p3,BF];done
   ·have hf2:=IW Am (yy th th) (by decide) (by simp only[yy,Ty.size,Ty.sizes];omega);have hf3:=IW Af (yy Am (yy th th)) (by decide) (by simp only[yy,Am,Ty.size,Ty.sizes];omega);have hs2:=xr _ y (yy Af (yy Am (yy th th))) (Nat.le_refl _) (by omega);have hs3:=xr _ z Am (Nat.le_refl _) (by omega);clear hgood hLl hL hak hn hsh hcpT hty e64 hg;(repeat' first|refine M.gw ?_|refine M.c2 (v8) ?_|refine M.c2 (Fe) ?_|refine M.c2 (hs1) ?_|refine M.c2 (hf1) ?_|refine M.c2 (hf2) ?_|refine M.c2 (hf3) ?_|refine M.c2 (hs2) ?_|refine M.c2 (hs3) ?_|refine M.c2 (hcp) ?_|refine M.gs ?_ ?_<;>intro h|refine M.bl ?_|refine M.cs ?_ ?_<;>intro h|fail);all_goals
     clear hs1 hf1 hcp hf2 hs2 hs3;by_cases p1:x=th<;>by_cases p2:y=yy Af (yy Am (yy th th))<;>by_cases p3:z=Am<;>first|exfalso;simp[p1,p2,p3] at*;done|simp[zj,V.wk,V.Ap,za,Ty.view,EC.view,hinf,vi,p1,p2,p3,BF];done
end Go.Ab
namespace Go.Ab
open Go Go.Proofs
set_option maxRecDepth 100000
set_option maxHeartbeats 4000000
set_option linter.all false
def HT(n:Nat):Prop:=∀(d:Dk) (g:List Ty) (t:Ty) (k:Int),k=(n:Int)-2->d.ok->Al g->t.small->1<=n->(n=1->t.size=1)->g.length+3*n<=10000->
 AC E 29 [.ptr 0 0,.s .ty g,.agg t.view,.i k] ⟨1,[(0,.var d.cells)]⟩ (.agg (Dk.tm n d g t).1.view) ⟨1,[(0,.var (Dk.tm n d g t).2.cells)]⟩
theorem R4{n:Nat}(hn:n<=7)(d:Dk){g:List Ty}{t:Ty}(hg:Al g)(ht:t.small)(h1:1<=n)(h2:n=1->t.size=1):(Dk.tm n d g t).1.full<=50000:=by
 have:=(Dk.CF n d g t hg ht h1 h2).full hg ht;have:3^n<=3^7:=Nat.pow_le_pow_right (by omega) hn;omega
abbrev F14:AF->AF:=id
theorem Sd(n:Nat)(H:HT n)(hn:n<=7)(depth:Int)(hdep:depth=(n:Int)-1)(d:Dk)(hd:d.ok)(g:List Ty)(t:Ty)(hg:Al g)(ht:t.small)(h0:n=0->t.size=1)(hl:g.length+3*(n+1)<=10000):
 AW E Tryz.f29.ntmps 1 (Gy [1,1,1,1] (Mv Tryz.f29)) [(0,.ptr 0 0),(1,.s .ty g),(3,.i depth),(6,.ptr 1 0),(8,.ptr 2 0)]
  ⟨3,[(0,.var d.cells),(1,.var t.view),(2,.var [.i 0,.i 0,.i 0,.slice .nil (.t .ty []),.slice .nil (.t .tm [])])]⟩
  (Fh E 1 Tryz.f29.results.toList (.agg (d.fin (Dk.tm n) (decide (2<=n)) g t).1.view) ⟨1,[(0,.var (d.fin (Dk.tm n) (decide (2<=n)) g t).2.cells)]⟩):=by
 have hF:1<=n->∀d,∀t,t.small->(n=1->t.size=1)->(Dk.tm n d g t).1.full<=50000:=fun h1 d t ht h2=>R4 hn d hg ht h1 h2;have hok:∀d g t,d.ok->(Dk.tm n d g t).2.ok:=fun d g t h=>Dk.CA n d g t h;rcases PA ht with rfl|rfl|rfl|⟨a,b,ha,hb,h1,h2,rfl|rfl⟩
 ·show AW _ _ _ (Code.seq _ _) _ _ _;by_cases hp:2<=n
  ·have hp':depth>0:=by omega
   have e:d.fin (Dk.tm n) (decide (2<=n)) g Af=if(d.next 5).1=0 then(sT (Dk.tm n (d.next 5).2 g Af).1,(Dk.tm n (d.next 5).2 g Af).2)
    else if(d.next 5).1=1 then(AO (AO Cs (Dk.tm n (d.next 5).2 g Af).1) (Dk.tm n (Dk.tm n (d.next 5).2 g Af).2 g Af).1,(Dk.tm n (Dk.tm n (d.next 5).2 g Af).2 g Af).2)
    else if(d.next 5).1=2 then(AO (AO Eb (Dk.tm n (d.next 5).2 g Af).1) (Dk.tm n (Dk.tm n (d.next 5).2 g Af).2 g Af).1,(Dk.tm n (Dk.tm n (d.next 5).2 g Af).2 g Af).2)
    else(xn ((d.next 5).2.next 3).1,((d.next 5).2.next 3).2):=by simp[Dk.fin,Af,hp]
   have hd5:=Dk.AE hd 5;have hx5:=uv d 5 hd (by omega);have hx3:=uv (d.next 5).2 3 hd5 (by omega);have a1:=H (d.next 5).2 g Af (depth-1) (by omega) hd5 hg zg (by omega) (by omega) (by omega);have a2:=H (Dk.tm n (d.next 5).2 g Af).2 g Af (depth-1) (by omega) (hok _ _ _ hd5) hg zg (by omega) (by omega) (by omega);have f1:=hF (by omega) (d.next 5).2 Af zg (by omega);have f2:=hF (by omega) (Dk.tm n (d.next 5).2 g Af).2 Af zg (by omega);have hs:=CJ 5 [(Dk.tm n (d.next 5).2 g Af).1] (by simp;omega);have p1:Cs.full<=18:=by decide
   have p2:Eb.full<=36:=by decide
   have ap:=Qz Cs [(Dk.tm n (d.next 5).2 g Af).1,(Dk.tm n (Dk.tm n (d.next 5).2 g Af).2 g Af).1] (by simp;omega);have asb:=Qz Eb [(Dk.tm n (d.next 5).2 g Af).1,(Dk.tm n (Dk.tm n (d.next 5).2 g Af).2 g Af).1] (by simp;omega);have hnum:=GP ((d.next 5).2.next 3).1;(repeat' first|refine M.gw ?_|refine M.cb (hx5) [0] 0 ?_|refine M.cb (hx3) [0] 0 ?_|refine M.cb (a1) [0] 0 ?_|refine M.cb (a2) [0] 0 ?_|refine M.c2 (Ww) ?_|refine M.c2 (Ylz) ?_|refine M.c2 (ap) ?_|refine M.c2 (asb) ?_|refine M.c2 (hnum) ?_|refine M.c2 (hs) ?_|refine M.bl ?_|refine M.cs ?_ ?_<;>intro h|fail);all_goals first
    |exact absurd hp' (by simpa using h)
    |skip
   ·have e:=e.trans (if_pos (by simpa using h))
    (exact M.n2 [some 0] (h6:=(by(repeat'(first|exact trivial|refine And.intro ?_ ?_|refine⟨_,U,_,U,_,U,?_⟩|exact An.of_eq (by simp[Ao.Ax,e,sT])));done)) (h8:=(by simp[zj,V.wk,V.Ap,za,Ty.view,Tm.view,e,sT])))
   ·rename_i h0;have e:=e.trans ((if_neg (by simpa using h0)).trans (if_pos (by simpa using h)))
    (exact M.n2 [some 0] (h6:=(by(repeat'(first|exact trivial|refine And.intro ?_ ?_|refine⟨_,U,_,U,_,U,?_⟩|exact An.of_eq (by simp[Ao.Ax,e,AO])));done)) (h8:=(by simp[zj,V.wk,V.Ap,za,Ty.view,Tm.view,e,AO])))
   ·rename_i h0 h1;have e:=e.trans ((if_neg (by simpa using h0)).trans ((if_neg (by simpa using h1)).trans (if_pos (by simpa using h))))
    (exact M.n2 [some 0] (h6:=(by(repeat'(first|exact trivial|refine And.intro ?_ ?_|refine⟨_,U,_,U,_,U,?_⟩|exact An.of_eq (by simp[Ao.Ax,e,AO])));done)) (h8:=(by simp[zj,V.wk,V.Ap,za,Ty.view,Tm.view,e,AO])))
   ·rename_i h0 h1;have e:=e.trans ((if_neg (by simpa using h0)).trans ((if_neg (by simpa using h1)).trans (if_neg (by simpa using h))))
    (exact M.n2 [some 0] (h6:=(by(repeat'(first|exact trivial|refine And.intro ?_ ?_|refine⟨_,U,_,U,_,U,?_⟩|exact An.of_eq (by simp[Ao.Ax,e])));done)) (h8:=(by simp[zj,V.wk,V.Ap,za,Ty.view,Tm.view,e])))
  ·have hp':¬depth>0:=by omega
   have e:d.fin (Dk.tm n) (decide (2<=n)) g Af=(xn (d.next 3).1,(d.next 3).2):=by simp[Dk.fin,Af,hp]
   have hx3:=uv d 3 hd (by omega);have hnum:=GP (d.next 3).1;(repeat' first|refine M.gw ?_|refine M.cb (hx3) [0] 0 ?_|refine M.c2 (hnum) ?_|refine M.bl ?_|refine M.cs ?_ ?_<;>intro h|fail);all_goals first
    |exact absurd hp' (by simpa using h)
    |skip
   (exact M.n2 [some 0] (h6:=(by(repeat'(first|exact trivial|refine And.intro ?_ ?_|refine⟨_,U,_,U,_,U,?_⟩|exact An.of_eq (by simp[Ao.Ax,e])));done)) (h8:=(by simp[zj,V.wk,V.Ap,za,Ty.view,Tm.view,e])))
 ·show AW _ _ _ (Code.seq _ _) _ _ _;have hN:=CJ 7 [] (by simp);by_cases hp:2<=n
  ·have hp':depth>0:=by omega
   have e:d.fin (Dk.tm n) (decide (2<=n)) g Am=if(d.next 2).1=0 then(nT 8 [(Dk.tm n (d.next 2).2 g Af).1,(Dk.tm n (Dk.tm n (d.next 2).2 g Af).2 g Am).1],(Dk.tm n (Dk.tm n (d.next 2).2 g Af).2 g Am).2) else(nT 7 [],(d.next 2).2):=by simp[Dk.fin,Am,hp]
   have hd2:=Dk.AE hd 2;have hx2:=uv d 2 hd (by omega);have a1:=H (d.next 2).2 g Af (depth-1) (by omega) hd2 hg zg (by omega) (by omega) (by omega);have a2:=H (Dk.tm n (d.next 2).2 g Af).2 g Am (depth-1) (by omega) (hok _ _ _ hd2) hg yw (by omega) (by omega) (by omega);have f1:=hF (by omega) (d.next 2).2 Af zg (by omega);have f2:=hF (by omega) (Dk.tm n (d.next 2).2 g Af).2 Am yw (by omega);have hs:=CJ 8 [(Dk.tm n (d.next 2).2 g Af).1,(Dk.tm n (Dk.tm n (d.next 2).2 g Af).2 g Am).1] (by simp;omega);(repeat' first|refine M.gw ?_|refine M.cb (hx2) [0] 0 ?_|refine M.cb (a1) [0] 0 ?_|refine M.cb (a2) [0] 0 ?_|refine M.c2 (v8) ?_|refine M.c2 (hs) ?_|refine M.c2 (hN) ?_|refine M.gs ?_ ?_<;>intro h|refine M.bl ?_|refine M.cs ?_ ?_<;>intro h|fail);all_goals first
    |exact absurd hp' (by simpa using h)
    |skip
   ·have e:=e.trans (if_pos (by simpa using h))
    (exact M.n2 [some 0] (h6:=(by(repeat'(first|exact trivial|refine And.intro ?_ ?_|refine⟨_,U,_,U,_,U,?_⟩|exact An.of_eq (by simp[Ao.Ax,e,nT])));done)) (h8:=(by simp[zj,V.wk,V.Ap,za,Ty.view,Tm.view,e,nT])))
   ·have e:=e.trans (if_neg (by simpa using h))
    (exact M.n2 [some 0] (h6:=(by(repeat'(first|exact trivial|refine And.intro ?_ ?_|refine⟨_,U,_,U,_,U,?_⟩|exact An.of_eq (by simp[Ao.Ax,e,nT])));done)) (h8:=(by simp[zj,V.wk,V.Ap,za,Ty.view,Tm.view,e,nT])))
  ·have hp':¬depth>0:=by omega
   have e:d.fin (Dk.tm n) (decide (2<=n)) g Am=(nT 7 [],d):=by simp[Dk.fin,Am,hp]
   (repeat' first|refine M.gw ?_|refine M.c2 (hN) ?_|refine M.gs ?_ ?_<;>intro h|refine M.bl ?_|fail);all_goals first
    |exact absurd hp' (by simpa using h)
    |skip
   (exact M.n2 [some 0] (h6:=(by(repeat'(first|exact trivial|refine And.intro ?_ ?_|refine⟨_,U,_,U,_,U,?_⟩|exact An.of_eq (by simp[Ao.Ax,e,nT])));done)) (h8:=(by simp[zj,V.wk,V.Ap,za,Ty.view,Tm.view,e,nT])))
 ·show AW _ _ _ (Code.seq _ _) _ _ _;have hN:=CJ 13 [] (by simp);have e:d.fin (Dk.tm n) (decide (2<=n)) g Hq=(nT 13 [],d):=by simp[Dk.fin,Hq]
  (repeat' first|refine M.gw ?_|refine M.c2 (hN) ?_|refine M.bl ?_|fail)
  (exact M.n2 [some 0] (h8:=(by simp[zj,V.wk,V.Ap,za,Ty.view,Tm.view,e,nT])))
 ·have hn0:n≠0:=fun h=>by have:=h0 h;rw[It] at this;omega
  have sa:=zx ha h1;have sb:=zx hb h2;have e:d.fin (Dk.tm n) (decide (2<=n)) g (Cy a b)=(nT 10 [(Dk.tm n d g a).1,(Dk.tm n (Dk.tm n d g a).2 g b).1],(Dk.tm n (Dk.tm n d g a).2 g b).2):=by simp[Dk.fin,Cy]
  have a1:=H d g a (depth-1) (by omega) hd hg sa (by omega) (fun _=>h1) (by omega);have a2:=H (Dk.tm n d g a).2 g b (depth-1) (by omega) (hok _ _ _ hd) hg sb (by omega) (fun _=>h2) (by omega);have f1:=hF (by omega) d a sa (fun _=>h1);have f2:=hF (by omega) (Dk.tm n d g a).2 b sb (fun _=>h2);have hs:=CJ 10 [(Dk.tm n d g a).1,(Dk.tm n (Dk.tm n d g a).2 g b).1] (by simp;omega);have l0:0<(Cy a b).args.length:=by simp[Cy]
  have l1:1<(Cy a b).args.length:=by simp[Cy]
  show AW _ _ _ (Code.seq _ _) _ _ _;(repeat' first|refine M.gw ?_|refine M.cb (a1) [0] 0 ?_|refine M.cb (a2) [0] 0 ?_|refine M.c2 (hs) ?_|refine M.bl ?_|fail)
  (exact M.n2 [some 0] (h8:=(by simp[zj,V.wk,V.Ap,za,Ty.view,Tm.view,e,nT])))
 ·have hn0:n≠0:=fun h=>by have:=h0 h;rw[vb] at this;omega
  have sa:=zx ha h1;have sb:=zx hb h2;have hga:=zp hg (zi sa zm);have e:d.fin (Dk.tm n) (decide (2<=n)) g (yy a b)=(BR a (Dk.tm n d (g++[a]) b).1,(Dk.tm n d (g++[a]) b).2):=by simp[Dk.fin,yy]
  have a1:=H d (g++[a]) b (depth-1) (by omega) hd hga sb (by omega) (fun _=>h2) (by simp;omega);have f1:=R4 hn d hga sb (by omega) (fun _=>h2);have hlo:=Ii g [a] (by simp;omega);have hs:=FM 2 a [(Dk.tm n d (g++[a]) b).1] (by simp;omega) (by omega);have l0:0<(yy a b).args.length:=by simp[yy]
  have l1:1<(yy a b).args.length:=by simp[yy]
  show AW _ _ _ (Code.seq _ _) _ _ _;(repeat' first|refine M.gw ?_|refine M.cb (a1) [0] 0 ?_|refine M.c2 (hlo) ?_|refine M.c2 (hs) ?_|refine M.bl ?_|fail)
  (exact M.n2 [some 0] (h8:=(by simp[zj,V.wk,V.Ap,za,Ty.view,Tm.view,e,BR])))
theorem Zs4(d:Dk):(xn (d.next 3).1).full<=6:=by
 obtain⟨m,hm,e⟩:=Nl d;rw[e,NS];omega
theorem Zt3{g:List Ty}(h:Al g):(g.map Ty.size).sum<=3*g.length:=by
 induction g with
 |nil=>simp
 |cons t l ih=>
  have h1:=(h t (by simp)).2;have h2:=ih fun x hx=>h x (by simp[hx]);simp only[List.map_cons,List.sum_cons,List.length_cons];omega
theorem Zol{g:List Ty}{t:Ty}(h:∀j,j<g.length->Gj g t j=false):Kp g t=none:=by
 simp only[Kp,List.find?_eq_none,List.mem_range];intro j hj;simp[h j hj]
theorem Zzp{g:List Ty}{t:Ty}{m:Nat}(hm:m<g.length)(h:∀j,j<m->Gj g t j=false)(h1:Gj g t m=true):Kp g t=some m:=by
 simp only[Kp,List.find?_range_eq_some,List.mem_range];exact⟨h1,hm,fun j hj=>by simp[h j hj]⟩
theorem Vz(n:Nat)(H:HT n)(hn:n<=7)(depth:Int)(hdep:depth=(n:Int)-1)(d:Dk)(hd:d.ok)(g:List Ty)(t:Ty)(hg:Al g)(ht:t.small)(h0:n=0->t.size=1)(hl:g.length+3*(n+1)<=10000):
 AW E Tryz.f29.ntmps 1 (Gy [1,1,1] (Mv Tryz.f29)) [(0,.ptr 0 0),(1,.s .ty g),(3,.i depth),(6,.ptr 1 0),(8,.ptr 2 0)]
  ⟨3,[(0,.var d.cells),(1,.var t.view),(2,.var [.i 0,.i 0,.i 0,.slice .nil (.t .ty []),.slice .nil (.t .tm [])])]⟩
  (Fh E 1 Tryz.f29.results.toList (.agg (d.mid (Dk.tm n) (decide (2<=n)) g t).1.view) ⟨1,[(0,.var (d.mid (Dk.tm n) (decide (2<=n)) g t).2.cells)]⟩):=by
 have hok:∀d g t,d.ok->(Dk.tm n d g t).2.ok:=fun d g t h=>Dk.CA n d g t h;by_cases hp:2<=n;case neg=>
  have hp':¬depth>0:=by omega
  have e:d.mid (Dk.tm n) (decide (2<=n)) g t=d.fin (Dk.tm n) (decide (2<=n)) g t:=by simp[Dk.mid,hp]
  show AW _ _ _ (Code.seq _ _) _ _ _;(repeat' first|refine M.go ?_|refine M.z1 29 ?_|refine M.cs ?_ ?_<;>intro h|refine M.gk ?_|fail)
  ·exact absurd (by simpa using h) hp'
  ·rw[e];exact AW.weak (M.W [some 0,some 1,some 2]) (Sd n H hn depth hdep d hd g t hg ht h0 hl)
 have hp':depth>0:=by omega
 have hx8:=uv d 8 hd (by omega);have e:=Dk.HB (rec:=Dk.tm n) (d:=d) (g:=g) (t:=t) (pos:=decide (2<=n)) (by simpa using hp);have hD:=Dk.AE hd 8;have tp:AC E 30 [.ptr 0 0,.i 0] ⟨1,[(0,.var (d.next 8).2.cells)]⟩ (.agg ((d.next 8).2.type 0).1.view) ⟨1,[(0,.var ((d.next 8).2.type 0).2.cells)]⟩:=Kr 0 0 (d.next 8).2 (by omega) (by omega) (by omega) hD;have hS:=Dk.type0 (d.next 8).2;have hD1:=Dk.Bw 0 _ hD;generalize (d.next 8).1=kk at*;generalize (d.next 8).2=W at*;generalize (W.type 0).1=S at*;generalize (W.type 0).2=D1 at*;have hSs:=zx hS.1 hS.2;have hF:∀d g t,Al g->t.small->(Dk.tm n d g t).1.full<=50000:=fun d g t hg ht=>R4 hn d hg ht (by omega) (by omega);have hH:∀d g t,d.ok->Al g->t.small->g.length+3*n<=10000->AC E 29 [.ptr 0 0,.s .ty g,.agg t.view,.i (depth-1)] ⟨1,[(0,.var d.cells)]⟩ (.agg (Dk.tm n d g t).1.view) ⟨1,[(0,.var (Dk.tm n d g t).2.cells)]⟩:=
  fun d g t h1 h2 h3 h4=>H d g t (depth-1) (by omega) h1 h2 h3 (by omega) (by omega) h4
 have hts:=ht.2;have ht1:t.size<1000000:=by omega
 have gS:=zp hg (zi hSs zm);have g2:=zp hg (zi zg (zi ht zm));have g3:=zp hg (zi zg (zi yw (zi ht zm)));show AW _ _ _ (Code.seq _ _) _ _ _;by_cases k0:kk=0
 ·subst k0;simp only[if_true] at e;have a:=hH D1 (g++[S]) t hD1 gS ht (by simp;omega);have b:=hH _ g S (hok _ (g++[S]) t hD1) hg hSs (by omega);have fa:=hF D1 (g++[S]) t gS ht;have fb:=hF (Dk.tm n D1 (g++[S]) t).2 g S hg hSs;have lo:=Ii g [S] (by simp;omega);have c1:=FM 2 S [(Dk.tm n D1 (g++[S]) t).1] (by simp;omega) (by omega);have c2:=CJ 3 [BR S (Dk.tm n D1 (g++[S]) t).1,(Dk.tm n (Dk.tm n D1 (g++[S]) t).2 g S).1] (by simp[BR,Tm.full,Tm.Au];omega);(repeat' first|refine M.go ?_|refine M.cb (hx8) [0] 0 ?_|refine M.cb (tp) [0] 0 ?_|refine M.cb (a) [0] 0 ?_|refine M.cb (b) [0] 0 ?_|refine M.c2 (lo) ?_|refine M.c2 (c1) ?_|refine M.c2 (c2) ?_|refine M.z1 29 ?_|refine M.bl ?_|refine M.cs ?_ ?_<;>intro h|refine M.gk ?_|fail)
  ·(exact M.n2 [some 0] (h6:=(by(repeat'(first|exact trivial|refine And.intro ?_ ?_|refine⟨_,U,_,U,_,U,?_⟩|exact An.of_eq (by simp[Ao.Ax,e,Dk.m0,AO])));done)) (h8:=(by simp[zj,V.wk,V.Ap,za,Ty.view,Tm.view,e,Dk.m0,AO])))
  ·exact absurd hp' (by simpa using h)
 rw[if_neg k0] at e;by_cases k1:kk=1
 ·subst k1;rw[if_pos rfl] at e;have a:=hH D1 g t hD1 hg ht (by omega);have b:=hH _ g S (hok _ g t hD1) hg hSs (by omega);have fa:=hF D1 g t hg ht;have fb:=hF (Dk.tm n D1 g t).2 g S hg hSs;have c1:=CJ 10 [(Dk.tm n D1 g t).1,(Dk.tm n (Dk.tm n D1 g t).2 g S).1] (by simp;omega);have c2:=CJ 11 [nT 10 [(Dk.tm n D1 g t).1,(Dk.tm n (Dk.tm n D1 g t).2 g S).1]] (by simp[nT,Tm.full,Tm.Au,Ty.size,Ty.sizes];omega);(repeat' first|refine M.go ?_|refine M.cb (hx8) [0] 0 ?_|refine M.cb (tp) [0] 0 ?_|refine M.cb (a) [0] 0 ?_|refine M.cb (b) [0] 0 ?_|refine M.c2 (c1) ?_|refine M.c2 (c2) ?_|refine M.z1 29 ?_|refine M.bl ?_|refine M.cs ?_ ?_<;>intro h|refine M.gk ?_|fail)
  ·(exact M.n2 [some 0] (h6:=(by(repeat'(first|exact trivial|refine And.intro ?_ ?_|refine⟨_,U,_,U,_,U,?_⟩|exact An.of_eq (by simp[Ao.Ax,e,Dk.m1,nT])));done)) (h8:=(by simp[zj,V.wk,V.Ap,za,Ty.view,Tm.view,e,Dk.m1,nT])))
  ·exact absurd hp' (by simpa using h)
 rw[if_neg k1] at e;by_cases k2:kk=2
 ·subst k2;rw[if_pos rfl] at e;have a:=hH W (g++[Af,t]) t hD g2 ht (by simp;omega);have b:=hH _ g t (hok _ (g++[Af,t]) t hD) hg ht (by omega);have hdb:=hok _ g t (hok _ (g++[Af,t]) t hD);have fa:=hF W (g++[Af,t]) t g2 ht;have fb:=hF (Dk.tm n W (g++[Af,t]) t).2 g t hg ht;have lo:=Ii g [Af,t] (by simp;omega);have nx:=uv _ 3 hdb (by omega);have nu:=GP ((Dk.tm n (Dk.tm n W (g++[Af,t]) t).2 g t).2.next 3).1;have fn:=Zs4 (Dk.tm n (Dk.tm n W (g++[Af,t]) t).2 g t).2;have en:Af.size=1:=rfl;have c1:=FM 2 t [(Dk.tm n W (g++[Af,t]) t).1] (by simp;omega) (by omega);have c2:=FM 2 Af [BR t (Dk.tm n W (g++[Af,t]) t).1] (by simp[BR,Tm.full,Tm.Au];omega) (by omega);have c3:=FM 6 t [(Dk.tm n (Dk.tm n W (g++[Af,t]) t).2 g t).1,BR Af (BR t (Dk.tm n W (g++[Af,t]) t).1),xn ((Dk.tm n (Dk.tm n W (g++[Af,t]) t).2 g t).2.next 3).1] (by simp[BR,Tm.full,Tm.Au];omega) (by omega);(repeat' first|refine M.go ?_|refine M.c2 (v8) ?_|refine M.cb (hx8) [0] 0 ?_|refine M.cb (a) [0] 0 ?_|refine M.cb (b) [0] 0 ?_|refine M.c2 (lo) ?_|refine M.cb (nx) [0] 0 ?_|refine M.c2 (nu) ?_|refine M.c2 (c1) ?_|refine M.c2 (c2) ?_|refine M.c2 (c3) ?_|refine M.z1 29 ?_|refine M.bl ?_|refine M.cs ?_ ?_<;>intro h|refine M.gk ?_|fail)
  ·(exact M.n2 [some 0] (h6:=(by(repeat'(first|exact trivial|refine And.intro ?_ ?_|refine⟨_,U,_,U,_,U,?_⟩|exact An.of_eq (by simp[Ao.Ax,e,Dk.m2,hT])));done)) (h8:=(by simp[zj,V.wk,V.Ap,za,Ty.view,Tm.view,e,Dk.m2,hT])))
  ·exact absurd hp' (by simpa using h)
 rw[if_neg k2] at e;by_cases k3:kk=3
 ·subst k3;rw[if_pos rfl] at e;have a:=hH W (g++[Af,Am,t]) t hD g3 ht (by simp;omega);have b:=hH _ g t (hok _ (g++[Af,Am,t]) t hD) hg ht (by omega);have c:=hH _ g Am (hok _ g t (hok _ (g++[Af,Am,t]) t hD)) hg yw (by omega);have fa:=hF W (g++[Af,Am,t]) t g3 ht;have fb:=hF (Dk.tm n W (g++[Af,Am,t]) t).2 g t hg ht;have fc:=hF (Dk.tm n (Dk.tm n W (g++[Af,Am,t]) t).2 g t).2 g Am hg yw;have lo:=Ii g [Af,Am,t] (by simp;omega);have en:Af.size=1:=rfl;have el:Am.size=1:=rfl;have c1:=FM 2 t [(Dk.tm n W (g++[Af,Am,t]) t).1] (by simp;omega) (by omega);have c2:=FM 2 Am [BR t (Dk.tm n W (g++[Af,Am,t]) t).1] (by simp[BR,Tm.full,Tm.Au];omega) (by omega);have c3:=FM 2 Af [BR Am (BR t (Dk.tm n W (g++[Af,Am,t]) t).1)] (by simp[BR,Tm.full,Tm.Au];omega) (by omega);have c4:=FM 9 t [(Dk.tm n (Dk.tm n W (g++[Af,Am,t]) t).2 g t).1,BR Af (BR Am (BR t (Dk.tm n W (g++[Af,Am,t]) t).1)),(Dk.tm n (Dk.tm n (Dk.tm n W (g++[Af,Am,t]) t).2 g t).2 g Am).1] (by simp[BR,Tm.full,Tm.Au];omega) (by omega);(repeat' first|refine M.go ?_|refine M.c2 (v8) ?_|refine M.c2 (Fe) ?_|refine M.cb (hx8) [0] 0 ?_|refine M.cb (a) [0] 0 ?_|refine M.cb (b) [0] 0 ?_|refine M.cb (c) [0] 0 ?_|refine M.c2 (lo) ?_|refine M.c2 (c1) ?_|refine M.c2 (c2) ?_|refine M.c2 (c3) ?_|refine M.c2 (c4) ?_|refine M.z1 29 ?_|refine M.bl ?_|refine M.cs ?_ ?_<;>intro h|refine M.gk ?_|fail)
  ·(exact M.n2 [some 0] (h6:=(by(repeat'(first|exact trivial|refine And.intro ?_ ?_|refine⟨_,U,_,U,_,U,?_⟩|exact An.of_eq (by simp[Ao.Ax,e,Dk.m3,hT])));done)) (h8:=(by simp[zj,V.wk,V.Ap,za,Ty.view,Tm.view,e,Dk.m3,hT])))
  ·exact absurd hp' (by simpa using h)
 rw[if_neg k3] at e;by_cases k4:kk=4
 ·subst k4;rw[if_pos rfl] at e;have a:=hH D1 g S hD1 hg hSs (by omega);have b:=hH _ g t (hok _ g S hD1) hg ht (by omega);have fa:=hF D1 g S hg hSs;have fb:=hF (Dk.tm n D1 g S).2 g t hg ht;have c1:=CJ 10 [(Dk.tm n D1 g S).1,(Dk.tm n (Dk.tm n D1 g S).2 g t).1] (by simp;omega);have c2:=CJ 12 [nT 10 [(Dk.tm n D1 g S).1,(Dk.tm n (Dk.tm n D1 g S).2 g t).1]] (by simp[nT,Tm.full,Tm.Au,Ty.size,Ty.sizes];omega);(repeat' first|refine M.go ?_|refine M.cb (hx8) [0] 0 ?_|refine M.cb (tp) [0] 0 ?_|refine M.cb (a) [0] 0 ?_|refine M.cb (b) [0] 0 ?_|refine M.c2 (c1) ?_|refine M.c2 (c2) ?_|refine M.z1 29 ?_|refine M.bl ?_|refine M.cs ?_ ?_<;>intro h|refine M.gk ?_|fail)
  ·(exact M.n2 [some 0] (h6:=(by(repeat'(first|exact trivial|refine And.intro ?_ ?_|refine⟨_,U,_,U,_,U,?_⟩|exact An.of_eq (by simp[Ao.Ax,e,Dk.m4,nT])));done)) (h8:=(by simp[zj,V.wk,V.Ap,za,Ty.view,Tm.view,e,Dk.m4,nT])))
  ·exact absurd hp' (by simpa using h)
 rw[if_neg k4] at e;by_cases k5:kk=5
 ·subst k5;rw[if_pos rfl] at e;(repeat' first|refine M.go ?_|refine M.cb (hx8) [0] 0 ?_|refine M.z1 29 ?_|refine M.bl ?_|refine M.cs ?_ ?_<;>intro h|refine M.gk ?_|fail);all_goals first
   |exact absurd hp' (by simpa using h)
   |skip
  refine AW.range g.length (fun m=>∀j,j<m->Gj g t j=false)
   (fun m=>([(0,.ptr 0 0),(1,.s .ty g),(3,.i depth),(6,.ptr 1 0),(8,.ptr 2 0),(176,.i g.length),(177,.i m)],⟨3,[(0,.var W.cells),(1,.var t.view),(2,.var [.i 0,.i 0,.i 0,.slice .nil (.t .ty []),.slice .nil (.t .tm [])])]⟩))
   (by omega) (fun m=>rfl) (fun m=>rfl) rfl (by intro j hj;omega) (M.W [some 0,some 1,some 2]) ?_ ?_
  ·intro m hm hP;have hm2:g.length-1-m<g.length:=by omega
   have hat:Bv g (g.length-1-m)=g[g.length-1-m]:=L6 hm2;have hgs:(g[g.length-1-m]).small:=hg _ (List.getElem_mem hm2);have hstep:∀b,Gj g t m=b->b=false->∀j,j<m+1->Gj g t j=false:=fun b hb hf j hj=>by
    by_cases hjm:j=m
    ·rw[hjm,hb,hf]
    ·exact hP j (by omega)
   have hfn:Gj g t m=((g[g.length-1-m]).kind==4&&decide (Bv (g[g.length-1-m]).args 1=t)):=by simp only[Gj,hat]
   by_cases hk4:(g[g.length-1-m]).kind=4
   ·obtain ⟨p,q,hpq⟩:=Ty.Ct hgs.1 (.inr hk4);have l0:0<(g[g.length-1-m]).args.length:=by rw[hpq];simp
    have l1:1<(g[g.length-1-m]).args.length:=by rw[hpq];simp
    have sm:=xr _ ((g[g.length-1-m]).args[1]) t (Nat.le_refl _) (by
     have h1:=zc Ty.size (List.getElem_mem l1);have h2:=(g[g.length-1-m]).size_eq;have h3:=hgs.2;omega)
    have ha1:Bv (g[g.length-1-m]).args 1=(g[g.length-1-m]).args[1]:=L6 l1;have ha0:Bv (g[g.length-1-m]).args 0=(g[g.length-1-m]).args[0]:=L6 l0;rw[ha1,beq_iff_eq.2 hk4,Bool.true_and] at hfn;have sm0:((g[g.length-1-m]).args[0]).small:=by
     have h1:=zc Ty.size (List.getElem_mem l0);have h2:=(g[g.length-1-m]).size_eq;have h3:=hgs.2;have h4:=hgs.1;rw[Ty.Ak,Bool.and_eq_true] at h4;exact⟨List.all_eq_true.1 h4.2 _ (List.getElem_mem l0),by omega⟩
    have a:=hH W g ((g[g.length-1-m]).args[0]) hD hg sm0 (by omega);have fa:=hF W g ((g[g.length-1-m]).args[0]) hg sm0;have vc:=Ex m;have c1:=CJ 3 [vT m,(Dk.tm n W g ((g[g.length-1-m]).args[0])).1] (by simp[vT,Tm.full,Tm.Au,Ty.size,Ty.sizes];omega);(repeat' first|refine M.go ?_|refine M.z1 29 ?_|refine M.gk ?_|fail);refine L.Dd (g.length-1-m) rfl rfl rfl rfl (by omega) rfl rfl hm2 ?_;(repeat' first|refine M.go ?_|refine M.c2 (sm) ?_|refine M.c2 (vc) ?_|refine M.cb (a) [0] 0 ?_|refine M.c2 (c1) ?_|refine M.gs ?_ ?_<;>intro h|refine M.z1 29 ?_|refine M.cs ?_ ?_<;>intro h|refine M.gk ?_|fail)
    ·have hf:Gj g t m=true:=hfn.trans h;have e2:W.m5 (Dk.tm n) (decide (2<=n)) g t=(AO (vT m) (Dk.tm n W g ((g[g.length-1-m]).args[0])).1,(Dk.tm n W g ((g[g.length-1-m]).args[0])).2):=by unfold Dk.m5;rw[Zzp hm hP hf];simp only[hat,ha0]
     rw[e2] at e
     (exact M.n2 [some 0] (h6:=(by(repeat'(first|exact trivial|refine And.intro ?_ ?_|refine⟨_,U,_,U,_,U,?_⟩|exact An.of_eq (by simp[Ao.Ax,e,AO,vT])));done)) (h8:=(by simp[zj,V.wk,V.Ap,za,Ty.view,Tm.view,e,AO,vT])))
    ·exact ⟨rfl,hstep _ hfn h,(M.W [some 0,some 1,some 2])⟩
    ·exact absurd hk4 (by simpa using h)
   ·repeat' (first|refine M.go ?_|refine M.z1 29 ?_|refine M.gk ?_|fail)
    refine L.Dd (g.length-1-m) rfl rfl rfl rfl (by omega) rfl rfl hm2 ?_;(repeat' first|refine M.go ?_|refine M.gs ?_ ?_<;>intro h|refine M.z1 29 ?_|refine M.gk ?_|fail)
    ·exact absurd (by simpa using h) hk4
    ·have hk4':((g[g.length-1-m]).kind==4)=false:=by simpa using hk4
     rw[hk4',Bool.false_and] at hfn;exact⟨rfl,hstep _ hfn rfl,(M.W [some 0,some 1,some 2])⟩
  ·intro hP;repeat'(first|with_reducible refine K.tN ?_|with_reducible refine K.bN ?_)
   have e2:W.m5 (Dk.tm n) (decide (2<=n)) g t=W.fin (Dk.tm n) (decide (2<=n)) g t:=by unfold Dk.m5;rw[Zol hP]
   rw[e,e2];exact AW.weak (M.W [some 0,some 1,some 2]) (Sd n H hn depth hdep W hD g t hg ht h0 hl)
 rw[if_neg k5] at e;have n0:(kk==0)=false:=by simpa using k0
 (repeat' first|refine M.go ?_|refine M.cb (hx8) [0] 0 ?_|refine M.z1 29 ?_|refine M.bl ?_|refine M.cs ?_ ?_<;>intro h|refine M.gk ?_|fail);all_goals first
  |exact absurd hp' (by simpa using h)
  |exact absurd (by simpa using h) k0
  |exact absurd (by simpa using h) k1
  |exact absurd (by simpa using h) k2
  |exact absurd (by simpa using h) k3
  |exact absurd (by simpa using h) k4
  |exact absurd (by simpa using h) k5
  |(rw[e];exact AW.weak (M.W [some 0,some 1,some 2]) (Sd n H hn depth hdep W hD g t hg ht h0 hl))
theorem Yl0(n:Nat)(H:HT n)(hn:n<=7)(depth:Int)(hdep:depth=(n:Int)-1)(d:Dk)(hd:d.ok)(g:List Ty)(t:Ty)(hg:Al g)(ht:t.small)(h0:n=0->t.size=1)(hl:g.length+3*(n+1)<=10000):
 AC E 29 [.ptr 0 0,.s .ty g,.agg t.view,.i depth] ⟨1,[(0,.var d.cells)]⟩ (.agg (d.gen (Dk.tm n) (decide (2<=n)) g t).1.view) ⟨1,[(0,.var (d.gen (Dk.tm n) (decide (2<=n)) g t).2.cells)]⟩:=by
 have hsum:=Zt3 hg;have hvl:(wh g t).length<=g.length:=by
  simp only[wh,List.length_map];have:=List.length_filter_le (fun i=>decide (g[g.length-1-i]? =some t)) (List.range g.length);simpa using this
 have hv:=Yhd g t (by omega);have hx3:=uv d 3 hd (by omega);have hd3:=Dk.AE hd 3;have hxl:=uv (d.next 3).2 (wh g t).length hd3 (by omega);have m1:=Vz n H hn depth hdep d hd g t hg ht h0 hl;have m2:=Vz n H hn depth hdep (d.next 3).2 hd3 g t hg ht h0 hl;have hvar:=Ex;by_cases he:wh g t=[]
 ·have e:d.gen (Dk.tm n) (decide (2<=n)) g t=d.mid (Dk.tm n) (decide (2<=n)) g t:=by unfold Dk.gen;rw[if_pos he]
  have hl0:¬(((wh g t).length:Int)>0):=by rw[he];simp
  refine M.F Tryz.func29 ?_;(repeat' first|refine M.go ?_|refine M.c2 (hv) ?_|refine M.cb (hx3) [0] 0 ?_|refine M.gs ?_ ?_<;>intro h|refine M.z1 4 ?_|refine M.cs ?_ ?_<;>intro h|refine M.gk ?_|fail)
  ·rename_i h1;exact absurd (by simpa using h1) hl0
  ·rename_i h1;exact absurd (by simpa using h1) hl0
  ·rw[e];exact AW.weak (M.W [some 0,some 1,some 2]) m1
 ·have e:d.gen (Dk.tm n) (decide (2<=n)) g t=if 0<(d.next 3).1 then(vT ((wh g t).getD ((d.next 3).2.next (wh g t).length).1.toNat 0),((d.next 3).2.next (wh g t).length).2) else(d.next 3).2.mid (Dk.tm n) (decide (2<=n)) g t:=by unfold Dk.gen;rw[if_neg he]
  have hlp:0<(wh g t).length:=List.length_pos_iff.2 he;have hl0:((wh g t).length:Int)>0:=by omega
  have hbl:=Dk.Bx (d.next 3).2 (wh g t).length hl0;have hlt:((d.next 3).2.next (wh g t).length).1.toNat<(wh g t).length:=by omega
  refine M.F Tryz.func29 ?_;(repeat' first|refine M.go ?_|refine M.c2 (hv) ?_|refine M.cb (hx3) [0] 0 ?_|refine M.cb (hxl) [0] 0 ?_|refine M.gs ?_ ?_<;>intro h|refine M.z1 4 ?_|refine M.cs ?_ ?_<;>intro h|refine M.gk ?_|fail)
  ·refine L.Dd ((d.next 3).2.next (wh g t).length).1.toNat rfl rfl rfl rfl (by omega) rfl rfl hlt ?_;have eg:(wh g t).getD ((d.next 3).2.next (wh g t).length).1.toNat 0=(wh g t)[((d.next 3).2.next (wh g t).length).1.toNat]:=by simp[List.getD_eq_getElem?_getD,hlt]
   rw[if_pos (by simpa using h),eg] at e;(repeat' first|refine M.gw ?_|refine M.c2 (hvar _) ?_|fail)
   (exact M.n2 [some 0] (h6:=(by(repeat'(first|exact trivial|refine And.intro ?_ ?_|refine⟨_,U,_,U,_,U,?_⟩|exact An.of_eq (by simp[Ao.Ax,e,vT])));done)) (h8:=(by simp[zj,V.wk,V.Ap,za,Ty.view,Tm.view,e,vT])))
  ·rw[e,if_neg (by simpa using h)];exact AW.weak (M.W [some 0,some 1,some 2]) m2
  ·exact absurd hl0 (by simpa using h)
theorem Ij:∀n,n<=8->HT n
 |0,_=>fun d g t k _ _ _ _ h=>by omega
 |n+1,hn=>fun d g t k hk hd hg ht _ h1 hl=>Yl0 n (Ij n (by omega)) (by omega) k (by omega) d hd g t hg ht (by omega) hl
theorem TH(g:List Ty)(t:Tm)(ht:t.full<137438953472)(hg:∀x∈g,x.err=0)(hl:g.length<100000):PC E 256 [.s .ty g,.agg t.view] (.Az [.agg (Em g t).1.view,.i (Em g t).2]):=by
 have h1:=vo t (by omega);have h2:t.err=0->_:=fun h=>Yer _ t g (Nat.le_refl _) (by omega) ((Tm.Ae t).1 h).1 hg (by omega);refine M.F Tryz.func256 ?_;(repeat' first|refine M.gw ?_|refine M.c2 (h1) ?_|refine M.c2 (h2 (by simpa using h)) ?_|refine M.cs ?_ ?_<;>intro h|fail)
 ·have h':t.err≠0:=by simpa using h
  simp[zj,V.wk,V.Ap,za,Ty.view,Em,h',BF]
 ·have h':t.err=0:=by simpa using h
  simp[zj,V.wk,V.Ap,za,Ty.view,Em,h']
theorem RY(g:List Ty)(t:Tm)(ht:t.full<137438953472)(hg:(g.map Ty.size).sum<1099511627776):PC E 243 [.s .ty g,.agg t.view] (.Az [.agg (y3 g t).1.view,.i (y3 g t).2]):=by
 have h1:=So g hg;have h2:xq g=0->_:=fun h=>TH g t ht (ug h).2 (by have:=(ug h).1;omega);refine M.F Tryz.func243 ?_;(repeat' first|refine M.gw ?_|refine M.c2 (h1) ?_|refine M.c2 (h2 (by simpa using h)) ?_|refine M.cs ?_ ?_<;>intro h|fail)
 ·have h':xq g≠0:=by simpa using h
  simp[zj,V.wk,V.Ap,za,Ty.view,y3,h',BF]
 ·have h':xq g=0:=by simpa using h
  simp[zj,V.wk,V.Ap,za,Ty.view,y3,h']
theorem VQ(x:Ty)(h:x.size<1099511627776):PC E 49 [.agg x.view,.agg x.view] (.bool true):=by
 have:=xr _ x x (Nat.le_refl _) h;simpa using this
theorem Yci(x:Tm)(h:x.full<1099511627776):PC E 116 [.agg x.view,.agg x.view] (.bool true):=by
 have:=RQ _ x x (Nat.le_refl _) h;simpa using this
theorem RN(d:Dk)(h:d.ok):AC E 30 [.ptr 0 0,.i 1] ⟨1,[(0,.var d.cells)]⟩ (.agg (d.type 1).1.view) ⟨1,[(0,.var (d.type 1).2.cells)]⟩:=Kr 1 1 d (by omega) (by omega) (by omega) h
end Go.Ab
namespace Go.Ab
open Go Go.Proofs
set_option maxRecDepth 100000
set_option maxHeartbeats 2000000
set_option linter.all false
theorem Q2{x:Ty}(h:x.err=0)(hk:x.kind=1):x=Af:=(Ty.eq_iff _ _).2 ⟨hk,L9 ((Ty.Ae x).1 h).1 (by omega)⟩
theorem Yc{x:Ty}(h:x.err=0)(hk:x.kind=2):x=Am:=(Ty.eq_iff _ _).2 ⟨hk,L9 ((Ty.Ae x).1 h).1 (by omega)⟩
end Go.Ab
namespace Go.Ab
open Go Go.Proofs
set_option maxRecDepth 100000
set_option maxHeartbeats 4000000
set_option linter.all false
theorem OB:∀(b:Nat) (t:Tm),t.full<=b->b<1099511627776->PC E 173 [.agg t.view] (.agg t.view):=by
 intro b;induction b with
 |zero=>intro t h;have:=t.Aa;omega
 |succ b ih=>
 intro t hsz hb;have hsz':=Tm.Ag t;have hlen:=zd Tm.full Tm.Aa t.args;have hty:=GB _ t.ty (Nat.le_refl _) (by omega);refine M.F Tryz.func173 ?_;(repeat' first|refine M.gw ?_|refine M.c2 (hty) ?_|fail);refine AW.range t.args.length (fun m=>True)
  (fun m=>([(1,.ptr 0 0),(2,.ptr 1 0),(3,.ptr 2 0),(15,.s .tm t.args),(16,.i t.args.length),(17,.i m)],⟨4,[(0,.var t.view),(1,.var [.i 0,.i 0,.i 0,.slice .nil (.t .ty []),.slice .nil (.t .tm [])]),(2,.var [.i t.kind,.i t.index,.i t.ty.kind,.s .ty t.ty.args,.slice (.own 3) (.t .tm (t.args.take m))]),(3,.row)]⟩))
  (by omega) (fun m=>rfl) (fun m=>rfl) rfl trivial (M.W [some 0,some 1,some 2,none]) ?_ ?_
 ·intro m hm hP;have hs2:=zc Tm.full (List.getElem_mem hm);(repeat' first|refine M.gw ?_|refine M.c2 (ih _ ?_ ?_) ?_|exact M.le|exact M.lt|fail);exact⟨rfl,trivial,(M.W [some 0,some 1,some 2,some 5] (he:=(by(repeat'(first|exact trivial|exact Or.inr ⟨_,U,rfl⟩|refine And.intro ?_ ?_|refine⟨_,U,_,U,_,U,?_⟩|exact An.refl _|exact An.of_eq (by simp[Ao.Ax,List.take_append_getElem])));done)))⟩
 ·intro hP;(repeat' first|refine M.gw ?_|fail);simp[zj,V.wk,V.Ap,za,Ty.view,Tm.view]
def VN(b:Tm)(l:List Ty):Tm:=l.foldr BR b
def dflS(t:Ty):Tm:=if t.err=0 then Df t else A0
theorem uq(k:Int):PC E 203 [.i k] (.bool (xp k)):=by
 refine M.F Tryz.func203 ?_;(repeat' first|refine M.gw ?_|refine M.gs ?_ ?_<;>intro h|fail);all_goals(simp_all[zj,V.wk,V.Ap,za,xp];try omega)
theorem Yah(f:Fm)(ht:f.ty.size<1099511627776):PC E 202 [.agg f.view] (.bool f.head):=by
 have h1:=PY f.ty;have h2:=QB f.ty ht;have hok:=Ty.EB f.ty;obtain⟨k,h,ts,fs⟩:=f;simp only[Fm.AL] at*;have hk:k=1\/k=2\/k=3\/k=4\/k=5\/k=6\/k=7\/(k≠1/\k≠2/\k≠3/\k≠4/\k≠5/\k≠6/\k≠7):=by omega
 rcases hk with rfl|rfl|rfl|rfl|rfl|rfl|rfl|hk
 ·cases hn:h.BI with
  |false=>
   rw[hn] at h1;refine M.F Tryz.func202 ?_;(repeat' first|refine M.gw ?_|refine M.c2 (h1) ?_|refine M.bl ?_|fail);simp[zj,V.wk,V.Ap,za,Fm.head,hn]
  |true=>
   rw[hn] at h1;refine M.F Tryz.func202 ?_;(repeat' first|refine M.gw ?_|refine M.c2 (h1) ?_|refine M.gs ?_ ?_<;>intro h|refine M.bl ?_|fail)
   ·have h':ts.length=2:=by simp at h;omega
    have e:((fs.length:Int)==0)=(fs.length==0):=by rw[Bool.eq_iff_iff];simp
    simp[zj,V.wk,V.Ap,za,Fm.head,hn,h',e]
   ·have h':¬ts.length=2:=by simp at h;omega
    simp[zj,V.wk,V.Ap,za,Fm.head,hn,h']
 all_goals first
  |(cases hn:h.BI with
    |false=>
     rw[hn] at h1;refine M.F Tryz.func202 ?_;(repeat' first|refine M.gw ?_|refine M.c2 (h1) ?_|refine M.bl ?_|refine M.cs ?_ ?_<;>intro h|fail);simp[zj,V.wk,V.Ap,za,Fm.head,hn];done
    |true=>
     rw[hn] at h1;refine M.F Tryz.func202 ?_;(repeat' first|refine M.gw ?_|refine M.c2 (h1) ?_|refine M.gs ?_ ?_<;>intro h|refine M.bl ?_|fail)
     ·have h':ts.length=0:=by simp at h;simp[h]
      have e:((fs.length:Int)==2)=(fs.length==2):=by rw[Bool.eq_iff_iff];simp;omega
      simp[zj,V.wk,V.Ap,za,Fm.head,hn,h',e]
     ·have h':¬ts.length=0:=by simp at h;simpa using h
      simp[zj,V.wk,V.Ap,za,Fm.head,hn,h'];done)
  |(by_cases hn:h.err=0
    ·rw[hn] at h2;refine M.F Tryz.func202 ?_;(repeat' first|refine M.gw ?_|refine M.c2 (h2) ?_|refine M.gs ?_ ?_<;>intro h|refine M.bl ?_|refine M.cs ?_ ?_<;>intro h|fail)
     ·have h':ts.length=0:=by simp at h;simp[h]
      have e:((fs.length:Int)==1)=(fs.length==1):=by rw[Bool.eq_iff_iff];simp;omega
      simp[zj,V.wk,V.Ap,za,Fm.head,hok,hn,h',e]
     ·have h':¬ts.length=0:=by simp at h;simpa using h
      simp[zj,V.wk,V.Ap,za,Fm.head,hok,hn,h'];done
    ·have hb:(h.err !=0)=true:=by simpa using hn
     refine M.F Tryz.func202 ?_;(repeat' first|refine M.gw ?_|refine M.c2 (h2) ?_|refine M.gs ?_ ?_<;>intro h|refine M.bl ?_|refine M.cs ?_ ?_<;>intro h|fail)
     ·simp[zj,V.wk,V.Ap,za,Fm.head,hok,hn]
     all_goals(exfalso;simp_all;done))
  |(refine M.F Tryz.func202 ?_
    (repeat' first|refine M.gw ?_|refine M.bl ?_|refine M.cs ?_ ?_<;>intro h|fail);all_goals first
     |(exfalso;simp_all;done)
     |(simp[zj,V.wk,V.Ap,za,Fm.head,hk];done))
theorem Zi9:∀(b:Nat) (f:Fm),f.full<=b->b<1099511627776->PC E 151 [.agg f.view] (.Az [.i f.nodes,.bool f.shape]):=by
 intro b;induction b with
 |zero=>intro f h;have:=f.Aa;omega
 |succ b ih=>
 intro f hsz hb;have hsz':=f.Ag;have hse:=f.size_eq;have hle:=f.Aj;have hlen:=zd Fm.full Fm.Aa f.args;have hlen2:=zd Tm.full Tm.Aa f.terms;have hsh:=f.Ak;have h1:=Yah f (by omega);cases hh:f.head with
 |false=>
  rw[hh] at h1 hsh;have e:f.shape=false:=by rw[hsh];rfl
  rw[show f.nodes=0 by simp[Fm.nodes,e],e];refine M.F Tryz.func151 ?_;(repeat' first|refine M.gw ?_|refine M.c2 (h1) ?_|fail)
  rfl
 |true=>
 rw[hh] at h1 hsh;refine M.F Tryz.func151 ?_;(repeat' first|refine M.gw ?_|refine M.c2 (h1) ?_|fail);refine AW.range f.terms.length (fun m=>∀j (hj:j<f.terms.length),j<m->(f.terms[j]).shape=true)
  (fun m=>([(1,.ptr 0 0),(4,.i (1+((f.terms.take m).map Tm.size).sum:Nat)),(17,.s .tm f.terms),(18,.i f.terms.length),(19,.i m)],⟨1,[(0,.var f.view)]⟩))
  (by omega) (fun m=>rfl) (fun m=>rfl) rfl (fun j hj h=>by omega) (M.W [some 0]) ?_ ?_
 ·intro m hm hP;have hs1:=yl Tm.size f.terms m hm;have hs2:=zc Tm.full (List.getElem_mem hm);have hs3:=zn Tm.size f.terms m;have hs4:=y0 (f:=Tm.size) (g:=Tm.full) f.terms fun x _=>x.Aj;have hs5:=f.terms[m].Aj;have hc:=Vx _ f.terms[m] (Nat.le_refl _) (by omega);cases hx:(f.terms[m]).shape with
  |false=>
   rw[show Jk f.terms[m]= .Az [.i 0,.bool false] by simp[Jk,Tm.nodes,hx]] at hc;have e:f.shape=false:=by rw[hsh,vh Tm.shape hm hx];rfl
   rw[show f.nodes=0 by simp[Fm.nodes,e],e];(repeat' first|refine M.gw ?_|refine M.c2 (hc) ?_|fail)
   rfl
  |true=>
   rw[show Jk f.terms[m]= .Az [.i f.terms[m].size,.bool true] by simp[Jk,Tm.nodes,hx]] at hc;(repeat' first|refine M.gw ?_|refine M.c2 (hc) ?_|fail);refine⟨rfl,yc (p:=fun t=>Tm.shape t=true) hm hP hx,?_⟩;simp only[hs1];exact(M.W [some 0] (hf:=(by(repeat'(first|exact trivial|refine And.intro ?_ ?_|refine⟨_,U,_,U,?_⟩|exact An.refl _|exact An.of_eq (by simp[Ao.Ax,Int.natCast_add,Int.add_assoc])));done)))
 ·intro hP;have hpt:=Fk Tm.shape f.terms fun j hj=>hP j hj hj;rw[hpt] at hsh;simp only[List.take_length];(repeat' first|refine M.gw ?_|fail);refine AW.range f.args.length (fun m=>∀j (hj:j<f.args.length),j<m->(f.args[j]).shape=true)
   (fun m=>([(1,.ptr 0 0),(4,.i (1+(f.terms.map Tm.size).sum+((f.args.take m).map Fm.size).sum:Nat)),(35,.s .fm f.args),(36,.i f.args.length),(37,.i m)],⟨1,[(0,.var f.view)]⟩))
   (by omega) (fun m=>rfl) (fun m=>rfl) rfl (fun j hj h=>by omega) (M.W [some 0]) ?_ ?_
  ·intro m hm hP;have hs0:=y0 (f:=Tm.size) (g:=Tm.full) f.terms fun x _=>x.Aj;have hs1:=yl Fm.size f.args m hm;have hs2:=zc Fm.full (List.getElem_mem hm);have hs3:=zn Fm.size f.args m;have hs4:=y0 (f:=Fm.size) (g:=Fm.full) f.args fun x _=>x.Aj;have hs5:=f.args[m].Aj;have hc:=ih f.args[m] (by omega) (by omega);cases hx:(f.args[m]).shape with
   |false=>
    rw[hx,show(f.args[m]).nodes=0 by simp[Fm.nodes,hx]] at hc;have e:f.shape=false:=by rw[hsh,vh Fm.shape hm hx];rfl
    rw[show f.nodes=0 by simp[Fm.nodes,e],e];(repeat' first|refine M.gw ?_|refine M.c2 (hc) ?_|fail)
    rfl
   |true=>
    rw[hx,show(f.args[m]).nodes=(f.args[m]).size by simp[Fm.nodes,hx]] at hc;(repeat' first|refine M.gw ?_|refine M.c2 (hc) ?_|fail);refine⟨rfl,yc (p:=fun t=>Fm.shape t=true) hm hP hx,?_⟩;simp only[hs1];exact(M.W [some 0] (hf:=(by(repeat'(first|exact trivial|refine And.intro ?_ ?_|refine⟨_,U,_,U,?_⟩|exact An.refl _|exact An.of_eq (by simp[Ao.Ax,Int.natCast_add,Int.add_assoc])));done)))
  ·intro hP;have hpa:=Fk Fm.shape f.args fun j hj=>hP j hj hj;rw[hpa] at hsh;have e:f.shape=true:=hsh;rw[show f.nodes=f.size by simp[Fm.nodes,e],e,hse];simp only[List.take_length];(repeat' first|refine M.gw ?_|fail)
   rfl
theorem Q9(f:Fm)(hf:f.full<1099511627776):PC E 90 [.agg f.view] (.Az [.i f.num,.i f.err]):=by
 have h1:=Zi9 _ f (Nat.le_refl _) hf;have hle:=f.Aj;cases hs:f.shape with
 |false=>
  have e:f.err=2:=by simp[Fm.err,hs]
  rw[hs,show f.nodes=0 by simp[Fm.nodes,hs]] at h1;rw[show f.num=0 by simp[Fm.num,e],e];refine M.F Tryz.func90 ?_;(repeat' first|refine M.gw ?_|refine M.c2 (h1) ?_|refine M.zb ?_|fail)
  rfl
 |true=>
  rw[hs,show f.nodes=f.size by simp[Fm.nodes,hs]] at h1;by_cases hz:f.size>4096
  ·have e:f.err=4:=by simp[Fm.err,hs,hz]
   rw[show f.num=0 by simp[Fm.num,e],e];refine M.F Tryz.func90 ?_;(repeat' first|refine M.gw ?_|refine M.c2 (h1) ?_|refine M.zb ?_|refine M.cs ?_ ?_<;>intro h|fail)
   ·rfl
   ·exfalso;simp at h;omega
  ·have e:f.err=0:=by simp[Fm.err,hs,hz]
   rw[show f.num=f.size by simp[Fm.num,e],e];refine M.F Tryz.func90 ?_;(repeat' first|refine M.gw ?_|refine M.c2 (h1) ?_|refine M.zb ?_|refine M.cs ?_ ?_<;>intro h|fail)
   ·exfalso;simp at h;omega
   ·rfl
end Go.Ab
