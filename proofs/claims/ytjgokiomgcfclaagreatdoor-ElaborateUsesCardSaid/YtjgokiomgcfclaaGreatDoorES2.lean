/- A part of the proofs of this seat. No conditions. -/
import Derived.Test.YtjgokiomgcfclaaGreatDoorES1
namespace Go.Ab
open Go Go.Proofs
set_option maxRecDepth 100000
set_option linter.all false
theorem JA(n:Int):PC E 7 [.i n] (.agg (wh n).view):=by
 have h1:=Zy3 n;refine M.F Tryz.func7 ?_;(repeat' first|refine M.gw ?_|refine M.c2 (h1) ?_|fail);simp[zk,V.wk,V.Ak,zd,Ty.view,Tm.view,wh]
theorem TP(d:Dk)(hd:d.ok):AC E 55 [.ptr 0 0] ⟨1,[(0,.var d.cells)]⟩ (.s .ty d.ctx.1) ⟨1,[(0,.var d.ctx.2.cells)]⟩:=by
 have h1:=vt d 4 hd (by omega);have hb:=Dk.Bb d 4 (by omega);obtain⟨c,hc⟩:∃c:Nat,(d.next 4).1=c:=⟨(d.next 4).1.toNat,by omega⟩;rw[hc] at h1 hb;have hx:d.ctx=(d.next 4).2.types c:=by simp only[Dk.ctx,hc];rfl
 refine M.F Tryz.func55 ?_;(repeat' first|refine M.gw ?_|refine M.cb (h1) [0] 0 ?_|fail);refine AW.down c (fun m=>m<=c)
  (fun m=>([(0,.ptr 0 0),(3,.slice (.own 1) (.t .ty ((d.next 4).2.types (c-m)).1)),(4,.i m)],⟨2,[(0,.var ((d.next 4).2.types (c-m)).2.cells),(1,.row)]⟩))
  (by omega) (fun m=>rfl) rfl (Nat.le_refl _) ?_ ?_ ?_
 ·simp only[Nat.sub_self];exact(M.W [some 0,none])
 ·intro m hm hP;have e:=Dk.C9 (c-(m+1)) (d.next 4).2;rw[show c-(m+1)+1=c-m by omega] at e;have h2:=J2 1 1 ((d.next 4).2.types (c-(m+1))).2 (by omega) (by omega) (by omega) (Dk.C6 _ _ (Dk.AA hd 4));have hl:=Dk.CN (c-(m+1)) (d.next 4).2;(repeat' first|refine M.gw ?_|refine M.cb (h2) [0] 0 ?_|fail);refine⟨rfl,by omega,?_⟩;simp only[e];exact(M.W [some 0,some 2])
 ·intro _;(repeat' first|refine M.gw ?_|fail)
  (exact M.n2 [some 0] (h6:=(by(repeat'(first|exact trivial|refine And.intro ?_ ?_|refine⟨_,U,_,U,_,U,?_⟩|exact An.of_eq (by simp[Al.Aw,hx])));done)) (h8:=(by simp[zk,V.wk,V.Ak,zd,Ty.view,Tm.view,hx])))
theorem OO(b f n:Tm)(h:b.full+f.full+n.full<549755813888):PC E 75 [.agg b.view,.agg f.view,.agg n.view] (.agg (Tm.mk 6 0 (.mk 1 []) [b,f,n]).view):=by
 have h1:=Fk 6 (.mk 1 []) [b,f,n] (by simp;omega) (by simp[Ty.size_eq]);refine M.F Tryz.func75 ?_;(repeat' first|refine M.gw ?_|refine M.c2 (vz) ?_|refine M.c2 (h1) ?_|fail);simp[zk,V.wk,V.Ak,zd,Ty.view,Tm.view]
theorem TO:PC E 28 [] (.agg BX.view):=by
 have h0:=DI 0;have h1:=DI 1;have h2:=Co 5 [vT 0] (by simp[Tm.full,Tm.Ap,Ty.size,Ty.sizes,vT]);have h3:=Gc (sT (vT 0)) (by simp[Tm.full,Tm.Ap,Ty.size,Ty.sizes,vT,sT]);have h4:=Gc (Cn (sT (vT 0))) (by simp[Tm.full,Tm.Ap,Ty.size,Ty.sizes,vT,sT,Cn]);have h5:=OO (vT 1) Hs (vT 0) (by simp[Tm.full,Tm.Ap,Ty.size,Ty.sizes,vT,sT,Cn,Hs]);have h6:=Gc (Ed (vT 1) Hs (vT 0)) (by simp[Tm.full,Tm.Ap,Ty.size,Ty.sizes,vT,sT,Cn,Hs,Ed]);have h7:=Gc (Cn (Ed (vT 1) Hs (vT 0))) (by simp[Tm.full,Tm.Ap,Ty.size,Ty.sizes,vT,sT,Cn,Hs,Ed]);refine M.F Tryz.func28 ?_;(repeat' first|refine M.gw ?_|refine M.c2 (h0) ?_|refine M.c2 (h1) ?_|refine M.c2 (h2) ?_|refine M.c2 (h3) ?_|refine M.c2 (h4) ?_|refine M.c2 (h5) ?_|refine M.c2 (h6) ?_|refine M.c2 (h7) ?_|fail)
 rfl
theorem Ygb:PC E 181 [] (.agg BS.view):=by
 have h0:=DI 0;have h1:=DI 1;have h2:=Co 4 [] (by simp);have h3:=Gc (vT 1) (by simp[Tm.full,Tm.Ap,Ty.size,Ty.sizes,vT,sT]);have h4:=Gc (Cn (vT 1)) (by simp[Tm.full,Tm.Ap,Ty.size,Ty.sizes,vT,sT,Cn]);have h5:=OO zT (Cn (Cn (vT 1))) (vT 0) (by simp[Tm.full,Tm.Ap,Ty.size,Ty.sizes,vT,zT,Cn,Hs]);have h6:=Gc (Ed zT (Cn (Cn (vT 1))) (vT 0)) (by simp[Tm.full,Tm.Ap,Ty.size,Ty.sizes,vT,zT,Cn,Hs,Ed]);refine M.F Tryz.func181 ?_;(repeat' first|refine M.gw ?_|refine M.c2 (h0) ?_|refine M.c2 (h1) ?_|refine M.c2 (h2) ?_|refine M.c2 (h3) ?_|refine M.c2 (h4) ?_|refine M.c2 (h5) ?_|refine M.c2 (h6) ?_|fail)
 rfl
theorem Yiq:PC E 112 [] (.agg Dt.view):=by
 have h0:=DI 0;have h1:=DI 1;have hp:=Ygb;have h2:=Co 3 [BS,vT 0] (by simp[Tm.full,Tm.Ap,Ty.size,Ty.sizes,vT,zT,Cn,BS,Ed]);have h3:=Gc (AP BS (vT 0)) (by simp[Tm.full,Tm.Ap,Ty.size,Ty.sizes,vT,zT,Cn,BS,Ed,AP]);have h4:=Gc (Cn (AP BS (vT 0))) (by simp[Tm.full,Tm.Ap,Ty.size,Ty.sizes,vT,zT,Cn,BS,Ed,AP]);have h5:=OO (vT 1) Ii (vT 0) (by simp[Tm.full,Tm.Ap,Ty.size,Ty.sizes,vT,zT,Cn,BS,Ed,AP,Ii]);have h6:=Gc (Ed (vT 1) Ii (vT 0)) (by simp[Tm.full,Tm.Ap,Ty.size,Ty.sizes,vT,zT,Cn,BS,Ed,AP,Ii]);have h7:=Gc (Cn (Ed (vT 1) Ii (vT 0))) (by simp[Tm.full,Tm.Ap,Ty.size,Ty.sizes,vT,zT,Cn,BS,Ed,AP,Ii]);refine M.F Tryz.func112 ?_;(repeat' first|refine M.gw ?_|refine M.c2 (h0) ?_|refine M.c2 (h1) ?_|refine M.c2 (hp) ?_|refine M.c2 (h2) ?_|refine M.c2 (h3) ?_|refine M.c2 (h4) ?_|refine M.c2 (h5) ?_|refine M.c2 (h6) ?_|refine M.c2 (h7) ?_|fail)
 rfl
theorem PX:∀(f:Tm) (l:List Tm),f.full+2*l.length+(l.map Tm.full).sum<274877906944->PC E 27 [.agg f.view,.s .tm l] (.agg (l.foldl AP f).view):=by
 intro f l hl;have hlen:=zh Tm.full Tm.Ac l;have hfull:∀m,m<=l.length->((l.take m).foldl AP f).full<=f.full+2*m+((l.take m).map Tm.full).sum:=by
  intro m;induction m with
  |zero=>intro _;simp
  |succ m ih=>
   intro hm;have h1:=ih (by omega);have h2:=yv Tm.full l m (by omega);rw[<-List.take_append_getElem (by omega:m<l.length),List.foldl_append,List.take_append_getElem (by omega:m<l.length),h2];simp only[List.foldl_cons,List.foldl_nil,AP,Tm.full,Tm.Ap,Ty.size,Ty.sizes];omega
 refine M.F Tryz.func27 ?_;(repeat' first|refine M.gw ?_|fail);refine AW.range l.length (fun m=>True)
  (fun m=>([(2,.ptr 0 0),(4,.ptr 1 0),(7,.s .tm l),(8,.i l.length),(9,.i m)],⟨2,[(0,.var ((l.take m).foldl AP f).view),(1,.var [.i 0,.i 0,.i 0,.slice .nil (.t .ty []),.slice .nil (.t .tm [])])]⟩))
  (by omega) (fun m=>rfl) (fun m=>rfl) rfl trivial (M.W [some 0,some 1]) ?_ ?_
 ·intro m hm hP;have e:(l.take (m+1)).foldl AP f=AP ((l.take m).foldl AP f) l[m]:=by rw[<-List.take_append_getElem hm,List.foldl_append];rfl
  have h2:=yc Tm.full l (m+1);have h3:=yv Tm.full l m hm;have h4:=hfull m (by omega);have h1:=Co 3 [(l.take m).foldl AP f,l[m]] (by simp only[List.map_cons,List.map_nil,List.sum_cons,List.sum_nil];omega);(repeat' first|refine M.gw ?_|refine M.c2 (h1) ?_|fail);refine⟨rfl,trivial,?_⟩;exact(M.W [some 0,some 1] (he:=(by(repeat'(first|exact trivial|refine And.intro ?_ ?_|refine⟨_,U,_,U,_,U,?_⟩|exact An.refl _|exact An.of_eq (by simp[Al.Aw,e,AP])));done)))
 ·intro _;(repeat' first|refine M.gw ?_|fail);simp[zk,V.wk,V.Ak,zd,Ty.view,Tm.view]
theorem Zn9(t:Tm)(fr by_:Int)(ht:t.full<274877906944):PC E 124 [.agg t.view,.i fr,.i by_] (.Ax [.agg (if yh t fr by_=0 then t.re (zn fr by_) 0 else va).view,.i (yh t fr by_)]):=by
 have h1:=Yc9 t (by omega);have h2:=Uu fr;have h3:=Uu by_;have h4:=ON t (by omega);have h5:t.err=0->t.near=true->(0<=by_/\by_<=4096)->_:=fun h hn hy=>Ui t fr by_ (by omega) ht (Vp h hn);refine M.F Tryz.func124 ?_;(repeat' first|refine M.gw ?_|refine M.c2 (h1) ?_|refine M.c2 (h2) ?_|refine M.c2 (h3) ?_|refine M.c2 (h4) ?_|refine M.c2 (h5 (by simp_all) (by simp_all) (by simp_all)) ?_|refine M.gs ?_ ?_<;>intro h|refine M.cs ?_ ?_<;>intro h|fail)
 ·have e':t.err≠0:=by simpa using h
  have e:yh t fr by_=t.err:=by simp only[yh];rw[if_pos e']
  simp[zk,V.wk,V.Ak,zd,Ty.view,Tm.view,e,va,e']
 ·rename_i h0;have e':¬t.err≠0:=by simpa using h0
  have e:yh t fr by_=1:=by simp only[yh];rw[if_neg e',if_pos (.inl (by intro hc;simp[hc] at h))]
  simp[zk,V.wk,V.Ak,zd,Ty.view,Tm.view,e,va]
 ·rename_i h0 h1;have e':¬t.err≠0:=by simpa using h0
  have e:yh t fr by_=1:=by simp only[yh];rw[if_neg e',if_pos (.inr (.inl (by intro hc;simp[hc] at h)))]
  simp[zk,V.wk,V.Ak,zd,Ty.view,Tm.view,e,va]
 ·rename_i h0 h1 h2;have e':¬t.err≠0:=by simpa using h0
  have e:yh t fr by_=1:=by simp only[yh];rw[if_neg e',if_pos (.inr (.inr (by simpa using h)))]
  simp[zk,V.wk,V.Ak,zd,Ty.view,Tm.view,e,va]
 ·rename_i h0 h1 h2;have e':¬t.err≠0:=by simpa using h0
  have e:yh t fr by_=0:=by
   simp only[yh];rw[if_neg e',if_neg];rintro(hc|hc|hc)
   ·simp at h1;omega
   ·simp at h2;omega
   ·simp[hc] at h
  simp[zk,V.wk,V.Ak,zd,Ty.view,Tm.view,e,va]
theorem Ygu(g:List Ty)(t:Ty)(hg:(g.map Ty.size).sum<1099511627776):PC E 111 [.s .ty g,.agg t.view] (.s .int (we g t)):=by
 have hlen:=zh Ty.size Ty.size_pos g;refine M.F Tryz.func111 ?_;(repeat' first|refine M.gw ?_|fail);refine AW.range g.length (fun m=>True)
  (fun m=>([(0,.s .ty g),(3,.ptr 0 0),(5,.slice (.own 1) (.t .int (((List.range m).filter fun i=>decide (g[g.length-1-i]? =some t)).map Int.ofNat))),(8,.i g.length),(9,.i m)],⟨2,[(0,.var t.view),(1,.row)]⟩))
  (by omega) (fun m=>rfl) (fun m=>rfl) rfl trivial (M.W [some 0,none]) ?_ ?_
 ·intro m hm hP;have hm2:g.length-1-m<g.length:=by omega
  have hs2:=ze Ty.size (List.getElem_mem hm2);have hsame:=y4 _ g[g.length-1-m] t (Nat.le_refl _) (by omega);have hg:g[g.length-1-m]? =some g[g.length-1-m]:=List.getElem?_eq_getElem hm2;have hfl:(List.filter (fun i=>decide (g[g.length-1-i]? =some t)) (List.range m)).length<=m:=by have:=List.length_filter_le (fun i=>decide (g[g.length-1-i]? =some t)) (List.range m);simpa using this
  (repeat' first|refine M.gw ?_|fail);refine L.B8 (g.length-1-m) rfl rfl rfl rfl (by omega) rfl rfl (by omega) ?_;(repeat' first|refine M.gw ?_|refine M.c2 (hsame) ?_|refine M.cs ?_ ?_<;>intro h|fail)
  ·exact ⟨rfl,trivial,(M.W [some 0,some 2] (hf:=(by(repeat'(first|exact trivial|refine And.intro ?_ ?_|refine⟨_,U,_,U,?_⟩|exact An.refl _|exact An.of_eq (by simp[Al.Aw,List.range_succ,hg,of_decide_eq_true h])));done)))⟩
  ·exact ⟨rfl,trivial,(M.W [some 0,some 1] (hf:=(by(repeat'(first|exact trivial|refine And.intro ?_ ?_|refine⟨_,U,_,U,?_⟩|exact An.refl _|exact An.of_eq (by simp[Al.Aw,List.range_succ,hg,of_decide_eq_false h])));done)))⟩
 ·intro _;(repeat' first|refine M.gw ?_|fail);simp[zk,V.wk,V.Ak]
  rfl
theorem Ztd:∀(b:Nat) (t:Ty),t.size<=b->b<1099511627776->PC E 211 [.agg t.view] (.bool t.shape):=by
 intro b;induction b with
 |zero=>intro t h;have:=t.size_pos;omega
 |succ b ih=>
 intro t hsz hb;have hsz':=Ty.size_eq t;have hlen:=zh Ty.size Ty.size_pos t.args;have hsh:=Ty.Ag t;refine M.F Tryz.func211 ?_;(repeat' first|refine M.gw ?_|fail);refine AW.KW (ι:={n:Nat // CS t.kind=some n}) (fun n=>([(1,.ptr 0 0),(3,.i n.1)],⟨1,[(0,.var t.view)]⟩)) ?_ ?_
 ·refine AW.block ?_;(repeat' first|refine M.gw ?_|refine M.cs ?_ ?_<;>intro h|fail)
  ·exact ⟨⟨0,by simp at h;simp[CS,h]⟩,(M.W [some 0])⟩
  ·exact ⟨⟨0,by simp at h;simp[CS,h]⟩,(M.W [some 0])⟩
  ·exact ⟨⟨0,by simp at h;simp[CS,h]⟩,(M.W [some 0])⟩
  ·exact ⟨⟨2,by simp at h;simp[CS,h]⟩,(M.W [some 0])⟩
  ·exact ⟨⟨2,by simp at h;simp[CS,h]⟩,(M.W [some 0])⟩
  ·have:t.shape=false:=by simp at*;simp[hsh,CS, *]
   simp[this,zk,zd,V.wk,V.Ak]
 rintro⟨n,hn⟩;(repeat' first|refine M.gw ?_|refine M.cs ?_ ?_<;>intro h|fail)
 ·have h1:¬t.args.length=n:=by simp at h;omega
  have:t.shape=false:=by simp[hsh,hn,h1]
  simp[this,zk,zd,V.wk,V.Ak]
 have hn':t.args.length=n:=by simp at h;omega
 refine AW.range t.args.length (fun m=>∀j (hj:j<t.args.length),j<m->(t.args[j]).shape=true)
  (fun m=>([(1,.ptr 0 0),(21,.s .ty t.args),(22,.i t.args.length),(23,.i m)],⟨1,[(0,.var t.view)]⟩))
  (by omega) (fun m=>rfl) (fun m=>rfl) rfl (by intro j hj h;omega) (M.W [some 0]) ?_ ?_
 ·intro m hm hP;have hs2:=ze Ty.size (List.getElem_mem hm);(repeat' first|refine M.gw ?_|refine M.c2 (ih _ ?_ ?_) ?_|refine M.cs ?_ ?_<;>intro h|exact M.le|exact M.lt|fail)
  ·have h1:(t.args[m]).shape=false:=by simpa using h
   have:t.shape=false:=by rw[hsh,ve Ty.shape hm h1,Bool.and_false]
   simp[this,zk,zd,V.wk,V.Ak]
  ·have hh:(t.args[m]).shape=true:=by simpa using h
   exact⟨rfl,z4 (p:=fun t=>Ty.shape t=true) hm hP hh,(M.W [some 0])⟩
 ·intro hP;have:t.shape=true:=by simp only[hsh,hn,hn',EA Ty.shape t.args fun j hj=>hP j hj hj];simp
  (repeat' first|refine M.gw ?_|fail);simp[this,zk,zd,V.wk,V.Ak]
theorem Zz2:∀(b:Nat) (t:Ty),t.size<=b->b<1099511627776->PC E 212 [.agg t.view] (.i t.size):=by
 intro b;induction b with
 |zero=>intro t h;have:=t.size_pos;omega
 |succ b ih=>
 intro t hsz hb;have hsz':=Ty.size_eq t;have hlen:=zh Ty.size Ty.size_pos t.args;refine M.F Tryz.func212 ?_;(repeat' first|refine M.gw ?_|fail);refine AW.range t.args.length (fun m=>True)
  (fun m=>([(3,.i (1+((t.args.take m).map Ty.size).sum)),(7,.s .ty t.args),(8,.i t.args.length),(9,.i m)],⟨1,[(0,.var t.view)]⟩))
  (by omega) (fun m=>rfl) (fun m=>rfl) rfl trivial (M.W [some 0]) ?_ ?_
 ·intro m hm hP;have hs1:=yv Ty.size t.args m hm;have hs2:=ze Ty.size (List.getElem_mem hm);have hs3:=yc Ty.size t.args (m+1);have e:(1+((((t.args.take (m+1)).map Ty.size).sum:Nat):Int))=1+(((t.args.take m).map Ty.size).sum:Nat)+t.args[m].size:=by rw[hs1];omega
  (repeat' first|refine M.gw ?_|refine M.c2 (ih _ ?_ ?_) ?_|exact M.le|exact M.lt|fail);refine⟨rfl,trivial,?_⟩;simp only[e];exact(M.W [some 0])
 ·intro hP;(repeat' first|refine M.gw ?_|fail);simp[zk,zd,hsz',V.wk,V.Ak]
theorem J4(t:Ty)(ht:t.size<1099511627776):PC E 141 [.agg t.view] (.i t.err):=by
 have h1:=Ztd _ t (Nat.le_refl _) ht;have h2:=Zz2 _ t (Nat.le_refl _) ht;refine M.F Tryz.func141 ?_;(repeat' first|refine M.gw ?_|refine M.c2 (h1) ?_|refine M.c2 (h2) ?_|refine M.cs ?_ ?_<;>intro h|fail);all_goals simp_all[zk,V.wk,V.Ak,zd,Ty.err]
 all_goals(first|omega|(split<;>first|omega|simp_all))
theorem QH(t:Ty):PC E 143 [.agg t.view] (.bool t.Bw):=by
 refine M.F Tryz.func143 ?_;(repeat' first|refine M.gw ?_|refine M.gs ?_ ?_<;>intro h|fail);all_goals simp_all[zk,V.wk,V.Ak,zd,Ty.Bw]
 rw[Bool.eq_iff_iff];simp
theorem Sc(t:Ty)(ht:t.size<1099511627776):PC E 279 [.agg t.view] (.Ax [.agg (if t.err=0 then t else AY).view,.i (if t.err=0 then 0 else 4)]):=by
 have h1:=J4 t ht;refine M.F Tryz.func279 ?_;(repeat' first|refine M.gw ?_|refine M.c2 (h1) ?_|refine M.cs ?_ ?_<;>intro h|fail);all_goals simp_all[zk,V.wk,V.Ak,zd,AY,Ty.view]
theorem OC(l:List Ty)(hl:(l.map Ty.size).sum<1099511627776):PC E 90 [.s .ty l] (.i (y1 l)):=by
 have hlen:=zh Ty.size Ty.size_pos l;refine M.F Tryz.func90 ?_;(repeat' first|refine M.gw ?_|refine M.cs ?_ ?_<;>intro h|fail)
 ·have h':l.length>16:=by simp at h;omega
  simp[zk,V.wk,V.Ak,zd,y1,h']
 have h':¬l.length>16:=by simp at h;omega
 refine AW.range l.length (fun m=>∀j (hj:j<l.length),j<m->l[j].err=0)
  (fun m=>([(9,.s .ty l),(10,.i l.length),(11,.i m)],⟨0,[]⟩))
  (by omega) (fun m=>rfl) (fun m=>rfl) rfl (by intro j hj h;omega) (M.W []) ?_ ?_
 ·intro m hm hP;have hs2:=ze Ty.size (List.getElem_mem hm);(repeat' first|refine M.gw ?_|refine M.c2 (J4 _ ?_) ?_|refine M.cs ?_ ?_<;>intro h|exact M.lt|fail)
  ·have h1:¬l[m].err=0:=by simpa using h
   simp[zk,V.wk,V.Ak,zd,y1,h',S8 l m hm hP h1]
  ·exact ⟨rfl,z4 (p:=fun t=>Ty.err t=0) hm hP (by simpa using h),(M.W [])⟩
 ·intro hP;(repeat' first|refine M.gw ?_|fail);simp[zk,V.wk,V.Ak,zd,y1,h',Qj l hP]
theorem Ygx(k:Int):PC E 213 [.i k] (.i (LF k)):=by
 refine M.F Tryz.func213 ?_;(repeat' first|refine M.gw ?_|refine M.bl ?_|refine M.cs ?_ ?_<;>intro h|fail);all_goals
  simp only[beq_iff_eq,beq_eq_false_iff_ne,ne_eq] at*;simp[zk,V.wk,V.Ak,zd,LF, *]
theorem yx:∀(b:Nat) (t:Tm),t.full<=b->b<1099511627776->PC E 118 [.agg t.view] (.i t.size):=by
 intro b;induction b with
 |zero=>intro t h;have:=t.Ac;omega
 |succ b ih=>
 intro t hsz hb;have hsz':=Tm.Af t;have hszz:=Tm.size_eq t;have hle:=Tm.Aj t;have hlen:=zh Tm.full Tm.Ac t.args;refine M.F Tryz.func118 ?_;(repeat' first|refine M.gw ?_|fail);refine AW.range t.args.length (fun m=>True)
  (fun m=>([(3,.i (1+((t.args.take m).map Tm.size).sum)),(7,.s .tm t.args),(8,.i t.args.length),(9,.i m)],⟨1,[(0,.var t.view)]⟩))
  (by omega) (fun m=>rfl) (fun m=>rfl) rfl trivial (M.W [some 0]) ?_ ?_
 ·intro m hm hP;have hs1:=yv Tm.size t.args m hm;have hs2:=ze Tm.full (List.getElem_mem hm);have hs3:=yc Tm.size t.args (m+1);have e:(1+((((t.args.take (m+1)).map Tm.size).sum:Nat):Int))=1+(((t.args.take m).map Tm.size).sum:Nat)+t.args[m].size:=by rw[hs1];omega
  (repeat' first|refine M.gw ?_|refine M.c2 (ih _ ?_ ?_) ?_|exact M.le|exact M.lt|fail);refine⟨rfl,trivial,?_⟩;simp only[e];exact(M.W [some 0])
 ·intro hP;(repeat' first|refine M.gw ?_|fail);simp[zk,zd,hszz,V.wk,V.Ak]
end Go.Ab
namespace Go.Ab
open Go Go.Proofs
set_option maxRecDepth 100000
set_option maxHeartbeats 4000000
set_option linter.all false
theorem Yan(k:Int):LF k=match Cq k with|some n=>(n:Int)|none=> -1:=by
 simp only[LF,Cq];(repeat' split)<;>simp_all<;>omega
theorem Tm.Eu(t:Tm):t.head=(!((t.args.length:Int) !=LF t.kind)&& !decide (t.index<0)&&(!(t.kind !=1)|| !(t.index !=0))&&(bif xz t.kind then !(t.ty.err !=0) else !(!t.ty.Bw))):=by
 simp only[Tm.head,Ty.DQ,Yan];cases hk:Cq t.kind with
 |none=>
  have:((t.args.length:Int) != -1)=true:=by simp
  simp[this]
 |some n=>
  have h1:(t.args.length==n)= !((t.args.length:Int) !=((n:Nat):Int)):=by rw[Bool.eq_iff_iff];simp;omega
  have h2:decide (0<=t.index)= !decide (t.index<0):=by rw[Bool.eq_iff_iff];simp
  simp only[h1,h2,bne];cases(t.index==0)<;>cases(t.kind==1)<;>simp
theorem Oy:∀(b:Nat) (t:Tm),t.full<=b->b<1099511627776->PC E 144 [.agg t.view] (.bool t.shape):=by
 intro b;induction b with
 |zero=>intro t h;have:=t.Ac;omega
 |succ b ih=>
 intro t hsz hb;have hsz':=Tm.Af t;have hlen:=zh Tm.full Tm.Ac t.args;have hsh:=Tm.Ag t;have h1:=Ygx t.kind;have h3:=QH t.ty;have h4:=J4 t.ty (by omega);refine M.F Tryz.func144 ?_;(repeat' first|refine M.gw ?_|refine M.c2 (h1) ?_|refine M.c2 (h3) ?_|refine M.c2 (h4) ?_|refine M.gs ?_ ?_<;>intro h|refine M.bl ?_|refine M.cs ?_ ?_<;>intro h|fail);all_goals first
  |(have hd:t.head=false:=by rw[t.Eu];simp_all[xz]
    have:t.shape=false:=by rw[hsh,hd,Bool.false_and]
    simp[this,zk,zd,V.wk,V.Ak];done)
  |(have hd:t.head=true:=by rw[t.Eu];simp_all[xz]
    refine AW.range t.args.length (fun m=>∀j (hj:j<t.args.length),j<m->(t.args[j]).shape=true)
     (fun m=>([(1,.ptr 0 0),(42,.s .tm t.args),(43,.i t.args.length),(44,.i m)],⟨1,[(0,.var t.view)]⟩))
     (by omega) (fun m=>rfl) (fun m=>rfl) rfl (by intro j hj h;omega) (M.W [some 0]) ?_ ?_
    ·intro m hm hP;have hs2:=ze Tm.full (List.getElem_mem hm);(repeat' first|refine M.gw ?_|refine M.c2 (ih _ ?_ ?_) ?_|refine M.cs ?_ ?_<;>intro h|exact M.le|exact M.lt|fail)
     ·have h1:(t.args[m]).shape=false:=by simpa using h
      have:t.shape=false:=by rw[hsh,ve Tm.shape hm h1,Bool.and_false]
      simp[this,zk,zd,V.wk,V.Ak]
     ·have hh:(t.args[m]).shape=true:=by simpa using h
      exact⟨rfl,z4 (p:=fun t=>Tm.shape t=true) hm hP hh,(M.W [some 0])⟩
    ·intro hP;have:t.shape=true:=by simp only[hsh,hd,EA Tm.shape t.args fun j hj=>hP j hj hj];simp
     (repeat' first|refine M.gw ?_|fail);simp[this,zk,zd,V.wk,V.Ak])
theorem vi(t:Tm)(ht:t.full<1099511627776):PC E 113 [.agg t.view] (.i t.err):=by
 have h1:=Oy _ t (Nat.le_refl _) ht;have h2:=yx _ t (Nat.le_refl _) ht;refine M.F Tryz.func113 ?_;(repeat' first|refine M.gw ?_|refine M.c2 (h1) ?_|refine M.c2 (h2) ?_|refine M.cs ?_ ?_<;>intro h|fail);all_goals simp_all[zk,V.wk,V.Ak,zd,Tm.err]
 all_goals(first|omega|(split<;>first|omega|simp_all))
end Go.Ab
namespace Go.Ab
open Go Go.Proofs
set_option maxRecDepth 100000
set_option maxHeartbeats 40000000
set_option linter.all false
theorem Yb9:∀(n:Nat) (t:Tm) (g:List Ty),t.full<=n->n<274877906944->t.shape=true->(∀x∈g,x.err=0)->g.length+n<274877906944->PC E 271 [.s .ty g,.agg t.view] (.Ax [.agg (t.inf g).1.view,.i (t.inf g).2]):=by
 intro n;induction n with
 |zero=>intro t g h;have:=t.Ac;omega
 |succ n ih=>
 intro t g hsz hb hsh hg hgn;have hsz':=Tm.Af t;have hlen:=zh Tm.full Tm.Ac t.args;have hix:=xo hsh;have hak:=F3 hsh;have hargs:=zg hsh;have hinf:=Tm.AJ g t;have e64:∀{x:Ty},x.err=0->x.size<=64:=fun h=>((Ty.Ad _).1 h).2;by_cases k1:t.kind=1
 ·rw[if_pos k1] at hinf;have hk:(t.kind==1)=true:=by simp[k1]
  refine M.F Tryz.func271 ?_;by_cases hlt:t.index>=g.length
  ·rw[if_pos hlt] at hinf;(repeat' first|refine M.gw ?_|refine M.cs ?_ ?_<;>intro h|fail);all_goals first|exfalso;simp_all;done|simp[zk,V.wk,V.Ak,zd,Ty.view,hinf,AY];done|exfalso;simp at*;omega
  ·rw[if_neg hlt] at hinf;have h0:g.length-1-t.index.toNat<g.length:=by omega
   have hcp:=x9 _ (g[g.length-1-t.index.toNat]) (Nat.le_refl _) (by have:=e64 (hg _ (List.getElem_mem h0));omega);rw[JJ h0] at hinf;(repeat' first|refine M.gw ?_|refine M.cs ?_ ?_<;>intro h|fail);all_goals first
    |(exfalso;simp_all;done)
    |(exfalso;simp at*;omega)
    |skip
   refine L.B8 (g.length-1-t.index.toNat) rfl rfl rfl rfl (by omega) rfl rfl h0 ?_;(repeat' first|refine M.gw ?_|refine M.c2 (hcp) ?_|fail);simp[zk,V.wk,V.Ak,zd,Ty.view,hinf]
 rw[if_neg k1] at hinf;by_cases k2:t.kind=2
 ·rw[if_pos k2] at hinf;have hl1:t.args.length=1:=by rw[k2] at hak;exact(Option.some.inj hak).symm
  have h0:0<t.args.length:=by omega
  have hte:t.ty.err=0:=Kg hsh (by rw[k2];rfl);have hs2:=ze Tm.full (List.getElem_mem h0);have hg':∀x∈g++[t.ty],x.err=0:=fun x hx=>by
   rcases List.mem_append.1 hx with hx|hx
   ·exact hg x hx
   ·simp at hx;subst hx;exact hte
  have hc:=ih t.args[0] (g++[t.ty]) (by omega) (by omega) (hargs _ (List.getElem_mem h0)) hg' (by simp;omega);have hgood:=Tm.Bv t.args[0] (g++[t.ty]) (hargs _ (List.getElem_mem h0)) hg';have hinfs:Tm.Ay (g++[t.ty]) t.args=if(t.args[0].inf (g++[t.ty])).2≠0 then([],(t.args[0].inf (g++[t.ty])).2) else([(t.args[0].inf (g++[t.ty])).1],0):=
   (congrArg (Tm.Ay (g++[t.ty])) (KS hl1)).trans (by simp only[Tm.Ay,ne_eq,not_true_eq_false,if_false])
  have hf:(t.args[0].inf (g++[t.ty])).2=0->_:=fun h=>Jh t.ty (t.args[0].inf (g++[t.ty])).1 (by have:=e64 hte;omega) (by have:=e64 (hgood h);omega);have ho:(t.args[0].inf (g++[t.ty])).2=0->_:=fun h=>Sc (yo t.ty (t.args[0].inf (g++[t.ty])).1) (by have:=e64 (hgood h);have:=e64 hte;simp only[yo,Ty.size,Ty.sizes];omega);refine M.F Tryz.func271 ?_;(repeat' first|refine M.gw ?_|refine M.c2 (hc) ?_|refine M.c2 (hf (by simp_all)) ?_|refine M.c2 (ho (by simp_all)) ?_|refine M.cs ?_ ?_<;>intro h|fail);all_goals first
   |(exfalso;simp_all;done)
   |skip
  ·have h':(t.args[0].inf (g++[t.ty])).2≠0:=by simpa using h
   rw[if_pos h'] at hinfs;rw[hinfs,if_pos h'] at hinf;simp[zk,V.wk,V.Ak,zd,Ty.view,hinf,AY]
  ·have h':¬(t.args[0].inf (g++[t.ty])).2≠0:=by simpa using h
   rw[if_neg h'] at hinfs;rw[hinfs] at hinf;have hinf':t.inf g=A9 (yo t.ty (t.args[0].inf (g++[t.ty])).1):=by rw[hinf];rfl
   rw[hinf'];by_cases he:(yo t.ty (t.args[0].inf (g++[t.ty])).1).err=0
   ·simp[zk,V.wk,V.Ak,zd,Ty.view,A9,he]
   ·simp[zk,V.wk,V.Ak,zd,Ty.view,A9,he]
 rw[if_neg k2] at hinf;refine M.F Tryz.func271 ?_;(repeat' first|refine M.gw ?_|refine M.cs ?_ ?_<;>intro h|fail);all_goals first
  |(exfalso;simp_all;done)
  |skip
 refine AW.range t.args.length (fun m=>∀j (hj:j<t.args.length),j<m->(t.args[j].inf g).2=0)
  (fun m=>([(0,.s .ty g),(3,.ptr 0 0),(4,.ptr 1 0),(8,.slice (.own 2) (.t .ty ((t.args.take m).map fun x=>(x.inf g).1))),(67,.s .tm t.args),(68,.i t.args.length),(69,.i m)],⟨3,[(0,.var t.view),(1,.var [.i 0,.slice .nil (.t .ty [])]),(2,.row)]⟩))
  (by omega) (fun m=>rfl) (fun m=>rfl) rfl (by intro j hj h;omega) (M.W [some 0,some 1,none]) ?_ ?_
 ·intro m hm hP;have hs2:=ze Tm.full (List.getElem_mem hm);have hc:=ih t.args[m] g (by omega) (by omega) (hargs _ (List.getElem_mem hm)) hg (by omega);(repeat' first|refine M.gw ?_|refine M.c2 (hc) ?_|refine M.cs ?_ ?_<;>intro h|fail)
  ·have h':(t.args[m].inf g).2≠0:=by simpa using h
   have h2:=Tm.Gk g t.args m hm hP h';rw[h2,if_pos h'] at hinf;simp[zk,V.wk,V.Ak,zd,Ty.view,hinf,AY]
  ·have h':(t.args[m].inf g).2=0:=by simpa using h
   refine⟨rfl,z4 (p:=fun x:Tm=>(x.inf g).2=0) hm hP h',?_⟩;exact(M.W [some 0,some 1,some 5] (hf:=(by(repeat'(first|exact trivial|refine And.intro ?_ ?_|refine⟨_,U,_,U,?_⟩|exact An.refl _|exact An.of_eq (by simp[Al.Aw,yn _ _ _ hm])));done)))
 ·intro hP;have hall:∀x∈t.args,(x.inf g).2=0:=fun x hx=>by
   obtain⟨j,hj,rfl⟩:=List.mem_iff_getElem.1 hx;exact hP j hj hj
  have h5:=Tm.DN g t.args hall;have hgood:∀x∈t.args.map (fun x=>(x.inf g).1),x.err=0:=fun x hx=>by
   obtain⟨y,hy,rfl⟩:=List.mem_map.1 hx;exact Tm.Bv y g (hargs y hy) hg (hall y hy)
  rw[h5] at hinf;simp only[ne_eq,not_true_eq_false,if_false] at hinf;have hLl:(t.args.map fun x=>(x.inf g).1).length=t.args.length:=by simp
  rw[show t.args.take t.args.length=t.args from List.take_length];generalize hL:t.args.map (fun x=>(x.inf g).1)=L at*;have hty:=Kg hsh;have hcpT:xz t.kind=true->_:=fun h=>x9 _ t.ty (Nat.le_refl _) (by have:=e64 (hty h);omega);clear hP hall h5 hargs hlen ih hsz' hix hsz;rw[<-hLl] at hak;rcases MG hak with⟨hn,hk⟩|⟨hn,hk⟩|⟨hn,hk⟩|⟨hn,hk⟩
  ·have hLL:=List.eq_nil_of_length_eq_zero hn;subst hLL;obtain⟨k,i,th,xs⟩:=t;simp only[Tm.Am,Tm.AD] at hk hinf;rcases hk with rfl|rfl|rfl|rfl
   ·exact absurd rfl k1
   all_goals
    (repeat' first|refine M.gw ?_|refine M.c2 (vz) ?_|refine M.c2 (uz) ?_|refine M.c2 (PT) ?_|refine M.bl ?_|fail);simp[zk,V.wk,V.Ak,zd,Ty.view,hinf,yk,Aa,Ah,Gg]
  ·obtain ⟨x,hLL⟩:=Ih hn;subst hLL;have hx:=hgood x (by simp);have hxn:=y4 _ x Aa (Nat.le_refl _) (by have:=e64 hx;omega);have hx2:x.kind=3->∃y z,x.args=[y,z]:=fun h=>Ty.BC ((Ty.Ad _).1 hx).1 (.inl h);obtain⟨k,i,th,xs⟩:=t;simp only[Tm.Am,Tm.AD] at hk hinf;rcases hk with rfl|rfl|rfl|rfl
   ·exact absurd rfl k2
   ·repeat' (first|refine M.gw ?_|refine M.c2 (vz) ?_|refine M.c2 (uz) ?_|refine M.c2 (hxn) ?_|refine M.bl ?_|refine M.cs ?_ ?_<;>intro h|fail)
    ·have h':¬x=Aa:=by simpa using h
     simp[zk,V.wk,V.Ak,zd,Ty.view,hinf,yk,h',AY]
    ·have h':x=Aa:=by simpa using h
     simp[zk,V.wk,V.Ak,zd,Ty.view,hinf,yk,h',Aa]
   all_goals
    by_cases hx3:x.kind=3
    ·obtain ⟨y,z,hyz⟩:=hx2 hx3;obtain⟨xk,xa⟩:=x;simp only[Ty.Am,Ty.Ae] at hx3 hyz;subst hx3;subst hyz;(repeat' first|refine M.gw ?_|refine M.c2 (vz) ?_|refine M.c2 (uz) ?_|refine M.bl ?_|fail);simp[zk,V.wk,V.Ak,zd,Ty.view,EC.view,hinf,yk]
    ·repeat' (first|refine M.gw ?_|refine M.c2 (vz) ?_|refine M.c2 (uz) ?_|refine M.bl ?_|refine M.cs ?_ ?_<;>intro h|fail)
     ·simp[zk,V.wk,V.Ak,zd,Ty.view,hinf,yk,hx3,AY]
     all_goals exact absurd (by simpa using h) hx3
  ·obtain ⟨x,y,hLL⟩:=IA hn;subst hLL;have hx:=hgood x (by simp);have hy:=hgood y (by simp);have ex:=e64 hx;have ey:=e64 hy;have hxn:=y4 _ x Aa (Nat.le_refl _) (by omega);have FQ:=y4 _ y Ah (Nat.le_refl _) (by omega);have hx2:x.kind=4->∃y z,x.args=[y,z]:=fun h=>Ty.BC ((Ty.Ad _).1 hx).1 (.inr h);obtain⟨k,i,th,xs⟩:=t;simp only[Tm.Am,Tm.AD] at hk hinf;rcases hk with rfl|rfl|rfl
   ·by_cases hx3:x.kind=4
    ·obtain ⟨a,b,hab⟩:=hx2 hx3;obtain⟨xk,xa⟩:=x;simp only[Ty.Am,Ty.Ae] at hx3 hab;subst hx3;subst hab;simp only[Ty.size,Ty.sizes] at ex;have hay:=y4 _ a y (Nat.le_refl _) (by omega);(repeat' first|refine M.gw ?_|refine M.c2 (vz) ?_|refine M.c2 (uz) ?_|refine M.c2 (hay) ?_|refine M.bl ?_|refine M.cs ?_ ?_<;>intro h|fail)
     ·have h':¬a=y:=by simpa using h
      simp[zk,V.wk,V.Ak,zd,Ty.view,hinf,yk,h',AY]
     ·have h':a=y:=by simpa using h
      simp[zk,V.wk,V.Ak,zd,Ty.view,EC.view,hinf,yk,h']
    ·repeat' (first|refine M.gw ?_|refine M.c2 (vz) ?_|refine M.c2 (uz) ?_|refine M.gs ?_ ?_<;>intro h|refine M.bl ?_|fail)
     ·simp[zk,V.wk,V.Ak,zd,Ty.view,hinf,yk,hx3,AY]
     ·exact absurd (by simpa using h) hx3
   ·clear hgood hLl hL hak hn hsh hcpT hty e64 hg hx2;(repeat' first|refine M.gw ?_|refine M.c2 (vz) ?_|refine M.c2 (uz) ?_|refine M.c2 (hxn) ?_|refine M.c2 (FQ) ?_|refine M.gs ?_ ?_<;>intro h|refine M.bl ?_|refine M.cs ?_ ?_<;>intro h|fail);all_goals
     clear hxn FQ;by_cases p1:x=Aa<;>by_cases p2:y=Ah<;>first|exfalso;simp[p1,p2] at*;done|simp[zk,V.wk,V.Ak,zd,Ty.view,EC.view,hinf,yk,p1,p2,AY];done|(simp[zk,V.wk,V.Ak,zd,Ty.view,EC.view,hinf,yk,p1,p2];rfl)|simp[zk,V.wk,V.Ak,zd,Ty.view,EC.view,hinf,yk,p1,p2,Ah];done
   ·have htw:=Ts x y (by omega) (by omega);have hok:=Sc (uu x y) (by simp only[uu,Ty.size,Ty.sizes];omega);(repeat' first|refine M.gw ?_|refine M.c2 (vz) ?_|refine M.c2 (uz) ?_|refine M.c2 (htw) ?_|refine M.c2 (hok) ?_|refine M.bl ?_|fail);by_cases he:(uu x y).err=0
    ·simp[zk,V.wk,V.Ak,zd,Ty.view,hinf,yk,A9,he]
    ·simp[zk,V.wk,V.Ak,zd,Ty.view,hinf,yk,A9,he]
  ·obtain ⟨x,y,z,hLL⟩:=ND hn;subst hLL;have hx:=e64 (hgood x (by simp));have hy:=e64 (hgood y (by simp));have hz:=e64 (hgood z (by simp));have ht:t.ty.size<=64:=e64 (hty (by rcases hk with hk|hk<;>rw[hk]<;>rfl));have hcp:=x9 _ t.ty (Nat.le_refl _) (by omega);have hs1:=y4 _ x t.ty (Nat.le_refl _) (by omega);have hf1:=Jh t.ty t.ty (by omega) (by omega);obtain⟨k,i,th,xs⟩:=t;simp only[Tm.Am,Tm.AD] at hk hinf ht hs1 hf1 hcp;rcases hk with rfl|rfl
   ·have hf2:=Jh Aa (yo th th) (by decide) (by simp only[yo,Ty.size,Ty.sizes];omega);have hs2:=y4 _ y (yo Aa (yo th th)) (Nat.le_refl _) (by omega);have hs3:=y4 _ z Aa (Nat.le_refl _) (by omega);clear hgood hLl hL hak hn hsh hcpT hty e64 hg;(repeat' first|refine M.gw ?_|refine M.c2 (vz) ?_|refine M.c2 (uz) ?_|refine M.c2 (hs1) ?_|refine M.c2 (hf1) ?_|refine M.c2 (hf2) ?_|refine M.c2 (hs2) ?_|refine M.c2 (hs3) ?_|refine M.c2 (hcp) ?_|refine M.gs ?_ ?_<;>intro h|refine M.bl ?_|refine M.cs ?_ ?_<;>intro h|fail);all_goals
     clear hs1 hf1 hcp hf2 hs2 hs3;by_cases p1:x=th<;>by_cases p2:y=yo Aa (yo th th)<;>by_cases p3:z=Aa<;>first|exfalso;simp[p1,p2,p3] at*;done|simp[zk,V.wk,V.Ak,zd,Ty.view,EC.view,hinf,yk,p1,p2,p3,AY];done
   ·have hf2:=Jh Ah (yo th th) (by decide) (by simp only[yo,Ty.size,Ty.sizes];omega);have hf3:=Jh Aa (yo Ah (yo th th)) (by decide) (by simp only[yo,Ah,Ty.size,Ty.sizes];omega);have hs2:=y4 _ y (yo Aa (yo Ah (yo th th))) (Nat.le_refl _) (by omega);have hs3:=y4 _ z Ah (Nat.le_refl _) (by omega);clear hgood hLl hL hak hn hsh hcpT hty e64 hg;(repeat' first|refine M.gw ?_|refine M.c2 (vz) ?_|refine M.c2 (uz) ?_|refine M.c2 (hs1) ?_|refine M.c2 (hf1) ?_|refine M.c2 (hf2) ?_|refine M.c2 (hf3) ?_|refine M.c2 (hs2) ?_|refine M.c2 (hs3) ?_|refine M.c2 (hcp) ?_|refine M.gs ?_ ?_<;>intro h|refine M.bl ?_|refine M.cs ?_ ?_<;>intro h|fail);all_goals
     clear hs1 hf1 hcp hf2 hs2 hs3;by_cases p1:x=th<;>by_cases p2:y=yo Aa (yo Ah (yo th th))<;>by_cases p3:z=Ah<;>first|exfalso;simp[p1,p2,p3] at*;done|simp[zk,V.wk,V.Ak,zd,Ty.view,EC.view,hinf,yk,p1,p2,p3,AY];done
end Go.Ab
namespace Go.Ab
open Go Go.Proofs
set_option maxRecDepth 100000
set_option maxHeartbeats 4000000
set_option linter.all false
def HT(n:Nat):Prop:=∀(d:Dk) (g:List Ty) (t:Ty) (k:Int),k=(n:Int)-2->d.ok->Ai g->t.small->1<=n->(n=1->t.size=1)->g.length+3*n<=10000->
 AC E 57 [.ptr 0 0,.s .ty g,.agg t.view,.i k] ⟨1,[(0,.var d.cells)]⟩ (.agg (Dk.tm n d g t).1.view) ⟨1,[(0,.var (Dk.tm n d g t).2.cells)]⟩
theorem O0{n:Nat}(hn:n<=7)(d:Dk){g:List Ty}{t:Ty}(hg:Ai g)(ht:t.small)(h1:1<=n)(h2:n=1->t.size=1):(Dk.tm n d g t).1.full<=50000:=by
 have:=(Dk.Cc n d g t hg ht h1 h2).full hg ht;have:3^n<=3^7:=Nat.pow_le_pow_right (by omega) hn;omega
abbrev F14:AF->AF:=id
theorem Rh(n:Nat)(H:HT n)(hn:n<=7)(depth:Int)(hdep:depth=(n:Int)-1)(d:Dk)(hd:d.ok)(g:List Ty)(t:Ty)(hg:Ai g)(ht:t.small)(h0:n=0->t.size=1)(hl:g.length+3*(n+1)<=10000):
 AW E Tryz.f57.ntmps 1 (FZ [1,1,1,1] (Ly Tryz.f57)) [(0,.ptr 0 0),(1,.s .ty g),(3,.i depth),(6,.ptr 1 0),(8,.ptr 2 0)]
  ⟨3,[(0,.var d.cells),(1,.var t.view),(2,.var [.i 0,.i 0,.i 0,.slice .nil (.t .ty []),.slice .nil (.t .tm [])])]⟩
  (EL E 1 Tryz.f57.results.toList (.agg (d.fin (Dk.tm n) (decide (2<=n)) g t).1.view) ⟨1,[(0,.var (d.fin (Dk.tm n) (decide (2<=n)) g t).2.cells)]⟩):=by
 have hF:1<=n->∀d,∀t,t.small->(n=1->t.size=1)->(Dk.tm n d g t).1.full<=50000:=fun h1 d t ht h2=>O0 hn d hg ht h1 h2;have hok:∀d g t,d.ok->(Dk.tm n d g t).2.ok:=fun d g t h=>Dk.B3 n d g t h;rcases OV ht with rfl|rfl|rfl|⟨a,b,ha,hb,h1,h2,rfl|rfl⟩
 ·show AW _ _ _ (Code.seq _ _) _ _ _;by_cases hp:2<=n
  ·have hp':depth>0:=by omega
   have e:d.fin (Dk.tm n) (decide (2<=n)) g Aa=if(d.next 5).1=0 then(sT (Dk.tm n (d.next 5).2 g Aa).1,(Dk.tm n (d.next 5).2 g Aa).2)
    else if(d.next 5).1=1 then(AP (AP BX (Dk.tm n (d.next 5).2 g Aa).1) (Dk.tm n (Dk.tm n (d.next 5).2 g Aa).2 g Aa).1,(Dk.tm n (Dk.tm n (d.next 5).2 g Aa).2 g Aa).2)
    else if(d.next 5).1=2 then(AP (AP Dt (Dk.tm n (d.next 5).2 g Aa).1) (Dk.tm n (Dk.tm n (d.next 5).2 g Aa).2 g Aa).1,(Dk.tm n (Dk.tm n (d.next 5).2 g Aa).2 g Aa).2)
    else(wh ((d.next 5).2.next 3).1,((d.next 5).2.next 3).2):=by simp[Dk.fin,Aa,hp]
   have hd5:=Dk.AA hd 5;have hx5:=vt d 5 hd (by omega);have hx3:=vt (d.next 5).2 3 hd5 (by omega);have a1:=H (d.next 5).2 g Aa (depth-1) (by omega) hd5 hg zi (by omega) (by omega) (by omega);have a2:=H (Dk.tm n (d.next 5).2 g Aa).2 g Aa (depth-1) (by omega) (hok _ _ _ hd5) hg zi (by omega) (by omega) (by omega);have f1:=hF (by omega) (d.next 5).2 Aa zi (by omega);have f2:=hF (by omega) (Dk.tm n (d.next 5).2 g Aa).2 Aa zi (by omega);have hs:=Co 5 [(Dk.tm n (d.next 5).2 g Aa).1] (by simp;omega);have p1:BX.full<=18:=by decide
   have p2:Dt.full<=36:=by decide
   have ap:=PX BX [(Dk.tm n (d.next 5).2 g Aa).1,(Dk.tm n (Dk.tm n (d.next 5).2 g Aa).2 g Aa).1] (by simp;omega);have asb:=PX Dt [(Dk.tm n (d.next 5).2 g Aa).1,(Dk.tm n (Dk.tm n (d.next 5).2 g Aa).2 g Aa).1] (by simp;omega);have hnum:=JA ((d.next 5).2.next 3).1;(repeat' first|refine M.gw ?_|refine M.cb (hx5) [0] 0 ?_|refine M.cb (hx3) [0] 0 ?_|refine M.cb (a1) [0] 0 ?_|refine M.cb (a2) [0] 0 ?_|refine M.c2 (TO) ?_|refine M.c2 (Yiq) ?_|refine M.c2 (ap) ?_|refine M.c2 (asb) ?_|refine M.c2 (hnum) ?_|refine M.c2 (hs) ?_|refine M.bl ?_|refine M.cs ?_ ?_<;>intro h|fail);all_goals first
    |exact absurd hp' (by simpa using h)
    |skip
   ·have e:=e.trans (if_pos (by simpa using h))
    (exact M.n2 [some 0] (h6:=(by(repeat'(first|exact trivial|refine And.intro ?_ ?_|refine⟨_,U,_,U,_,U,?_⟩|exact An.of_eq (by simp[Al.Aw,e,sT])));done)) (h8:=(by simp[zk,V.wk,V.Ak,zd,Ty.view,Tm.view,e,sT])))
   ·rename_i h0;have e:=e.trans ((if_neg (by simpa using h0)).trans (if_pos (by simpa using h)))
    (exact M.n2 [some 0] (h6:=(by(repeat'(first|exact trivial|refine And.intro ?_ ?_|refine⟨_,U,_,U,_,U,?_⟩|exact An.of_eq (by simp[Al.Aw,e,AP])));done)) (h8:=(by simp[zk,V.wk,V.Ak,zd,Ty.view,Tm.view,e,AP])))
   ·rename_i h0 h1;have e:=e.trans ((if_neg (by simpa using h0)).trans ((if_neg (by simpa using h1)).trans (if_pos (by simpa using h))))
    (exact M.n2 [some 0] (h6:=(by(repeat'(first|exact trivial|refine And.intro ?_ ?_|refine⟨_,U,_,U,_,U,?_⟩|exact An.of_eq (by simp[Al.Aw,e,AP])));done)) (h8:=(by simp[zk,V.wk,V.Ak,zd,Ty.view,Tm.view,e,AP])))
   ·rename_i h0 h1;have e:=e.trans ((if_neg (by simpa using h0)).trans ((if_neg (by simpa using h1)).trans (if_neg (by simpa using h))))
    (exact M.n2 [some 0] (h6:=(by(repeat'(first|exact trivial|refine And.intro ?_ ?_|refine⟨_,U,_,U,_,U,?_⟩|exact An.of_eq (by simp[Al.Aw,e])));done)) (h8:=(by simp[zk,V.wk,V.Ak,zd,Ty.view,Tm.view,e])))
  ·have hp':¬depth>0:=by omega
   have e:d.fin (Dk.tm n) (decide (2<=n)) g Aa=(wh (d.next 3).1,(d.next 3).2):=by simp[Dk.fin,Aa,hp]
   have hx3:=vt d 3 hd (by omega);have hnum:=JA (d.next 3).1;(repeat' first|refine M.gw ?_|refine M.cb (hx3) [0] 0 ?_|refine M.c2 (hnum) ?_|refine M.bl ?_|refine M.cs ?_ ?_<;>intro h|fail);all_goals first
    |exact absurd hp' (by simpa using h)
    |skip
   (exact M.n2 [some 0] (h6:=(by(repeat'(first|exact trivial|refine And.intro ?_ ?_|refine⟨_,U,_,U,_,U,?_⟩|exact An.of_eq (by simp[Al.Aw,e])));done)) (h8:=(by simp[zk,V.wk,V.Ak,zd,Ty.view,Tm.view,e])))
 ·show AW _ _ _ (Code.seq _ _) _ _ _;have hN:=Co 7 [] (by simp);by_cases hp:2<=n
  ·have hp':depth>0:=by omega
   have e:d.fin (Dk.tm n) (decide (2<=n)) g Ah=if(d.next 2).1=0 then(nT 8 [(Dk.tm n (d.next 2).2 g Aa).1,(Dk.tm n (Dk.tm n (d.next 2).2 g Aa).2 g Ah).1],(Dk.tm n (Dk.tm n (d.next 2).2 g Aa).2 g Ah).2) else(nT 7 [],(d.next 2).2):=by simp[Dk.fin,Ah,hp]
   have hd2:=Dk.AA hd 2;have hx2:=vt d 2 hd (by omega);have a1:=H (d.next 2).2 g Aa (depth-1) (by omega) hd2 hg zi (by omega) (by omega) (by omega);have a2:=H (Dk.tm n (d.next 2).2 g Aa).2 g Ah (depth-1) (by omega) (hok _ _ _ hd2) hg yy (by omega) (by omega) (by omega);have f1:=hF (by omega) (d.next 2).2 Aa zi (by omega);have f2:=hF (by omega) (Dk.tm n (d.next 2).2 g Aa).2 Ah yy (by omega);have hs:=Co 8 [(Dk.tm n (d.next 2).2 g Aa).1,(Dk.tm n (Dk.tm n (d.next 2).2 g Aa).2 g Ah).1] (by simp;omega);(repeat' first|refine M.gw ?_|refine M.cb (hx2) [0] 0 ?_|refine M.cb (a1) [0] 0 ?_|refine M.cb (a2) [0] 0 ?_|refine M.c2 (vz) ?_|refine M.c2 (hs) ?_|refine M.c2 (hN) ?_|refine M.gs ?_ ?_<;>intro h|refine M.bl ?_|refine M.cs ?_ ?_<;>intro h|fail);all_goals first
    |exact absurd hp' (by simpa using h)
    |skip
   ·have e:=e.trans (if_pos (by simpa using h))
    (exact M.n2 [some 0] (h6:=(by(repeat'(first|exact trivial|refine And.intro ?_ ?_|refine⟨_,U,_,U,_,U,?_⟩|exact An.of_eq (by simp[Al.Aw,e,nT])));done)) (h8:=(by simp[zk,V.wk,V.Ak,zd,Ty.view,Tm.view,e,nT])))
   ·have e:=e.trans (if_neg (by simpa using h))
    (exact M.n2 [some 0] (h6:=(by(repeat'(first|exact trivial|refine And.intro ?_ ?_|refine⟨_,U,_,U,_,U,?_⟩|exact An.of_eq (by simp[Al.Aw,e,nT])));done)) (h8:=(by simp[zk,V.wk,V.Ak,zd,Ty.view,Tm.view,e,nT])))
  ·have hp':¬depth>0:=by omega
   have e:d.fin (Dk.tm n) (decide (2<=n)) g Ah=(nT 7 [],d):=by simp[Dk.fin,Ah,hp]
   (repeat' first|refine M.gw ?_|refine M.c2 (hN) ?_|refine M.gs ?_ ?_<;>intro h|refine M.bl ?_|fail);all_goals first
    |exact absurd hp' (by simpa using h)
    |skip
   (exact M.n2 [some 0] (h6:=(by(repeat'(first|exact trivial|refine And.intro ?_ ?_|refine⟨_,U,_,U,_,U,?_⟩|exact An.of_eq (by simp[Al.Aw,e,nT])));done)) (h8:=(by simp[zk,V.wk,V.Ak,zd,Ty.view,Tm.view,e,nT])))
 ·show AW _ _ _ (Code.seq _ _) _ _ _;have hN:=Co 13 [] (by simp);have e:d.fin (Dk.tm n) (decide (2<=n)) g Gg=(nT 13 [],d):=by simp[Dk.fin,Gg]
  (repeat' first|refine M.gw ?_|refine M.c2 (hN) ?_|refine M.bl ?_|fail)
  (exact M.n2 [some 0] (h8:=(by simp[zk,V.wk,V.Ak,zd,Ty.view,Tm.view,e,nT])))
 ·have hn0:n≠0:=fun h=>by have:=h0 h;rw[HW] at this;omega
  have sa:=zy ha h1;have sb:=zy hb h2;have e:d.fin (Dk.tm n) (decide (2<=n)) g (uu a b)=(nT 10 [(Dk.tm n d g a).1,(Dk.tm n (Dk.tm n d g a).2 g b).1],(Dk.tm n (Dk.tm n d g a).2 g b).2):=by simp[Dk.fin,uu]
  have a1:=H d g a (depth-1) (by omega) hd hg sa (by omega) (fun _=>h1) (by omega);have a2:=H (Dk.tm n d g a).2 g b (depth-1) (by omega) (hok _ _ _ hd) hg sb (by omega) (fun _=>h2) (by omega);have f1:=hF (by omega) d a sa (fun _=>h1);have f2:=hF (by omega) (Dk.tm n d g a).2 b sb (fun _=>h2);have hs:=Co 10 [(Dk.tm n d g a).1,(Dk.tm n (Dk.tm n d g a).2 g b).1] (by simp;omega);have l0:0<(uu a b).args.length:=by simp[uu]
  have l1:1<(uu a b).args.length:=by simp[uu]
  show AW _ _ _ (Code.seq _ _) _ _ _;(repeat' first|refine M.gw ?_|refine M.cb (a1) [0] 0 ?_|refine M.cb (a2) [0] 0 ?_|refine M.c2 (hs) ?_|refine M.bl ?_|fail)
  (exact M.n2 [some 0] (h8:=(by simp[zk,V.wk,V.Ak,zd,Ty.view,Tm.view,e,nT])))
 ·have hn0:n≠0:=fun h=>by have:=h0 h;rw[vb] at this;omega
  have sa:=zy ha h1;have sb:=zy hb h2;have hga:=zp hg (zj sa zo);have e:d.fin (Dk.tm n) (decide (2<=n)) g (yo a b)=(BB a (Dk.tm n d (g++[a]) b).1,(Dk.tm n d (g++[a]) b).2):=by simp[Dk.fin,yo]
  have a1:=H d (g++[a]) b (depth-1) (by omega) hd hga sb (by omega) (fun _=>h2) (by simp;omega);have f1:=O0 hn d hga sb (by omega) (fun _=>h2);have hlo:=HA g [a] (by simp;omega);have hs:=Fk 2 a [(Dk.tm n d (g++[a]) b).1] (by simp;omega) (by omega);have l0:0<(yo a b).args.length:=by simp[yo]
  have l1:1<(yo a b).args.length:=by simp[yo]
  show AW _ _ _ (Code.seq _ _) _ _ _;(repeat' first|refine M.gw ?_|refine M.cb (a1) [0] 0 ?_|refine M.c2 (hlo) ?_|refine M.c2 (hs) ?_|refine M.bl ?_|fail)
  (exact M.n2 [some 0] (h8:=(by simp[zk,V.wk,V.Ak,zd,Ty.view,Tm.view,e,BB])))
theorem Zrj(d:Dk):(wh (d.next 3).1).full<=6:=by
 obtain⟨m,hm,e⟩:=Nz d;rw[e,MP];omega
theorem Zrb{g:List Ty}(h:Ai g):(g.map Ty.size).sum<=3*g.length:=by
 induction g with
 |nil=>simp
 |cons t l ih=>
  have h1:=(h t (by simp)).2;have h2:=ih fun x hx=>h x (by simp[hx]);simp only[List.map_cons,List.sum_cons,List.length_cons];omega
theorem Zn7{g:List Ty}{t:Ty}(h:∀j,j<g.length->FC g t j=false):JU g t=none:=by
 simp only[JU,List.find?_eq_none,List.mem_range];intro j hj;simp[h j hj]
theorem Zys{g:List Ty}{t:Ty}{m:Nat}(hm:m<g.length)(h:∀j,j<m->FC g t j=false)(h1:FC g t m=true):JU g t=some m:=by
 simp only[JU,List.find?_range_eq_some,List.mem_range];exact⟨h1,hm,fun j hj=>by simp[h j hj]⟩
theorem RZ(n:Nat)(H:HT n)(hn:n<=7)(depth:Int)(hdep:depth=(n:Int)-1)(d:Dk)(hd:d.ok)(g:List Ty)(t:Ty)(hg:Ai g)(ht:t.small)(h0:n=0->t.size=1)(hl:g.length+3*(n+1)<=10000):
 AW E Tryz.f57.ntmps 1 (FZ [1,1,1] (Ly Tryz.f57)) [(0,.ptr 0 0),(1,.s .ty g),(3,.i depth),(6,.ptr 1 0),(8,.ptr 2 0)]
  ⟨3,[(0,.var d.cells),(1,.var t.view),(2,.var [.i 0,.i 0,.i 0,.slice .nil (.t .ty []),.slice .nil (.t .tm [])])]⟩
  (EL E 1 Tryz.f57.results.toList (.agg (d.mid (Dk.tm n) (decide (2<=n)) g t).1.view) ⟨1,[(0,.var (d.mid (Dk.tm n) (decide (2<=n)) g t).2.cells)]⟩):=by
 have hok:∀d g t,d.ok->(Dk.tm n d g t).2.ok:=fun d g t h=>Dk.B3 n d g t h;by_cases hp:2<=n;case neg=>
  have hp':¬depth>0:=by omega
  have e:d.mid (Dk.tm n) (decide (2<=n)) g t=d.fin (Dk.tm n) (decide (2<=n)) g t:=by simp[Dk.mid,hp]
  show AW _ _ _ (Code.seq _ _) _ _ _;(repeat' first|refine M.go ?_|refine M.z1 29 ?_|refine M.cs ?_ ?_<;>intro h|refine M.gk ?_|fail)
  ·exact absurd (by simpa using h) hp'
  ·rw[e];exact AW.weak (M.W [some 0,some 1,some 2]) (Rh n H hn depth hdep d hd g t hg ht h0 hl)
 have hp':depth>0:=by omega
 have hx8:=vt d 8 hd (by omega);have e:=Dk.G7 (rec:=Dk.tm n) (d:=d) (g:=g) (t:=t) (pos:=decide (2<=n)) (by simpa using hp);have hD:=Dk.AA hd 8;have tp:AC E 56 [.ptr 0 0,.i 0] ⟨1,[(0,.var (d.next 8).2.cells)]⟩ (.agg ((d.next 8).2.type 0).1.view) ⟨1,[(0,.var ((d.next 8).2.type 0).2.cells)]⟩:=J2 0 0 (d.next 8).2 (by omega) (by omega) (by omega) hD;have hS:=Dk.type0 (d.next 8).2;have hD1:=Dk.Bd 0 _ hD;generalize (d.next 8).1=kk at*;generalize (d.next 8).2=W at*;generalize (W.type 0).1=S at*;generalize (W.type 0).2=D1 at*;have hSs:=zy hS.1 hS.2;have hF:∀d g t,Ai g->t.small->(Dk.tm n d g t).1.full<=50000:=fun d g t hg ht=>O0 hn d hg ht (by omega) (by omega);have hH:∀d g t,d.ok->Ai g->t.small->g.length+3*n<=10000->AC E 57 [.ptr 0 0,.s .ty g,.agg t.view,.i (depth-1)] ⟨1,[(0,.var d.cells)]⟩ (.agg (Dk.tm n d g t).1.view) ⟨1,[(0,.var (Dk.tm n d g t).2.cells)]⟩:=
  fun d g t h1 h2 h3 h4=>H d g t (depth-1) (by omega) h1 h2 h3 (by omega) (by omega) h4
 have hts:=ht.2;have ht1:t.size<1000000:=by omega
 have gS:=zp hg (zj hSs zo);have g2:=zp hg (zj zi (zj ht zo));have g3:=zp hg (zj zi (zj yy (zj ht zo)));show AW _ _ _ (Code.seq _ _) _ _ _;by_cases k0:kk=0
 ·subst k0;simp only[if_true] at e;have a:=hH D1 (g++[S]) t hD1 gS ht (by simp;omega);have b:=hH _ g S (hok _ (g++[S]) t hD1) hg hSs (by omega);have fa:=hF D1 (g++[S]) t gS ht;have fb:=hF (Dk.tm n D1 (g++[S]) t).2 g S hg hSs;have lo:=HA g [S] (by simp;omega);have c1:=Fk 2 S [(Dk.tm n D1 (g++[S]) t).1] (by simp;omega) (by omega);have c2:=Co 3 [BB S (Dk.tm n D1 (g++[S]) t).1,(Dk.tm n (Dk.tm n D1 (g++[S]) t).2 g S).1] (by simp[BB,Tm.full,Tm.Ap];omega);(repeat' first|refine M.go ?_|refine M.cb (hx8) [0] 0 ?_|refine M.cb (tp) [0] 0 ?_|refine M.cb (a) [0] 0 ?_|refine M.cb (b) [0] 0 ?_|refine M.c2 (lo) ?_|refine M.c2 (c1) ?_|refine M.c2 (c2) ?_|refine M.z1 29 ?_|refine M.bl ?_|refine M.cs ?_ ?_<;>intro h|refine M.gk ?_|fail)
  ·(exact M.n2 [some 0] (h6:=(by(repeat'(first|exact trivial|refine And.intro ?_ ?_|refine⟨_,U,_,U,_,U,?_⟩|exact An.of_eq (by simp[Al.Aw,e,Dk.m0,AP])));done)) (h8:=(by simp[zk,V.wk,V.Ak,zd,Ty.view,Tm.view,e,Dk.m0,AP])))
  ·exact absurd hp' (by simpa using h)
 rw[if_neg k0] at e;by_cases k1:kk=1
 ·subst k1;rw[if_pos rfl] at e;have a:=hH D1 g t hD1 hg ht (by omega);have b:=hH _ g S (hok _ g t hD1) hg hSs (by omega);have fa:=hF D1 g t hg ht;have fb:=hF (Dk.tm n D1 g t).2 g S hg hSs;have c1:=Co 10 [(Dk.tm n D1 g t).1,(Dk.tm n (Dk.tm n D1 g t).2 g S).1] (by simp;omega);have c2:=Co 11 [nT 10 [(Dk.tm n D1 g t).1,(Dk.tm n (Dk.tm n D1 g t).2 g S).1]] (by simp[nT,Tm.full,Tm.Ap,Ty.size,Ty.sizes];omega);(repeat' first|refine M.go ?_|refine M.cb (hx8) [0] 0 ?_|refine M.cb (tp) [0] 0 ?_|refine M.cb (a) [0] 0 ?_|refine M.cb (b) [0] 0 ?_|refine M.c2 (c1) ?_|refine M.c2 (c2) ?_|refine M.z1 29 ?_|refine M.bl ?_|refine M.cs ?_ ?_<;>intro h|refine M.gk ?_|fail)
  ·(exact M.n2 [some 0] (h6:=(by(repeat'(first|exact trivial|refine And.intro ?_ ?_|refine⟨_,U,_,U,_,U,?_⟩|exact An.of_eq (by simp[Al.Aw,e,Dk.m1,nT])));done)) (h8:=(by simp[zk,V.wk,V.Ak,zd,Ty.view,Tm.view,e,Dk.m1,nT])))
  ·exact absurd hp' (by simpa using h)
 rw[if_neg k1] at e;by_cases k2:kk=2
 ·subst k2;rw[if_pos rfl] at e;have a:=hH W (g++[Aa,t]) t hD g2 ht (by simp;omega);have b:=hH _ g t (hok _ (g++[Aa,t]) t hD) hg ht (by omega);have hdb:=hok _ g t (hok _ (g++[Aa,t]) t hD);have fa:=hF W (g++[Aa,t]) t g2 ht;have fb:=hF (Dk.tm n W (g++[Aa,t]) t).2 g t hg ht;have lo:=HA g [Aa,t] (by simp;omega);have nx:=vt _ 3 hdb (by omega);have nu:=JA ((Dk.tm n (Dk.tm n W (g++[Aa,t]) t).2 g t).2.next 3).1;have fn:=Zrj (Dk.tm n (Dk.tm n W (g++[Aa,t]) t).2 g t).2;have en:Aa.size=1:=rfl;have c1:=Fk 2 t [(Dk.tm n W (g++[Aa,t]) t).1] (by simp;omega) (by omega);have c2:=Fk 2 Aa [BB t (Dk.tm n W (g++[Aa,t]) t).1] (by simp[BB,Tm.full,Tm.Ap];omega) (by omega);have c3:=Fk 6 t [(Dk.tm n (Dk.tm n W (g++[Aa,t]) t).2 g t).1,BB Aa (BB t (Dk.tm n W (g++[Aa,t]) t).1),wh ((Dk.tm n (Dk.tm n W (g++[Aa,t]) t).2 g t).2.next 3).1] (by simp[BB,Tm.full,Tm.Ap];omega) (by omega);(repeat' first|refine M.go ?_|refine M.c2 (vz) ?_|refine M.cb (hx8) [0] 0 ?_|refine M.cb (a) [0] 0 ?_|refine M.cb (b) [0] 0 ?_|refine M.c2 (lo) ?_|refine M.cb (nx) [0] 0 ?_|refine M.c2 (nu) ?_|refine M.c2 (c1) ?_|refine M.c2 (c2) ?_|refine M.c2 (c3) ?_|refine M.z1 29 ?_|refine M.bl ?_|refine M.cs ?_ ?_<;>intro h|refine M.gk ?_|fail)
  ·(exact M.n2 [some 0] (h6:=(by(repeat'(first|exact trivial|refine And.intro ?_ ?_|refine⟨_,U,_,U,_,U,?_⟩|exact An.of_eq (by simp[Al.Aw,e,Dk.m2,hT])));done)) (h8:=(by simp[zk,V.wk,V.Ak,zd,Ty.view,Tm.view,e,Dk.m2,hT])))
  ·exact absurd hp' (by simpa using h)
 rw[if_neg k2] at e;by_cases k3:kk=3
 ·subst k3;rw[if_pos rfl] at e;have a:=hH W (g++[Aa,Ah,t]) t hD g3 ht (by simp;omega);have b:=hH _ g t (hok _ (g++[Aa,Ah,t]) t hD) hg ht (by omega);have c:=hH _ g Ah (hok _ g t (hok _ (g++[Aa,Ah,t]) t hD)) hg yy (by omega);have fa:=hF W (g++[Aa,Ah,t]) t g3 ht;have fb:=hF (Dk.tm n W (g++[Aa,Ah,t]) t).2 g t hg ht;have fc:=hF (Dk.tm n (Dk.tm n W (g++[Aa,Ah,t]) t).2 g t).2 g Ah hg yy;have lo:=HA g [Aa,Ah,t] (by simp;omega);have en:Aa.size=1:=rfl;have el:Ah.size=1:=rfl;have c1:=Fk 2 t [(Dk.tm n W (g++[Aa,Ah,t]) t).1] (by simp;omega) (by omega);have c2:=Fk 2 Ah [BB t (Dk.tm n W (g++[Aa,Ah,t]) t).1] (by simp[BB,Tm.full,Tm.Ap];omega) (by omega);have c3:=Fk 2 Aa [BB Ah (BB t (Dk.tm n W (g++[Aa,Ah,t]) t).1)] (by simp[BB,Tm.full,Tm.Ap];omega) (by omega);have c4:=Fk 9 t [(Dk.tm n (Dk.tm n W (g++[Aa,Ah,t]) t).2 g t).1,BB Aa (BB Ah (BB t (Dk.tm n W (g++[Aa,Ah,t]) t).1)),(Dk.tm n (Dk.tm n (Dk.tm n W (g++[Aa,Ah,t]) t).2 g t).2 g Ah).1] (by simp[BB,Tm.full,Tm.Ap];omega) (by omega);(repeat' first|refine M.go ?_|refine M.c2 (vz) ?_|refine M.c2 (uz) ?_|refine M.cb (hx8) [0] 0 ?_|refine M.cb (a) [0] 0 ?_|refine M.cb (b) [0] 0 ?_|refine M.cb (c) [0] 0 ?_|refine M.c2 (lo) ?_|refine M.c2 (c1) ?_|refine M.c2 (c2) ?_|refine M.c2 (c3) ?_|refine M.c2 (c4) ?_|refine M.z1 29 ?_|refine M.bl ?_|refine M.cs ?_ ?_<;>intro h|refine M.gk ?_|fail)
  ·(exact M.n2 [some 0] (h6:=(by(repeat'(first|exact trivial|refine And.intro ?_ ?_|refine⟨_,U,_,U,_,U,?_⟩|exact An.of_eq (by simp[Al.Aw,e,Dk.m3,hT])));done)) (h8:=(by simp[zk,V.wk,V.Ak,zd,Ty.view,Tm.view,e,Dk.m3,hT])))
  ·exact absurd hp' (by simpa using h)
 rw[if_neg k3] at e;by_cases k4:kk=4
 ·subst k4;rw[if_pos rfl] at e;have a:=hH D1 g S hD1 hg hSs (by omega);have b:=hH _ g t (hok _ g S hD1) hg ht (by omega);have fa:=hF D1 g S hg hSs;have fb:=hF (Dk.tm n D1 g S).2 g t hg ht;have c1:=Co 10 [(Dk.tm n D1 g S).1,(Dk.tm n (Dk.tm n D1 g S).2 g t).1] (by simp;omega);have c2:=Co 12 [nT 10 [(Dk.tm n D1 g S).1,(Dk.tm n (Dk.tm n D1 g S).2 g t).1]] (by simp[nT,Tm.full,Tm.Ap,Ty.size,Ty.sizes];omega);(repeat' first|refine M.go ?_|refine M.cb (hx8) [0] 0 ?_|refine M.cb (tp) [0] 0 ?_|refine M.cb (a) [0] 0 ?_|refine M.cb (b) [0] 0 ?_|refine M.c2 (c1) ?_|refine M.c2 (c2) ?_|refine M.z1 29 ?_|refine M.bl ?_|refine M.cs ?_ ?_<;>intro h|refine M.gk ?_|fail)
  ·(exact M.n2 [some 0] (h6:=(by(repeat'(first|exact trivial|refine And.intro ?_ ?_|refine⟨_,U,_,U,_,U,?_⟩|exact An.of_eq (by simp[Al.Aw,e,Dk.m4,nT])));done)) (h8:=(by simp[zk,V.wk,V.Ak,zd,Ty.view,Tm.view,e,Dk.m4,nT])))
  ·exact absurd hp' (by simpa using h)
 rw[if_neg k4] at e;by_cases k5:kk=5
 ·subst k5;rw[if_pos rfl] at e;(repeat' first|refine M.go ?_|refine M.cb (hx8) [0] 0 ?_|refine M.z1 29 ?_|refine M.bl ?_|refine M.cs ?_ ?_<;>intro h|refine M.gk ?_|fail);all_goals first
   |exact absurd hp' (by simpa using h)
   |skip
  refine AW.range g.length (fun m=>∀j,j<m->FC g t j=false)
   (fun m=>([(0,.ptr 0 0),(1,.s .ty g),(3,.i depth),(6,.ptr 1 0),(8,.ptr 2 0),(176,.i g.length),(177,.i m)],⟨3,[(0,.var W.cells),(1,.var t.view),(2,.var [.i 0,.i 0,.i 0,.slice .nil (.t .ty []),.slice .nil (.t .tm [])])]⟩))
   (by omega) (fun m=>rfl) (fun m=>rfl) rfl (by intro j hj;omega) (M.W [some 0,some 1,some 2]) ?_ ?_
  ·intro m hm hP;have hm2:g.length-1-m<g.length:=by omega
   have hat:Bj g (g.length-1-m)=g[g.length-1-m]:=JJ hm2;have hgs:(g[g.length-1-m]).small:=hg _ (List.getElem_mem hm2);have hstep:∀b,FC g t m=b->b=false->∀j,j<m+1->FC g t j=false:=fun b hb hf j hj=>by
    by_cases hjm:j=m
    ·rw[hjm,hb,hf]
    ·exact hP j (by omega)
   have hfn:FC g t m=((g[g.length-1-m]).kind==4&&decide (Bj (g[g.length-1-m]).args 1=t)):=by simp only[FC,hat]
   by_cases hk4:(g[g.length-1-m]).kind=4
   ·obtain ⟨p,q,hpq⟩:=Ty.BC hgs.1 (.inr hk4);have l0:0<(g[g.length-1-m]).args.length:=by rw[hpq];simp
    have l1:1<(g[g.length-1-m]).args.length:=by rw[hpq];simp
    have sm:=y4 _ ((g[g.length-1-m]).args[1]) t (Nat.le_refl _) (by
     have h1:=ze Ty.size (List.getElem_mem l1);have h2:=(g[g.length-1-m]).size_eq;have h3:=hgs.2;omega)
    have ha1:Bj (g[g.length-1-m]).args 1=(g[g.length-1-m]).args[1]:=JJ l1;have ha0:Bj (g[g.length-1-m]).args 0=(g[g.length-1-m]).args[0]:=JJ l0;rw[ha1,beq_iff_eq.2 hk4,Bool.true_and] at hfn;have sm0:((g[g.length-1-m]).args[0]).small:=by
     have h1:=ze Ty.size (List.getElem_mem l0);have h2:=(g[g.length-1-m]).size_eq;have h3:=hgs.2;have h4:=hgs.1;rw[Ty.Ag,Bool.and_eq_true] at h4;exact⟨List.all_eq_true.1 h4.2 _ (List.getElem_mem l0),by omega⟩
    have a:=hH W g ((g[g.length-1-m]).args[0]) hD hg sm0 (by omega);have fa:=hF W g ((g[g.length-1-m]).args[0]) hg sm0;have vc:=DI m;have c1:=Co 3 [vT m,(Dk.tm n W g ((g[g.length-1-m]).args[0])).1] (by simp[vT,Tm.full,Tm.Ap,Ty.size,Ty.sizes];omega);(repeat' first|refine M.go ?_|refine M.z1 29 ?_|refine M.gk ?_|fail);refine L.B8 (g.length-1-m) rfl rfl rfl rfl (by omega) rfl rfl hm2 ?_;(repeat' first|refine M.go ?_|refine M.c2 (sm) ?_|refine M.c2 (vc) ?_|refine M.cb (a) [0] 0 ?_|refine M.c2 (c1) ?_|refine M.gs ?_ ?_<;>intro h|refine M.z1 29 ?_|refine M.cs ?_ ?_<;>intro h|refine M.gk ?_|fail)
    ·have hf:FC g t m=true:=hfn.trans h;have e2:W.m5 (Dk.tm n) (decide (2<=n)) g t=(AP (vT m) (Dk.tm n W g ((g[g.length-1-m]).args[0])).1,(Dk.tm n W g ((g[g.length-1-m]).args[0])).2):=by unfold Dk.m5;rw[Zys hm hP hf];simp only[hat,ha0]
     rw[e2] at e
     (exact M.n2 [some 0] (h6:=(by(repeat'(first|exact trivial|refine And.intro ?_ ?_|refine⟨_,U,_,U,_,U,?_⟩|exact An.of_eq (by simp[Al.Aw,e,AP,vT])));done)) (h8:=(by simp[zk,V.wk,V.Ak,zd,Ty.view,Tm.view,e,AP,vT])))
    ·exact ⟨rfl,hstep _ hfn h,(M.W [some 0,some 1,some 2])⟩
    ·exact absurd hk4 (by simpa using h)
   ·repeat' (first|refine M.go ?_|refine M.z1 29 ?_|refine M.gk ?_|fail)
    refine L.B8 (g.length-1-m) rfl rfl rfl rfl (by omega) rfl rfl hm2 ?_;(repeat' first|refine M.go ?_|refine M.gs ?_ ?_<;>intro h|refine M.z1 29 ?_|refine M.gk ?_|fail)
    ·exact absurd (by simpa using h) hk4
    ·have hk4':((g[g.length-1-m]).kind==4)=false:=by simpa using hk4
     rw[hk4',Bool.false_and] at hfn;exact⟨rfl,hstep _ hfn rfl,(M.W [some 0,some 1,some 2])⟩
  ·intro hP;repeat'(first|with_reducible refine K.tN ?_|with_reducible refine K.bN ?_)
   have e2:W.m5 (Dk.tm n) (decide (2<=n)) g t=W.fin (Dk.tm n) (decide (2<=n)) g t:=by unfold Dk.m5;rw[Zn7 hP]
   rw[e,e2];exact AW.weak (M.W [some 0,some 1,some 2]) (Rh n H hn depth hdep W hD g t hg ht h0 hl)
 rw[if_neg k5] at e;have n0:(kk==0)=false:=by simpa using k0
 (repeat' first|refine M.go ?_|refine M.cb (hx8) [0] 0 ?_|refine M.z1 29 ?_|refine M.bl ?_|refine M.cs ?_ ?_<;>intro h|refine M.gk ?_|fail);all_goals first
  |exact absurd hp' (by simpa using h)
  |exact absurd (by simpa using h) k0
  |exact absurd (by simpa using h) k1
  |exact absurd (by simpa using h) k2
  |exact absurd (by simpa using h) k3
  |exact absurd (by simpa using h) k4
  |exact absurd (by simpa using h) k5
  |(rw[e];exact AW.weak (M.W [some 0,some 1,some 2]) (Rh n H hn depth hdep W hD g t hg ht h0 hl))
theorem Yit(n:Nat)(H:HT n)(hn:n<=7)(depth:Int)(hdep:depth=(n:Int)-1)(d:Dk)(hd:d.ok)(g:List Ty)(t:Ty)(hg:Ai g)(ht:t.small)(h0:n=0->t.size=1)(hl:g.length+3*(n+1)<=10000):
 AC E 57 [.ptr 0 0,.s .ty g,.agg t.view,.i depth] ⟨1,[(0,.var d.cells)]⟩ (.agg (d.gen (Dk.tm n) (decide (2<=n)) g t).1.view) ⟨1,[(0,.var (d.gen (Dk.tm n) (decide (2<=n)) g t).2.cells)]⟩:=by
 have hsum:=Zrb hg;have hvl:(we g t).length<=g.length:=by
  simp only[we,List.length_map];have:=List.length_filter_le (fun i=>decide (g[g.length-1-i]? =some t)) (List.range g.length);simpa using this
 have hv:=Ygu g t (by omega);have hx3:=vt d 3 hd (by omega);have hd3:=Dk.AA hd 3;have hxl:=vt (d.next 3).2 (we g t).length hd3 (by omega);have m1:=RZ n H hn depth hdep d hd g t hg ht h0 hl;have m2:=RZ n H hn depth hdep (d.next 3).2 hd3 g t hg ht h0 hl;have hvar:=DI;by_cases he:we g t=[]
 ·have e:d.gen (Dk.tm n) (decide (2<=n)) g t=d.mid (Dk.tm n) (decide (2<=n)) g t:=by unfold Dk.gen;rw[if_pos he]
  have hl0:¬(((we g t).length:Int)>0):=by rw[he];simp
  refine M.F Tryz.func57 ?_;(repeat' first|refine M.go ?_|refine M.c2 (hv) ?_|refine M.cb (hx3) [0] 0 ?_|refine M.gs ?_ ?_<;>intro h|refine M.z1 4 ?_|refine M.cs ?_ ?_<;>intro h|refine M.gk ?_|fail)
  ·rename_i h1;exact absurd (by simpa using h1) hl0
  ·rename_i h1;exact absurd (by simpa using h1) hl0
  ·rw[e];exact AW.weak (M.W [some 0,some 1,some 2]) m1
 ·have e:d.gen (Dk.tm n) (decide (2<=n)) g t=if 0<(d.next 3).1 then(vT ((we g t).getD ((d.next 3).2.next (we g t).length).1.toNat 0),((d.next 3).2.next (we g t).length).2) else(d.next 3).2.mid (Dk.tm n) (decide (2<=n)) g t:=by unfold Dk.gen;rw[if_neg he]
  have hlp:0<(we g t).length:=List.length_pos_iff.2 he;have hl0:((we g t).length:Int)>0:=by omega
  have hbl:=Dk.Bb (d.next 3).2 (we g t).length hl0;have hlt:((d.next 3).2.next (we g t).length).1.toNat<(we g t).length:=by omega
  refine M.F Tryz.func57 ?_;(repeat' first|refine M.go ?_|refine M.c2 (hv) ?_|refine M.cb (hx3) [0] 0 ?_|refine M.cb (hxl) [0] 0 ?_|refine M.gs ?_ ?_<;>intro h|refine M.z1 4 ?_|refine M.cs ?_ ?_<;>intro h|refine M.gk ?_|fail)
  ·refine L.B8 ((d.next 3).2.next (we g t).length).1.toNat rfl rfl rfl rfl (by omega) rfl rfl hlt ?_;have eg:(we g t).getD ((d.next 3).2.next (we g t).length).1.toNat 0=(we g t)[((d.next 3).2.next (we g t).length).1.toNat]:=by simp[List.getD_eq_getElem?_getD,hlt]
   rw[if_pos (by simpa using h),eg] at e;(repeat' first|refine M.gw ?_|refine M.c2 (hvar _) ?_|fail)
   (exact M.n2 [some 0] (h6:=(by(repeat'(first|exact trivial|refine And.intro ?_ ?_|refine⟨_,U,_,U,_,U,?_⟩|exact An.of_eq (by simp[Al.Aw,e,vT])));done)) (h8:=(by simp[zk,V.wk,V.Ak,zd,Ty.view,Tm.view,e,vT])))
  ·rw[e,if_neg (by simpa using h)];exact AW.weak (M.W [some 0,some 1,some 2]) m2
  ·exact absurd hl0 (by simpa using h)
theorem HF:∀n,n<=8->HT n
 |0,_=>fun d g t k _ _ _ _ h=>by omega
 |n+1,hn=>fun d g t k hk hd hg ht _ h1 hl=>Yit n (HF n (by omega)) (by omega) k (by omega) d hd g t hg ht (by omega) hl
theorem VV(g:List Ty)(t:Tm)(ht:t.full<137438953472)(hg:∀x∈g,x.err=0)(hl:g.length<100000):PC E 251 [.s .ty g,.agg t.view] (.Ax [.agg (Dr g t).1.view,.i (Dr g t).2]):=by
 have h1:=vi t (by omega);have h2:t.err=0->_:=fun h=>Yb9 _ t g (Nat.le_refl _) (by omega) ((Tm.Ad t).1 h).1 hg (by omega);refine M.F Tryz.func251 ?_;(repeat' first|refine M.gw ?_|refine M.c2 (h1) ?_|refine M.c2 (h2 (by simpa using h)) ?_|refine M.cs ?_ ?_<;>intro h|fail)
 ·have h':t.err≠0:=by simpa using h
  simp[zk,V.wk,V.Ak,zd,Ty.view,Dr,h',AY]
 ·have h':t.err=0:=by simpa using h
  simp[zk,V.wk,V.Ak,zd,Ty.view,Dr,h']
theorem Qv(g:List Ty)(t:Tm)(ht:t.full<137438953472)(hg:(g.map Ty.size).sum<1099511627776):PC E 218 [.s .ty g,.agg t.view] (.Ax [.agg (y3 g t).1.view,.i (y3 g t).2]):=by
 have h1:=OC g hg;have h2:y1 g=0->_:=fun h=>VV g t ht (vk h).2 (by have:=(vk h).1;omega);refine M.F Tryz.func218 ?_;(repeat' first|refine M.gw ?_|refine M.c2 (h1) ?_|refine M.c2 (h2 (by simpa using h)) ?_|refine M.cs ?_ ?_<;>intro h|fail)
 ·have h':y1 g≠0:=by simpa using h
  simp[zk,V.wk,V.Ak,zd,Ty.view,y3,h',AY]
 ·have h':y1 g=0:=by simpa using h
  simp[zk,V.wk,V.Ak,zd,Ty.view,y3,h']
theorem Zz8(x:Ty)(h:x.size<1099511627776):PC E 72 [.agg x.view,.agg x.view] (.bool true):=by
 have:=y4 _ x x (Nat.le_refl _) h;simpa using this
theorem Zzb(x:Tm)(h:x.full<1099511627776):PC E 50 [.agg x.view,.agg x.view] (.bool true):=by
 have:=K0 _ x x (Nat.le_refl _) h;simpa using this
theorem Oj(d:Dk)(h:d.ok):AC E 56 [.ptr 0 0,.i 1] ⟨1,[(0,.var d.cells)]⟩ (.agg (d.type 1).1.view) ⟨1,[(0,.var (d.type 1).2.cells)]⟩:=J2 1 1 d (by omega) (by omega) (by omega) h
end Go.Ab
