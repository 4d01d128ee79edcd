/- A part of this seat's proofs. No conditions. -/
import Derived.Test.YtmhcohcihajegaaGreatDoorHS19
import Derived.Test.YtmhcohcihajegaaGreatDoorHS20
import Derived.Test.YtmhcohcihajegaaGreatDoorHS23
namespace Go.Ab
open Go Go.Proofs
set_option maxRecDepth 100000
set_option linter.all false
def Zd4(b:Bool)(l:List (Int×Int)):Bool:=b&&l.all fun p=>decide (p.1<=536870912)
theorem Zou(b:Bool)(l l':List (Int×Int)):Zd4 (Zd4 b l) l'=Zd4 b (l++l'):=by simp[Zd4,Bool.and_assoc]
theorem Zn5(b:Bool):Zd4 b []=b:=by simp[Zd4]
theorem Ykz(b:Bool)(i bl:Int):AC E 177 [.i i,.i bl,.ptr 0 0] ⟨1,[(0,.var [.bool b])]⟩ (.tup []) ⟨1,[(0,.var [.bool (Zd4 b [(i,bl)])])]⟩:=by
 refine M.F Tryz.func177 ?_;(repeat' first|refine M.w0 ?_|refine M.gs ?_ ?_<;>intro h|fail)
 ·(exact M.n2 rh1 (h6:=(by(repeat'(first|exact trivial|refine And.intro ?_ ?_|refine⟨_,U,_,U,_,U,?_⟩|exact VLe.of_eq (by simp[Sto.upd,Zd4,h])));done)) (h8:=(by simp[zn,V.wk,V.wks,za,Ty.view,Tm.view,Zd4,h])))
 ·(exact M.n2 rh1 (h6:=(by(repeat'(first|exact trivial|refine And.intro ?_ ?_|refine⟨_,U,_,U,_,U,?_⟩|exact VLe.of_eq (by simp[Sto.upd,Zd4,h])));done)) (h8:=(by simp[zn,V.wk,V.wks,za,Ty.view,Tm.view,Zd4,h])))
theorem Zw4:∀(n:Nat) (t:Tm) (b:Bool) (bl:Int),t.full<=n->n<1099511627776->0<=bl->bl+n<1099511627776->AC E 129 [.agg t.view,.i bl,.ptr 0 0,.ptr 1 0] ⟨3,[(0,.var [.fn (.func 177) [] [.ptr 2 0]]),(1,.var [.fn (.func 129) [] [.ptr 0 0,.ptr 1 0]]),(2,.var [.bool b])]⟩ (.tup [])
 ⟨3,[(0,.var [.fn (.func 177) [] [.ptr 2 0]]),(1,.var [.fn (.func 129) [] [.ptr 0 0,.ptr 1 0]]),(2,.var [.bool (Zd4 b (t.vars bl))])]⟩:=by
 intro n;induction n with
 |zero=>intro t b bl h;have:=t.full_pos;omega
 |succ n ih=>
 intro t b bl hsz hb hbl hbn;have hsz':=Tm.full_eq t;have hlen:=zg Tm.full Tm.full_pos t.args;have hv:=Tm.vars_eq bl t;refine M.F Tryz.func129 ?_;(repeat' first|refine M.w0 ?_|refine M.cv (Ykz _ _ _) [2] 0 ?_|refine M.cs ?_ ?_<;>intro h|fail);all_goals
  have hup:up t.kind bl<=bl+1:=by simp only[up];split<;>omega
  have hup0:0<=up t.kind bl:=by simp only[up];split<;>omega
  refine M.rt t.args.length
   (fun m=>([(1,.i (up t.kind bl)),(3,.ptr 1 0),(22,.s .tm t.args),(23,.i t.args.length),(24,.i m)],⟨4,[(0,.var [.fn (.func 177) [] [.ptr 2 0]]),(1,.var [.fn (.func 129) [] [.ptr 0 0,.ptr 1 0]]),(2,.var [.bool (Zd4 b ((if t.kind=1 then [(t.index,bl)] else [])++(t.args.take m).flatMap (Tm.vars (up t.kind bl))))]),(3,.var t.view)]⟩))
   ?_ ?_ ?_
  ·simp_all only[beq_iff_eq,beq_eq_false_iff_ne,ne_eq];exact(M.W rh4 (hf:=(by(repeat'(first|exact trivial|refine And.intro ?_ ?_|refine⟨_,U,_,U,?_⟩|exact VLe.refl _|exact VLe.of_eq (by simp[Sto.upd,up, *,Zn5])));done)) (he:=(by(repeat'(first|exact trivial|refine And.intro ?_ ?_|refine⟨_,U,_,U,_,U,?_⟩|exact VLe.refl _|exact VLe.of_eq (by simp[Sto.upd,up, *,Zn5])));done)))
  ·intro m hm hP;have hs2:=zc Tm.full (List.getElem_mem hm);have hc:=ih t.args[m] (Zd4 b ((if t.kind=1 then [(t.index,bl)] else [])++(t.args.take m).flatMap (Tm.vars (up t.kind bl)))) (up t.kind bl) (by omega) (by omega) hup0 (by omega);(repeat' first|refine M.w0 ?_|refine M.cv (hc) [0,1,2] 0 ?_|fail);refine⟨rfl,trivial,?_⟩;exact(M.W rh4 (he:=(by(repeat'(first|exact trivial|refine And.intro ?_ ?_|refine⟨_,U,_,U,_,U,?_⟩|exact VLe.refl _|exact VLe.of_eq (by simp[Sto.upd,Zou,Zcx _ _ _ hm])));done)))
  ·intro hP;skip
   (exact M.n2 rh3 (h6:=(by(repeat'(first|exact trivial|refine And.intro ?_ ?_|refine⟨_,U,_,U,_,U,?_⟩|exact VLe.refl _|exact VLe.of_eq (by simp[Sto.upd,hv])));done)) (h8:=(by simp[zn,V.wk,V.wks,za,Ty.view,Tm.view,hv])))
theorem Yci(t:Tm)(b:Bool)(ht:t.full<1099511627776):AC E 81 [.agg t.view,.fn (.func 177) [] [.ptr 0 0]] ⟨1,[(0,.var [.bool b])]⟩ (.tup []) ⟨1,[(0,.var [.bool (Zd4 b (t.vars 0))])]⟩:=by
 have hc:=Zw4 _ t b 0 (Nat.le_refl _) (by omega) (by omega) (by omega);refine M.F Tryz.func81 ?_;(repeat' first|refine M.w0 ?_|refine M.cv (hc) [2,3,0] 0 ?_|fail)
 (exact M.n2 rh1 (h8:=(by simp[zn,V.wk,V.wks,za,Ty.view,Tm.view,Zd4])))
theorem Yfb(t:Tm)(ht:t.full<1099511627776):PC E 122 [.agg t.view] (.bool t.near):=by
 have hc:=Yci t true ht;refine M.F Tryz.func122 ?_;(repeat' first|refine M.w0 ?_|refine M.cb (hc) [1] 0 ?_|fail);simp[zn,V.wk,V.wks,Zd4,Tm.near]
end Go.Ab
namespace Go.Ab
open Go Go.Proofs
set_option maxRecDepth 100000
set_option maxHeartbeats 4000000
set_option linter.all false
theorem Yef(p:Pf):p.shape=true->p.small=true->InfC p:=by
 induction p using Pf.ind with
 |h p ih=>
  intro hs hm c hc;refine Zvw hc (Ydu hs hc) ?_;obtain⟨h1,h2,h3,h4⟩:=zo hs;obtain⟨m1,m2,m3⟩:=Zo6 hm;obtain⟨nd,n1,n2,n3,n4,n5,n6,n7,n8,n9⟩:=Ztt hs;have hA:∀a∈p.args,InfC a/\RsOk (yo a):=fun a ha=>⟨ih a ha (h4 a ha) (m3 a ha),Zl5 a (h4 a ha)⟩;have hT:∀t∈p.terms,t.full<=300000:=fun t ht=>Ybt (h2 t ht) (m1 t ht);have hF:∀f∈p.forms,f.full<=300000:=fun f hf=>Yec (h3 f hf) (m2 f hf);have hS:∀f∈p.forms,f.shape=true:=h3;have hk:p.kind=1\/p.kind=2\/p.kind=3\/p.kind=4\/p.kind=5\/p.kind=6\/p.kind=7\/p.kind=8\/p.kind=9\/p.kind=10\/p.kind=11\/p.kind=12\/p.kind=13\/p.kind=14\/p.kind=15\/p.kind=16\/p.kind=17\/p.kind=18\/p.kind=19\/p.kind=20:=by omega
  clear ih hs hm h1 h2 h3 h4 m1 m2 m3 n9;obtain⟨k,i,s,ts,fs,zs⟩:=p;simp only[Pf.kind,Pf.index,Pf.ty,Pf.terms,Pf.forms,Pf.args] at*;have hroom:c.tys.length+1<=16->∀s:Ty,s.err=0->(c.below [s]).ok:=fun h s hs=>hc.below (l:=[s]) h (by simpa using hs);rcases hk with rfl|rfl|rfl|rfl|rfl|rfl|rfl|rfl|rfl|rfl|rfl|rfl|rfl|rfl|rfl|rfl|rfl|rfl|rfl|rfl;all_goals(simp only[ndP,reduceIte,Int.reduceEq,or_false,false_or,or_true,true_or,Option.some.injEq] at n1)
  all_goals(subst n1)
  all_goals(simp only[forall_const,reduceCtorEq,false_implies,Bool.true_eq_false,Bool.false_eq_true] at n2 n3 n4 n6 n7 n8)
  all_goals(first|(obtain rfl:=ln0 n2)|(obtain⟨t,rfl⟩:=ln1 n2))
  all_goals(first|(obtain rfl:=ln0 n3)|(obtain⟨f,rfl⟩:=ln1 n3))
  all_goals(first|(obtain rfl:=ln0 n4)|(obtain⟨a,rfl⟩:=ln1 n4)|(obtain⟨a,b,rfl⟩:=ln2 n4))
  all_goals(try subst n6)
  all_goals(try subst n8)
  ·exact Ygf hc i n5
  ·exact Ygs hc i n5
  ·exact Yfw hc ((hA a (by simp)).1 c hc) ((hA b (by simp)).1 c hc) ((hA a (by simp)).2 c hc) ((hA b (by simp)).2 c hc)
  ·exact Zyp hc 0 (by omega) ((hA a (by simp)).1 c hc) ((hA a (by simp)).2 c hc)
  ·exact Zyp hc 1 (by omega) ((hA a (by simp)).1 c hc) ((hA a (by simp)).2 c hc)
  ·exact Ydg hc (hF f (by simp)) (fun t0 r0=>(hA a (by simp)).1 _ (hc.with_ (v7 r0).2 (wy t0).1 (wy t0).2))
    (fun t0 r0=>by
     have ho:=hc.with_ (v7 r0).2 (wy t0).1 (wy t0).2;exact(Zvy ho ((hA a (by simp)).2 _ ho)).1)
  ·exact Ydx hc ((hA a (by simp)).1 c hc) ((hA b (by simp)).1 c hc) ((hA a (by simp)).2 c hc) ((hA b (by simp)).2 c hc)
  ·exact Ydj (Yfg hc (.inl rfl) n7 (fun r0=>(hA a (by simp)).1 _ (hroom (v7 r0).1 s n7)) (fun r0=>Zvy (hroom (v7 r0).1 s n7) ((hA a (by simp)).2 _ (hroom (v7 r0).1 s n7))))
  ·exact Yh0 (Yi5 hc (.inl rfl) (hT t (by simp)) ((hA a (by simp)).1 c hc) ((hA a (by simp)).2 c hc))
  ·exact Ydn (Yjd (r0:=yo a) hc (.inl rfl) (hF f (by simp)) (hT t (by simp)) (Ze4 hc (by have:=Zoj f;have:=hF f (by simp);omega) (hT t (by simp)) ((hA a (by simp)).1 c hc) ((hA a (by simp)).2 c hc)) (ug (hA a (by simp)).2 hc _ _))
  ·exact Zu4 (Zz9 (r0:=yo a) (r1:=yo b) hc (.inl rfl) rfl rfl ((hA a (by simp)).1 c hc) ((hA a (by simp)).2 c hc) (fun h=>(hA b (by simp)).1 _ h) (fun h=>(hA b (by simp)).2 _ h))
  ·exact Zww (Yfg hc (.inr rfl) n7 (fun r0=>(hA a (by simp)).1 _ (hroom (v7 r0).1 s n7)) (fun r0=>Zvy (hroom (v7 r0).1 s n7) ((hA a (by simp)).2 _ (hroom (v7 r0).1 s n7))))
  ·exact Yd9 (Yi5 hc (.inr rfl) (hT t (by simp)) ((hA a (by simp)).1 c hc) ((hA a (by simp)).2 c hc))
  ·exact Ycq (Yjd (r0:=yo a) hc (.inr rfl) (hF f (by simp)) (hT t (by simp)) (Ze4 hc (by have:=Zoj f;have:=hF f (by simp);omega) (hT t (by simp)) ((hA a (by simp)).1 c hc) ((hA a (by simp)).2 c hc)) (ug (hA a (by simp)).2 hc _ _))
  ·exact Zvq (Zz9 (r0:=yo a) (r1:=yo b) hc (.inr rfl) rfl rfl ((hA a (by simp)).1 c hc) ((hA a (by simp)).2 c hc) (fun h=>(hA b (by simp)).1 _ h) (fun h=>(hA b (by simp)).2 _ h))
  ·have hff:=hF f (by simp);exact Zxj (Yji (r0:=yo a) (r1:=yo b) hc hff (hT t (by simp)) (Ze4 hc (by omega) (by decide) ((hA a (by simp)).1 c hc) ((hA a (by simp)).2 c hc))
    (fun h=>Ze4 h (by have:=(vf (hS f (by simp)) (fr:=1) (by_:=1) (by omega)).2.2;omega) (by decide) ((hA b (by simp)).1 _ h) ((hA b (by simp)).2 _ h))
    (ug (hA a (by simp)).2 hc _ _) (fun h=>by have:=ug (hA b (by simp)).2 h (f.lft 1 1) (sT (vT 0));simpa[Ck.below,Ck.with_] using this))
  ·have hff:=hF f (by simp);exact Zvg (Yg1 (r0:=yo a) (r1:=yo b) hc hff (hT t (by simp)) (Ze4 hc (by omega) (by decide) ((hA a (by simp)).1 c hc) ((hA a (by simp)).2 c hc))
    (fun h=>Ze4 h (by have:=(vf (hS f (by simp)) (fr:=1) (by_:=2) (by omega)).2.2;omega) (by decide) ((hA b (by simp)).1 _ h) ((hA b (by simp)).2 _ h))
    (ug (hA a (by simp)).2 hc _ _) (fun h=>by have:=ug (hA b (by simp)).2 h (f.lft 1 2) consM;simpa[Ck.below,Ck.with_] using this))
  ·exact Ybo hc (hT t (by simp))
  ·exact Zqf (Yb6 (r0:=yo a) (r1:=yo b) hc rfl (hF f (by simp)) ((hA a (by simp)).1 c hc) ((hA a (by simp)).2 c hc) (fun t ht=>Ze4 hc (by have:=hF f (by simp);omega) ht ((hA b (by simp)).1 c hc) ((hA b (by simp)).2 c hc)))
  ·exact Znu (Zzp (r0:=yo a) hc rfl ((hA a (by simp)).1 c hc) ((hA a (by simp)).2 c hc))
end Go.Ab
