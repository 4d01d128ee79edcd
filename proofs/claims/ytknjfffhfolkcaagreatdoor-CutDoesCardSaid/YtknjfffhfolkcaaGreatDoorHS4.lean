/- A part of this seat's proofs. No conditions. -/
import Derived.Test.YtknjfffhfolkcaaGreatDoorHS3
namespace Go.Ab
open Go Go.Proofs
set_option maxRecDepth 100000
set_option maxHeartbeats 4000000
set_option linter.all false
def HT(n:Nat):Prop:=∀(d:Dk) (g:List Ty) (t:Ty) (k:Int),k=(n:Int)-2->d.ok->Am g->t.small->1<=n->(n=1->t.size=1)->g.length+3*n<=10000->
 AC E 35 [.ptr 0 0,.s .ty g,.agg t.view,.i k] ⟨1,[(0,.var d.cells)]⟩ (.agg (Dk.tm n d g t).1.view) ⟨1,[(0,.var (Dk.tm n d g t).2.cells)]⟩
theorem OU{n:Nat}(hn:n<=7)(d:Dk){g:List Ty}{t:Ty}(hg:Am g)(ht:t.small)(h1:1<=n)(h2:n=1->t.size=1):(Dk.tm n d g t).1.full<=50000:=by
 have:=(Dk.CY n d g t hg ht h1 h2).full hg ht;have:3^n<=3^7:=Yf (by omega) hn;omega
theorem O8(n:Nat)(H:HT n)(hn:n<=7)(depth:Int)(hdep:depth=(n:Int)-1)(d:Dk)(hd:d.ok)(g:List Ty)(t:Ty)(hg:Am g)(ht:t.small)(h0:n=0->t.size=1)(hl:g.length+3*(n+1)<=10000):
 AW E Tryz.f35.ntmps 1 (F8 [1,1,1,1] (J9 Tryz.f35)) [(0,.ptr 0 0),(1,.s .ty g),(3,.i depth),(6,.ptr 1 0),(8,.ptr 2 0)]
  ⟨3,[(0,.var d.cells),(1,.var t.view),(2,.var [.i 0,.i 0,.i 0,.slice .nil (.t .ty []),.slice .nil (.t .tm [])])]⟩
  (Fk E 1 Tryz.f35.results.toList (.agg (d.fin (Dk.tm n) (decide (2<=n)) g t).1.view) ⟨1,[(0,.var (d.fin (Dk.tm n) (decide (2<=n)) g t).2.cells)]⟩):=by
 have hF:1<=n->∀d,∀t,t.small->(n=1->t.size=1)->(Dk.tm n d g t).1.full<=50000:=fun h1 d t ht h2=>OU hn d hg ht h1 h2;have hok:∀d g t,d.ok->(Dk.tm n d g t).2.ok:=fun d g t h=>Dk.CG n d g t h;rcases OH ht with rfl|rfl|rfl|⟨a,b,ha,hb,h1,h2,rfl|rfl⟩
 .show AW _ _ _ (Code.seq _ _) _ _ _;by_cases hp:2<=n
  .have hp':depth>0:=by omega
   have e:d.fin (Dk.tm n) (decide (2<=n)) g Ag=if(d.next 5).1=0 then(sT (Dk.tm n (d.next 5).2 g Ag).1,(Dk.tm n (d.next 5).2 g Ag).2)
    else if(d.next 5).1=1 then(A0 (A0 Cr (Dk.tm n (d.next 5).2 g Ag).1) (Dk.tm n (Dk.tm n (d.next 5).2 g Ag).2 g Ag).1,(Dk.tm n (Dk.tm n (d.next 5).2 g Ag).2 g Ag).2)
    else if(d.next 5).1=2 then(A0 (A0 D3 (Dk.tm n (d.next 5).2 g Ag).1) (Dk.tm n (Dk.tm n (d.next 5).2 g Ag).2 g Ag).1,(Dk.tm n (Dk.tm n (d.next 5).2 g Ag).2 g Ag).2)
    else(xy ((d.next 5).2.next 3).1,((d.next 5).2.next 3).2):=by simp[Dk.fin,Ag,hp]
   have hd5:=Dk.AH hd 5;have hx5:=v6 d 5 hd (by omega);have hx3:=v6 (d.next 5).2 3 hd5 (by omega);have a1:=H (d.next 5).2 g Ag (depth-1) (by omega) hd5 hg zh (by omega) (by omega) (by omega);have a2:=H (Dk.tm n (d.next 5).2 g Ag).2 g Ag (depth-1) (by omega) (hok _ _ _ hd5) hg zh (by omega) (by omega) (by omega);have f1:=hF (by omega) (d.next 5).2 Ag zh (by omega);have f2:=hF (by omega) (Dk.tm n (d.next 5).2 g Ag).2 Ag zh (by omega);have hs:=CH 5 [(Dk.tm n (d.next 5).2 g Ag).1] (by simp;omega);have p1:Cr.full<=18:=by decide
   have p2:D3.full<=36:=by decide
   have ap:=Om Cr [(Dk.tm n (d.next 5).2 g Ag).1,(Dk.tm n (Dk.tm n (d.next 5).2 g Ag).2 g Ag).1] (by simp;omega);have asb:=Om D3 [(Dk.tm n (d.next 5).2 g Ag).1,(Dk.tm n (Dk.tm n (d.next 5).2 g Ag).2 g Ag).1] (by simp;omega);have hnum:=GS ((d.next 5).2.next 3).1;(repeat' first|refine M.gw ?_|refine M.cb (hx5) [0] 0 ?_|refine M.cb (hx3) [0] 0 ?_|refine M.cb (a1) [0] 0 ?_|refine M.cb (a2) [0] 0 ?_|refine M.c2 (R1) ?_|refine M.c2 (Yjj) ?_|refine M.c2 (ap) ?_|refine M.c2 (asb) ?_|refine M.c2 (hnum) ?_|refine M.c2 (hs) ?_|refine M.bl ?_|refine M.cs ?_ ?_<;>intro h|fail);all_goals first
    |exact absurd hp' (by simpa using h)
    |skip
   .have e:=e.trans (if_pos (by simpa using h))
    (exact M.n2 [some 0] (h6:=(by(repeat'(first|exact trivial|refine And.intro ?_ ?_|refine⟨_,U,_,U,_,U,?_⟩|exact Ao.of_eq (by simp[Aq.Ay,e,sT])));done)) (h8:=(by simp[zk,V.wk,V.Ap,zc,Ty.view,Tm.view,e,sT])))
   .rename_i h0;have e:=e.trans ((if_neg (by simpa using h0)).trans (if_pos (by simpa using h)))
    (exact M.n2 [some 0] (h6:=(by(repeat'(first|exact trivial|refine And.intro ?_ ?_|refine⟨_,U,_,U,_,U,?_⟩|exact Ao.of_eq (by simp[Aq.Ay,e,A0])));done)) (h8:=(by simp[zk,V.wk,V.Ap,zc,Ty.view,Tm.view,e,A0])))
   .rename_i h0 h1;have e:=e.trans ((if_neg (by simpa using h0)).trans ((if_neg (by simpa using h1)).trans (if_pos (by simpa using h))))
    (exact M.n2 [some 0] (h6:=(by(repeat'(first|exact trivial|refine And.intro ?_ ?_|refine⟨_,U,_,U,_,U,?_⟩|exact Ao.of_eq (by simp[Aq.Ay,e,A0])));done)) (h8:=(by simp[zk,V.wk,V.Ap,zc,Ty.view,Tm.view,e,A0])))
   .rename_i h0 h1;have e:=e.trans ((if_neg (by simpa using h0)).trans ((if_neg (by simpa using h1)).trans (if_neg (by simpa using h))))
    (exact M.n2 [some 0] (h6:=(by(repeat'(first|exact trivial|refine And.intro ?_ ?_|refine⟨_,U,_,U,_,U,?_⟩|exact Ao.of_eq (by simp[Aq.Ay,e])));done)) (h8:=(by simp[zk,V.wk,V.Ap,zc,Ty.view,Tm.view,e])))
  .have hp':¬depth>0:=by omega
   have e:d.fin (Dk.tm n) (decide (2<=n)) g Ag=(xy (d.next 3).1,(d.next 3).2):=by simp[Dk.fin,Ag,hp]
   have hx3:=v6 d 3 hd (by omega);have hnum:=GS (d.next 3).1;(repeat' first|refine M.gw ?_|refine M.cb (hx3) [0] 0 ?_|refine M.c2 (hnum) ?_|refine M.bl ?_|refine M.cs ?_ ?_<;>intro h|fail);all_goals first
    |exact absurd hp' (by simpa using h)
    |skip
   (exact M.n2 [some 0] (h6:=(by(repeat'(first|exact trivial|refine And.intro ?_ ?_|refine⟨_,U,_,U,_,U,?_⟩|exact Ao.of_eq (by simp[Aq.Ay,e])));done)) (h8:=(by simp[zk,V.wk,V.Ap,zc,Ty.view,Tm.view,e])))
 .show AW _ _ _ (Code.seq _ _) _ _ _;have hN:=CH 7 [] (by simp);by_cases hp:2<=n
  .have hp':depth>0:=by omega
   have e:d.fin (Dk.tm n) (decide (2<=n)) g An=if(d.next 2).1=0 then(nT 8 [(Dk.tm n (d.next 2).2 g Ag).1,(Dk.tm n (Dk.tm n (d.next 2).2 g Ag).2 g An).1],(Dk.tm n (Dk.tm n (d.next 2).2 g Ag).2 g An).2) else(nT 7 [],(d.next 2).2):=by simp[Dk.fin,An,hp]
   have hd2:=Dk.AH hd 2;have hx2:=v6 d 2 hd (by omega);have a1:=H (d.next 2).2 g Ag (depth-1) (by omega) hd2 hg zh (by omega) (by omega) (by omega);have a2:=H (Dk.tm n (d.next 2).2 g Ag).2 g An (depth-1) (by omega) (hok _ _ _ hd2) hg yp (by omega) (by omega) (by omega);have f1:=hF (by omega) (d.next 2).2 Ag zh (by omega);have f2:=hF (by omega) (Dk.tm n (d.next 2).2 g Ag).2 An yp (by omega);have hs:=CH 8 [(Dk.tm n (d.next 2).2 g Ag).1,(Dk.tm n (Dk.tm n (d.next 2).2 g Ag).2 g An).1] (by simp;omega);(repeat' first|refine M.gw ?_|refine M.cb (hx2) [0] 0 ?_|refine M.cb (a1) [0] 0 ?_|refine M.cb (a2) [0] 0 ?_|refine M.c2 (vk) ?_|refine M.c2 (hs) ?_|refine M.c2 (hN) ?_|refine M.gs ?_ ?_<;>intro h|refine M.bl ?_|refine M.cs ?_ ?_<;>intro h|fail);all_goals first
    |exact absurd hp' (by simpa using h)
    |skip
   .have e:=e.trans (if_pos (by simpa using h))
    (exact M.n2 [some 0] (h6:=(by(repeat'(first|exact trivial|refine And.intro ?_ ?_|refine⟨_,U,_,U,_,U,?_⟩|exact Ao.of_eq (by simp[Aq.Ay,e,nT])));done)) (h8:=(by simp[zk,V.wk,V.Ap,zc,Ty.view,Tm.view,e,nT])))
   .have e:=e.trans (if_neg (by simpa using h))
    (exact M.n2 [some 0] (h6:=(by(repeat'(first|exact trivial|refine And.intro ?_ ?_|refine⟨_,U,_,U,_,U,?_⟩|exact Ao.of_eq (by simp[Aq.Ay,e,nT])));done)) (h8:=(by simp[zk,V.wk,V.Ap,zc,Ty.view,Tm.view,e,nT])))
  .have hp':¬depth>0:=by omega
   have e:d.fin (Dk.tm n) (decide (2<=n)) g An=(nT 7 [],d):=by simp[Dk.fin,An,hp]
   (repeat' first|refine M.gw ?_|refine M.c2 (hN) ?_|refine M.gs ?_ ?_<;>intro h|refine M.bl ?_|fail);all_goals first
    |exact absurd hp' (by simpa using h)
    |skip
   (exact M.n2 [some 0] (h6:=(by(repeat'(first|exact trivial|refine And.intro ?_ ?_|refine⟨_,U,_,U,_,U,?_⟩|exact Ao.of_eq (by simp[Aq.Ay,e,nT])));done)) (h8:=(by simp[zk,V.wk,V.Ap,zc,Ty.view,Tm.view,e,nT])))
 .show AW _ _ _ (Code.seq _ _) _ _ _;have hN:=CH 13 [] (by simp);have e:d.fin (Dk.tm n) (decide (2<=n)) g Hf=(nT 13 [],d):=by simp[Dk.fin,Hf]
  (repeat' first|refine M.gw ?_|refine M.c2 (hN) ?_|refine M.bl ?_|fail)
  (exact M.n2 [some 0] (h8:=(by simp[zk,V.wk,V.Ap,zc,Ty.view,Tm.view,e,nT])))
 .have hn0:n≠0:=fun h=>by have:=h0 h;rw[Hz] at this;omega
  have sa:=zw ha h1;have sb:=zw hb h2;have e:d.fin (Dk.tm n) (decide (2<=n)) g (CC a b)=(nT 10 [(Dk.tm n d g a).1,(Dk.tm n (Dk.tm n d g a).2 g b).1],(Dk.tm n (Dk.tm n d g a).2 g b).2):=by simp[Dk.fin,CC]
  have a1:=H d g a (depth-1) (by omega) hd hg sa (by omega) (fun _=>h1) (by omega);have a2:=H (Dk.tm n d g a).2 g b (depth-1) (by omega) (hok _ _ _ hd) hg sb (by omega) (fun _=>h2) (by omega);have f1:=hF (by omega) d a sa (fun _=>h1);have f2:=hF (by omega) (Dk.tm n d g a).2 b sb (fun _=>h2);have hs:=CH 10 [(Dk.tm n d g a).1,(Dk.tm n (Dk.tm n d g a).2 g b).1] (by simp;omega);have l0:0<(CC a b).args.length:=by simp[CC]
  have l1:1<(CC a b).args.length:=by simp[CC]
  show AW _ _ _ (Code.seq _ _) _ _ _;(repeat' first|refine M.gw ?_|refine M.cb (a1) [0] 0 ?_|refine M.cb (a2) [0] 0 ?_|refine M.c2 (hs) ?_|refine M.bl ?_|fail)
  (exact M.n2 [some 0] (h8:=(by simp[zk,V.wk,V.Ap,zc,Ty.view,Tm.view,e,nT])))
 .have hn0:n≠0:=fun h=>by have:=h0 h;rw[ws] at this;omega
  have sa:=zw ha h1;have sb:=zw hb h2;have hga:=zo hg (zi sa zn);have e:d.fin (Dk.tm n) (decide (2<=n)) g (yv a b)=(B1 a (Dk.tm n d (g++[a]) b).1,(Dk.tm n d (g++[a]) b).2):=by simp[Dk.fin,yv]
  have a1:=H d (g++[a]) b (depth-1) (by omega) hd hga sb (by omega) (fun _=>h2) (by simp;omega);have f1:=OU hn d hga sb (by omega) (fun _=>h2);have hlo:=uq g [a] (by simp;omega);have hs:=Ft 2 a [(Dk.tm n d (g++[a]) b).1] (by simp;omega) (by omega);have l0:0<(yv a b).args.length:=by simp[yv]
  have l1:1<(yv a b).args.length:=by simp[yv]
  show AW _ _ _ (Code.seq _ _) _ _ _;(repeat' first|refine M.gw ?_|refine M.cb (a1) [0] 0 ?_|refine M.c2 (hlo) ?_|refine M.c2 (hs) ?_|refine M.bl ?_|fail)
  (exact M.n2 [some 0] (h8:=(by simp[zk,V.wk,V.Ap,zc,Ty.view,Tm.view,e,B1])))
theorem Zta(d:Dk):(xy (d.next 3).1).full<=6:=by
 obtain⟨m,hm,e⟩:=N2 d;rw[e,MS];omega
theorem Zr2{g:List Ty}(h:Am g):(g.map Ty.size).sum<=3*g.length:=by
 induction g with
 |nil=>simp
 |cons t l ih=>
  have h1:=(h t (by simp)).2;have h2:=ih fun x hx=>h x (by simp[hx]);simp only[Wn,Wt,Wy];omega
theorem Zoa{g:List Ty}{t:Ty}(h:∀j,j<g.length->FR g t j=false):Js g t=none:=by
 simp only[Js,List.find?_eq_none,X0];intro j hj;simp[h j hj]
theorem Yax{g:List Ty}{t:Ty}{m:Nat}(hm:m<g.length)(h:∀j,j<m->FR g t j=false)(h1:FR g t m=true):Js g t=some m:=by
 simp only[Js,List.find?_range_eq_some,X0];exact⟨h1,hm,fun j hj=>by simp[h j hj]⟩
theorem VL(n:Nat)(H:HT n)(hn:n<=7)(depth:Int)(hdep:depth=(n:Int)-1)(d:Dk)(hd:d.ok)(g:List Ty)(t:Ty)(hg:Am g)(ht:t.small)(h0:n=0->t.size=1)(hl:g.length+3*(n+1)<=10000):
 AW E Tryz.f35.ntmps 1 (F8 [1,1,1] (J9 Tryz.f35)) [(0,.ptr 0 0),(1,.s .ty g),(3,.i depth),(6,.ptr 1 0),(8,.ptr 2 0)]
  ⟨3,[(0,.var d.cells),(1,.var t.view),(2,.var [.i 0,.i 0,.i 0,.slice .nil (.t .ty []),.slice .nil (.t .tm [])])]⟩
  (Fk E 1 Tryz.f35.results.toList (.agg (d.mid (Dk.tm n) (decide (2<=n)) g t).1.view) ⟨1,[(0,.var (d.mid (Dk.tm n) (decide (2<=n)) g t).2.cells)]⟩):=by
 have hok:∀d g t,d.ok->(Dk.tm n d g t).2.ok:=fun d g t h=>Dk.CG n d g t h;by_cases hp:2<=n;case neg=>
  have hp':¬depth>0:=by omega
  have e:d.mid (Dk.tm n) (decide (2<=n)) g t=d.fin (Dk.tm n) (decide (2<=n)) g t:=by simp[Dk.mid,hp]
  show AW _ _ _ (Code.seq _ _) _ _ _;(repeat' first|refine M.go ?_|refine M.z1 29 ?_|refine M.cs ?_ ?_<;>intro h|refine M.gk ?_|fail)
  .exact absurd (by simpa using h) hp'
  .rw[e];exact AW.weak (M.W [some 0,some 1,some 2]) (O8 n H hn depth hdep d hd g t hg ht h0 hl)
 have hp':depth>0:=by omega
 have hx8:=v6 d 8 hd (by omega);have e:=Dk.Hq (rec:=Dk.tm n) (d:=d) (g:=g) (t:=t) (pos:=decide (2<=n)) (by simpa using hp);have hD:=Dk.AH hd 8;have tp:AC E 31 [.ptr 0 0,.i 0] ⟨1,[(0,.var (d.next 8).2.cells)]⟩ (.agg ((d.next 8).2.type 0).1.view) ⟨1,[(0,.var ((d.next 8).2.type 0).2.cells)]⟩:=Jv 0 0 (d.next 8).2 (by omega) (by omega) (by omega) hD;have hS:=Dk.type0 (d.next 8).2;have hD1:=Dk.Bu 0 _ hD;generalize (d.next 8).1=kk at*;generalize (d.next 8).2=W at*;generalize (W.type 0).1=S at*;generalize (W.type 0).2=D1 at*;have hSs:=zw hS.1 hS.2;have hF:∀d g t,Am g->t.small->(Dk.tm n d g t).1.full<=50000:=fun d g t hg ht=>OU hn d hg ht (by omega) (by omega);have hH:∀d g t,d.ok->Am g->t.small->g.length+3*n<=10000->AC E 35 [.ptr 0 0,.s .ty g,.agg t.view,.i (depth-1)] ⟨1,[(0,.var d.cells)]⟩ (.agg (Dk.tm n d g t).1.view) ⟨1,[(0,.var (Dk.tm n d g t).2.cells)]⟩:=
  fun d g t h1 h2 h3 h4=>H d g t (depth-1) (by omega) h1 h2 h3 (by omega) (by omega) h4
 have hts:=ht.2;have ht1:t.size<1000000:=by omega
 have gS:=zo hg (zi hSs zn);have g2:=zo hg (zi zh (zi ht zn));have g3:=zo hg (zi zh (zi yp (zi ht zn)));show AW _ _ _ (Code.seq _ _) _ _ _;by_cases k0:kk=0
 .subst k0;simp only[if_true] at e;have a:=hH D1 (g++[S]) t hD1 gS ht (by simp;omega);have b:=hH _ g S (hok _ (g++[S]) t hD1) hg hSs (by omega);have fa:=hF D1 (g++[S]) t gS ht;have fb:=hF (Dk.tm n D1 (g++[S]) t).2 g S hg hSs;have lo:=uq g [S] (by simp;omega);have c1:=Ft 2 S [(Dk.tm n D1 (g++[S]) t).1] (by simp;omega) (by omega);have c2:=CH 3 [B1 S (Dk.tm n D1 (g++[S]) t).1,(Dk.tm n (Dk.tm n D1 (g++[S]) t).2 g S).1] (by simp[B1,Tm.full,Tm.Au];omega);(repeat' first|refine M.go ?_|refine M.cb (hx8) [0] 0 ?_|refine M.cb (tp) [0] 0 ?_|refine M.cb (a) [0] 0 ?_|refine M.cb (b) [0] 0 ?_|refine M.c2 (lo) ?_|refine M.c2 (c1) ?_|refine M.c2 (c2) ?_|refine M.z1 29 ?_|refine M.bl ?_|refine M.cs ?_ ?_<;>intro h|refine M.gk ?_|fail)
  ·(exact M.n2 [some 0] (h6:=(by(repeat'(first|exact trivial|refine And.intro ?_ ?_|refine⟨_,U,_,U,_,U,?_⟩|exact Ao.of_eq (by simp[Aq.Ay,e,Dk.m0,A0])));done)) (h8:=(by simp[zk,V.wk,V.Ap,zc,Ty.view,Tm.view,e,Dk.m0,A0])))
  .exact absurd hp' (by simpa using h)
 rw[if_neg k0] at e;by_cases k1:kk=1
 .subst k1;rw[if_pos rfl] at e;have a:=hH D1 g t hD1 hg ht (by omega);have b:=hH _ g S (hok _ g t hD1) hg hSs (by omega);have fa:=hF D1 g t hg ht;have fb:=hF (Dk.tm n D1 g t).2 g S hg hSs;have c1:=CH 10 [(Dk.tm n D1 g t).1,(Dk.tm n (Dk.tm n D1 g t).2 g S).1] (by simp;omega);have c2:=CH 11 [nT 10 [(Dk.tm n D1 g t).1,(Dk.tm n (Dk.tm n D1 g t).2 g S).1]] (by simp[nT,Tm.full,Tm.Au,Ty.size,Ty.sizes];omega);(repeat' first|refine M.go ?_|refine M.cb (hx8) [0] 0 ?_|refine M.cb (tp) [0] 0 ?_|refine M.cb (a) [0] 0 ?_|refine M.cb (b) [0] 0 ?_|refine M.c2 (c1) ?_|refine M.c2 (c2) ?_|refine M.z1 29 ?_|refine M.bl ?_|refine M.cs ?_ ?_<;>intro h|refine M.gk ?_|fail)
  ·(exact M.n2 [some 0] (h6:=(by(repeat'(first|exact trivial|refine And.intro ?_ ?_|refine⟨_,U,_,U,_,U,?_⟩|exact Ao.of_eq (by simp[Aq.Ay,e,Dk.m1,nT])));done)) (h8:=(by simp[zk,V.wk,V.Ap,zc,Ty.view,Tm.view,e,Dk.m1,nT])))
  .exact absurd hp' (by simpa using h)
 rw[if_neg k1] at e;by_cases k2:kk=2
 .subst k2;rw[if_pos rfl] at e;have a:=hH W (g++[Ag,t]) t hD g2 ht (by simp;omega);have b:=hH _ g t (hok _ (g++[Ag,t]) t hD) hg ht (by omega);have hdb:=hok _ g t (hok _ (g++[Ag,t]) t hD);have fa:=hF W (g++[Ag,t]) t g2 ht;have fb:=hF (Dk.tm n W (g++[Ag,t]) t).2 g t hg ht;have lo:=uq g [Ag,t] (by simp;omega);have nx:=v6 _ 3 hdb (by omega);have nu:=GS ((Dk.tm n (Dk.tm n W (g++[Ag,t]) t).2 g t).2.next 3).1;have fn:=Zta (Dk.tm n (Dk.tm n W (g++[Ag,t]) t).2 g t).2;have en:Ag.size=1:=rfl;have c1:=Ft 2 t [(Dk.tm n W (g++[Ag,t]) t).1] (by simp;omega) (by omega);have c2:=Ft 2 Ag [B1 t (Dk.tm n W (g++[Ag,t]) t).1] (by simp[B1,Tm.full,Tm.Au];omega) (by omega);have c3:=Ft 6 t [(Dk.tm n (Dk.tm n W (g++[Ag,t]) t).2 g t).1,B1 Ag (B1 t (Dk.tm n W (g++[Ag,t]) t).1),xy ((Dk.tm n (Dk.tm n W (g++[Ag,t]) t).2 g t).2.next 3).1] (by simp[B1,Tm.full,Tm.Au];omega) (by omega);(repeat' first|refine M.go ?_|refine M.c2 (vk) ?_|refine M.cb (hx8) [0] 0 ?_|refine M.cb (a) [0] 0 ?_|refine M.cb (b) [0] 0 ?_|refine M.c2 (lo) ?_|refine M.cb (nx) [0] 0 ?_|refine M.c2 (nu) ?_|refine M.c2 (c1) ?_|refine M.c2 (c2) ?_|refine M.c2 (c3) ?_|refine M.z1 29 ?_|refine M.bl ?_|refine M.cs ?_ ?_<;>intro h|refine M.gk ?_|fail)
  ·(exact M.n2 [some 0] (h6:=(by(repeat'(first|exact trivial|refine And.intro ?_ ?_|refine⟨_,U,_,U,_,U,?_⟩|exact Ao.of_eq (by simp[Aq.Ay,e,Dk.m2,hT])));done)) (h8:=(by simp[zk,V.wk,V.Ap,zc,Ty.view,Tm.view,e,Dk.m2,hT])))
  .exact absurd hp' (by simpa using h)
 rw[if_neg k2] at e;by_cases k3:kk=3
 .subst k3;rw[if_pos rfl] at e;have a:=hH W (g++[Ag,An,t]) t hD g3 ht (by simp;omega);have b:=hH _ g t (hok _ (g++[Ag,An,t]) t hD) hg ht (by omega);have c:=hH _ g An (hok _ g t (hok _ (g++[Ag,An,t]) t hD)) hg yp (by omega);have fa:=hF W (g++[Ag,An,t]) t g3 ht;have fb:=hF (Dk.tm n W (g++[Ag,An,t]) t).2 g t hg ht;have fc:=hF (Dk.tm n (Dk.tm n W (g++[Ag,An,t]) t).2 g t).2 g An hg yp;have lo:=uq g [Ag,An,t] (by simp;omega);have en:Ag.size=1:=rfl;have el:An.size=1:=rfl;have c1:=Ft 2 t [(Dk.tm n W (g++[Ag,An,t]) t).1] (by simp;omega) (by omega);have c2:=Ft 2 An [B1 t (Dk.tm n W (g++[Ag,An,t]) t).1] (by simp[B1,Tm.full,Tm.Au];omega) (by omega);have c3:=Ft 2 Ag [B1 An (B1 t (Dk.tm n W (g++[Ag,An,t]) t).1)] (by simp[B1,Tm.full,Tm.Au];omega) (by omega);have c4:=Ft 9 t [(Dk.tm n (Dk.tm n W (g++[Ag,An,t]) t).2 g t).1,B1 Ag (B1 An (B1 t (Dk.tm n W (g++[Ag,An,t]) t).1)),(Dk.tm n (Dk.tm n (Dk.tm n W (g++[Ag,An,t]) t).2 g t).2 g An).1] (by simp[B1,Tm.full,Tm.Au];omega) (by omega);(repeat' first|refine M.go ?_|refine M.c2 (vk) ?_|refine M.c2 (ul) ?_|refine M.cb (hx8) [0] 0 ?_|refine M.cb (a) [0] 0 ?_|refine M.cb (b) [0] 0 ?_|refine M.cb (c) [0] 0 ?_|refine M.c2 (lo) ?_|refine M.c2 (c1) ?_|refine M.c2 (c2) ?_|refine M.c2 (c3) ?_|refine M.c2 (c4) ?_|refine M.z1 29 ?_|refine M.bl ?_|refine M.cs ?_ ?_<;>intro h|refine M.gk ?_|fail)
  ·(exact M.n2 [some 0] (h6:=(by(repeat'(first|exact trivial|refine And.intro ?_ ?_|refine⟨_,U,_,U,_,U,?_⟩|exact Ao.of_eq (by simp[Aq.Ay,e,Dk.m3,hT])));done)) (h8:=(by simp[zk,V.wk,V.Ap,zc,Ty.view,Tm.view,e,Dk.m3,hT])))
  .exact absurd hp' (by simpa using h)
 rw[if_neg k3] at e;by_cases k4:kk=4
 .subst k4;rw[if_pos rfl] at e;have a:=hH D1 g S hD1 hg hSs (by omega);have b:=hH _ g t (hok _ g S hD1) hg ht (by omega);have fa:=hF D1 g S hg hSs;have fb:=hF (Dk.tm n D1 g S).2 g t hg ht;have c1:=CH 10 [(Dk.tm n D1 g S).1,(Dk.tm n (Dk.tm n D1 g S).2 g t).1] (by simp;omega);have c2:=CH 12 [nT 10 [(Dk.tm n D1 g S).1,(Dk.tm n (Dk.tm n D1 g S).2 g t).1]] (by simp[nT,Tm.full,Tm.Au,Ty.size,Ty.sizes];omega);(repeat' first|refine M.go ?_|refine M.cb (hx8) [0] 0 ?_|refine M.cb (tp) [0] 0 ?_|refine M.cb (a) [0] 0 ?_|refine M.cb (b) [0] 0 ?_|refine M.c2 (c1) ?_|refine M.c2 (c2) ?_|refine M.z1 29 ?_|refine M.bl ?_|refine M.cs ?_ ?_<;>intro h|refine M.gk ?_|fail)
  ·(exact M.n2 [some 0] (h6:=(by(repeat'(first|exact trivial|refine And.intro ?_ ?_|refine⟨_,U,_,U,_,U,?_⟩|exact Ao.of_eq (by simp[Aq.Ay,e,Dk.m4,nT])));done)) (h8:=(by simp[zk,V.wk,V.Ap,zc,Ty.view,Tm.view,e,Dk.m4,nT])))
  .exact absurd hp' (by simpa using h)
 rw[if_neg k4] at e;by_cases k5:kk=5
 .subst k5;rw[if_pos rfl] at e;(repeat' first|refine M.go ?_|refine M.cb (hx8) [0] 0 ?_|refine M.z1 29 ?_|refine M.bl ?_|refine M.cs ?_ ?_<;>intro h|refine M.gk ?_|fail);all_goals first
   |exact absurd hp' (by simpa using h)
   |skip
  refine AW.range g.length (fun m=>∀j,j<m->FR g t j=false)
   (fun m=>([(0,.ptr 0 0),(1,.s .ty g),(3,.i depth),(6,.ptr 1 0),(8,.ptr 2 0),(176,.i g.length),(177,.i m)],⟨3,[(0,.var W.cells),(1,.var t.view),(2,.var [.i 0,.i 0,.i 0,.slice .nil (.t .ty []),.slice .nil (.t .tm [])])]⟩))
   (by omega) (fun m=>rfl) (fun m=>rfl) rfl (by intro j hj;omega) (M.W [some 0,some 1,some 2]) ?_ ?_
  .intro m hm hP;have hm2:g.length-1-m<g.length:=by omega
   have hat:Bz g (g.length-1-m)=g[g.length-1-m]:=J5 hm2;have hgs:(g[g.length-1-m]).small:=hg _ (Wi hm2);have hstep:∀b,FR g t m=b->b=false->∀j,j<m+1->FR g t j=false:=fun b hb hf j hj=>by
    by_cases hjm:j=m
    .rw[hjm,hb,hf]
    .exact hP j (by omega)
   have hfn:FR g t m=((g[g.length-1-m]).kind==4&&decide (Bz (g[g.length-1-m]).args 1=t)):=by simp only[FR,hat]
   by_cases hk4:(g[g.length-1-m]).kind=4
   .obtain ⟨p,q,hpq⟩:=Ty.Ct hgs.1 (.inr hk4);have l0:0<(g[g.length-1-m]).args.length:=by rw[hpq];simp
    have l1:1<(g[g.length-1-m]).args.length:=by rw[hpq];simp
    have sm:=xh _ ((g[g.length-1-m]).args[1]) t (Wj _) (by
     have h1:=za Ty.size (Wi l1);have h2:=(g[g.length-1-m]).size_eq;have h3:=hgs.2;omega)
    have ha1:Bz (g[g.length-1-m]).args 1=(g[g.length-1-m]).args[1]:=J5 l1;have ha0:Bz (g[g.length-1-m]).args 0=(g[g.length-1-m]).args[0]:=J5 l0;rw[ha1,beq_iff_eq.2 hk4,WZ] at hfn;have sm0:((g[g.length-1-m]).args[0]).small:=by
     have h1:=za Ty.size (Wi l0);have h2:=(g[g.length-1-m]).size_eq;have h3:=hgs.2;have h4:=hgs.1;rw[Ty.Al,Wk] at h4;exact⟨Wm.1 h4.2 _ (Wi l0),by omega⟩
    have a:=hH W g ((g[g.length-1-m]).args[0]) hD hg sm0 (by omega);have fa:=hF W g ((g[g.length-1-m]).args[0]) hg sm0;have vc:=Ek m;have c1:=CH 3 [vT m,(Dk.tm n W g ((g[g.length-1-m]).args[0])).1] (by simp[vT,Tm.full,Tm.Au,Ty.size,Ty.sizes];omega);(repeat' first|refine M.go ?_|refine M.z1 29 ?_|refine M.gk ?_|fail);refine L.D9 (g.length-1-m) rfl rfl rfl rfl (by omega) rfl rfl hm2 ?_;(repeat' first|refine M.go ?_|refine M.c2 (sm) ?_|refine M.c2 (vc) ?_|refine M.cb (a) [0] 0 ?_|refine M.c2 (c1) ?_|refine M.gs ?_ ?_<;>intro h|refine M.z1 29 ?_|refine M.cs ?_ ?_<;>intro h|refine M.gk ?_|fail)
    .have hf:FR g t m=true:=hfn.trans h;have e2:W.m5 (Dk.tm n) (decide (2<=n)) g t=(A0 (vT m) (Dk.tm n W g ((g[g.length-1-m]).args[0])).1,(Dk.tm n W g ((g[g.length-1-m]).args[0])).2):=by unfold Dk.m5;rw[Yax hm hP hf];simp only[hat,ha0]
     rw[e2] at e
     (exact M.n2 [some 0] (h6:=(by(repeat'(first|exact trivial|refine And.intro ?_ ?_|refine⟨_,U,_,U,_,U,?_⟩|exact Ao.of_eq (by simp[Aq.Ay,e,A0,vT])));done)) (h8:=(by simp[zk,V.wk,V.Ap,zc,Ty.view,Tm.view,e,A0,vT])))
    .exact ⟨rfl,hstep _ hfn h,(M.W [some 0,some 1,some 2])⟩
    .exact absurd hk4 (by simpa using h)
   .repeat' (first|refine M.go ?_|refine M.z1 29 ?_|refine M.gk ?_|fail)
    refine L.D9 (g.length-1-m) rfl rfl rfl rfl (by omega) rfl rfl hm2 ?_;(repeat' first|refine M.go ?_|refine M.gs ?_ ?_<;>intro h|refine M.z1 29 ?_|refine M.gk ?_|fail)
    .exact absurd (by simpa using h) hk4
    .have hk4':((g[g.length-1-m]).kind==4)=false:=by simpa using hk4
     rw[hk4',Xo] at hfn;exact⟨rfl,hstep _ hfn rfl,(M.W [some 0,some 1,some 2])⟩
  .intro hP;repeat'(first|with_reducible refine K.tN ?_|with_reducible refine K.bN ?_)
   have e2:W.m5 (Dk.tm n) (decide (2<=n)) g t=W.fin (Dk.tm n) (decide (2<=n)) g t:=by unfold Dk.m5;rw[Zoa hP]
   rw[e,e2];exact AW.weak (M.W [some 0,some 1,some 2]) (O8 n H hn depth hdep W hD g t hg ht h0 hl)
 rw[if_neg k5] at e;have n0:(kk==0)=false:=by simpa using k0
 (repeat' first|refine M.go ?_|refine M.cb (hx8) [0] 0 ?_|refine M.z1 29 ?_|refine M.bl ?_|refine M.cs ?_ ?_<;>intro h|refine M.gk ?_|fail);all_goals first
  |exact absurd hp' (by simpa using h)
  |exact absurd (by simpa using h) k0
  |exact absurd (by simpa using h) k1
  |exact absurd (by simpa using h) k2
  |exact absurd (by simpa using h) k3
  |exact absurd (by simpa using h) k4
  |exact absurd (by simpa using h) k5
  |(rw[e];exact AW.weak (M.W [some 0,some 1,some 2]) (O8 n H hn depth hdep W hD g t hg ht h0 hl))
theorem Yjc(n:Nat)(H:HT n)(hn:n<=7)(depth:Int)(hdep:depth=(n:Int)-1)(d:Dk)(hd:d.ok)(g:List Ty)(t:Ty)(hg:Am g)(ht:t.small)(h0:n=0->t.size=1)(hl:g.length+3*(n+1)<=10000):
 AC E 35 [.ptr 0 0,.s .ty g,.agg t.view,.i depth] ⟨1,[(0,.var d.cells)]⟩ (.agg (d.gen (Dk.tm n) (decide (2<=n)) g t).1.view) ⟨1,[(0,.var (d.gen (Dk.tm n) (decide (2<=n)) g t).2.cells)]⟩:=by
 have hsum:=Zr2 hg;have hvl:(x7 g t).length<=g.length:=by
  simp only[x7,Xt];have:=X9 (fun i=>decide (g[g.length-1-i]? =some t)) (List.range g.length);simpa using this
 have hv:=Yhk g t (by omega);have hx3:=v6 d 3 hd (by omega);have hd3:=Dk.AH hd 3;have hxl:=v6 (d.next 3).2 (x7 g t).length hd3 (by omega);have m1:=VL n H hn depth hdep d hd g t hg ht h0 hl;have m2:=VL n H hn depth hdep (d.next 3).2 hd3 g t hg ht h0 hl;have hvar:=Ek;by_cases he:x7 g t=[]
 .have e:d.gen (Dk.tm n) (decide (2<=n)) g t=d.mid (Dk.tm n) (decide (2<=n)) g t:=by unfold Dk.gen;rw[if_pos he]
  have hl0:¬(((x7 g t).length:Int)>0):=by rw[he];simp
  refine M.F Tryz.func35 ?_;(repeat' first|refine M.go ?_|refine M.c2 (hv) ?_|refine M.cb (hx3) [0] 0 ?_|refine M.gs ?_ ?_<;>intro h|refine M.z1 4 ?_|refine M.cs ?_ ?_<;>intro h|refine M.gk ?_|fail)
  .rename_i h1;exact absurd (by simpa using h1) hl0
  .rename_i h1;exact absurd (by simpa using h1) hl0
  .rw[e];exact AW.weak (M.W [some 0,some 1,some 2]) m1
 .have e:d.gen (Dk.tm n) (decide (2<=n)) g t=if 0<(d.next 3).1 then(vT ((x7 g t).getD ((d.next 3).2.next (x7 g t).length).1.toNat 0),((d.next 3).2.next (x7 g t).length).2) else(d.next 3).2.mid (Dk.tm n) (decide (2<=n)) g t:=by unfold Dk.gen;rw[if_neg he]
  have hlp:0<(x7 g t).length:=List.length_pos_iff.2 he;have hl0:((x7 g t).length:Int)>0:=by omega
  have hbl:=Dk.Bv (d.next 3).2 (x7 g t).length hl0;have hlt:((d.next 3).2.next (x7 g t).length).1.toNat<(x7 g t).length:=by omega
  refine M.F Tryz.func35 ?_;(repeat' first|refine M.go ?_|refine M.c2 (hv) ?_|refine M.cb (hx3) [0] 0 ?_|refine M.cb (hxl) [0] 0 ?_|refine M.gs ?_ ?_<;>intro h|refine M.z1 4 ?_|refine M.cs ?_ ?_<;>intro h|refine M.gk ?_|fail)
  .refine L.D9 ((d.next 3).2.next (x7 g t).length).1.toNat rfl rfl rfl rfl (by omega) rfl rfl hlt ?_;have eg:(x7 g t).getD ((d.next 3).2.next (x7 g t).length).1.toNat 0=(x7 g t)[((d.next 3).2.next (x7 g t).length).1.toNat]:=by simp[WJ,hlt]
   rw[if_pos (by simpa using h),eg] at e;(repeat' first|refine M.gw ?_|refine M.c2 (hvar _) ?_|fail)
   (exact M.n2 [some 0] (h6:=(by(repeat'(first|exact trivial|refine And.intro ?_ ?_|refine⟨_,U,_,U,_,U,?_⟩|exact Ao.of_eq (by simp[Aq.Ay,e,vT])));done)) (h8:=(by simp[zk,V.wk,V.Ap,zc,Ty.view,Tm.view,e,vT])))
  .rw[e,if_neg (by simpa using h)];exact AW.weak (M.W [some 0,some 1,some 2]) m2
  .exact absurd hl0 (by simpa using h)
theorem Ir:∀n,n<=8->HT n
 |0,_=>fun d g t k _ _ _ _ h=>by omega
 |n+1,hn=>fun d g t k hk hd hg ht _ h1 hl=>Yjc n (Ir n (by omega)) (by omega) k (by omega) d hd g t hg ht (by omega) hl
theorem RC(g:List Ty)(t:Tm)(ht:t.full<137438953472)(hg:∀x∈g,x.err=0)(hl:g.length<100000):PC E 214 [.s .ty g,.agg t.view] (.AD [.agg (Ec g t).1.view,.i (Ec g t).2]):=by
 have h1:=wx t (by omega);have h2:t.err=0->_:=fun h=>Ydt _ t g (Wj _) (by omega) ((Tm.Ad t).1 h).1 hg (by omega);refine M.F Tryz.func214 ?_;(repeat' first|refine M.gw ?_|refine M.c2 (h1) ?_|refine M.c2 (h2 (by simpa using h)) ?_|refine M.cs ?_ ?_<;>intro h|fail)
 .have h':t.err≠0:=by simpa using h
  simp[zk,V.wk,V.Ap,zc,Ty.view,Ec,h',BJ]
 .have h':t.err=0:=by simpa using h
  simp[zk,V.wk,V.Ap,zc,Ty.view,Ec,h']
theorem OI(g:List Ty)(t:Tm)(ht:t.full<137438953472)(hg:(g.map Ty.size).sum<1099511627776):PC E 185 [.s .ty g,.agg t.view] (.AD [.agg (yz g t).1.view,.i (yz g t).2]):=by
 have h1:=P8 g hg;have h2:xd g=0->_:=fun h=>RC g t ht (vr h).2 (by have:=(vr h).1;omega);refine M.F Tryz.func185 ?_;(repeat' first|refine M.gw ?_|refine M.c2 (h1) ?_|refine M.c2 (h2 (by simpa using h)) ?_|refine M.cs ?_ ?_<;>intro h|fail)
 .have h':xd g≠0:=by simpa using h
  simp[zk,V.wk,V.Ap,zc,Ty.view,yz,h',BJ]
 .have h':xd g=0:=by simpa using h
  simp[zk,V.wk,V.Ap,zc,Ty.view,yz,h']
theorem TX(x:Ty)(h:x.size<1099511627776):PC E 61 [.agg x.view,.agg x.view] (.bool true):=by
 have:=xh _ x x (Wj _) h;simpa using this
theorem Zy2(x:Tm)(h:x.full<1099511627776):PC E 101 [.agg x.view,.agg x.view] (.bool true):=by
 have:=Rf _ x x (Wj _) h;simpa using this
theorem Ql(d:Dk)(h:d.ok):AC E 31 [.ptr 0 0,.i 1] ⟨1,[(0,.var d.cells)]⟩ (.agg (d.type 1).1.view) ⟨1,[(0,.var (d.type 1).2.cells)]⟩:=Jv 1 1 d (by omega) (by omega) (by omega) h
end Go.Ab
namespace Go.Ab
open Go Go.Proofs
set_option maxRecDepth 100000
set_option maxHeartbeats 2000000
set_option linter.all false
theorem Qz{x:Ty}(h:x.err=0)(hk:x.kind=1):x=Ag:=(Ty.eq_iff _ _).2 ⟨hk,Le ((Ty.Ad x).1 h).1 (by omega)⟩
theorem SC{x:Ty}(h:x.err=0)(hk:x.kind=2):x=An:=(Ty.eq_iff _ _).2 ⟨hk,Le ((Ty.Ad x).1 h).1 (by omega)⟩
end Go.Ab
namespace Go.Ab
open Go Go.Proofs
set_option maxRecDepth 100000
set_option maxHeartbeats 4000000
set_option linter.all false
theorem Mo:∀(b:Nat) (t:Tm),t.full<=b->b<1099511627776->PC E 134 [.agg t.view] (.agg t.view):=by
 intro b;induction b with
 |zero=>intro t h;have:=t.Aa;omega
 |succ b ih=>
 intro t hsz hb;have hsz':=Tm.Af t;have hlen:=zd Tm.full Tm.Aa t.args;have hty:=uk _ t.ty (Wj _) (by omega);refine M.F Tryz.func134 ?_;(repeat' first|refine M.gw ?_|refine M.c2 (hty) ?_|fail);refine AW.range t.args.length (fun m=>True)
  (fun m=>([(1,.ptr 0 0),(2,.ptr 1 0),(3,.ptr 2 0),(15,.s .tm t.args),(16,.i t.args.length),(17,.i m)],⟨4,[(0,.var t.view),(1,.var [.i 0,.i 0,.i 0,.slice .nil (.t .ty []),.slice .nil (.t .tm [])]),(2,.var [.i t.kind,.i t.index,.i t.ty.kind,.s .ty t.ty.args,.slice (.own 3) (.t .tm (t.args.take m))]),(3,.row)]⟩))
  (by omega) (fun m=>rfl) (fun m=>rfl) rfl trivial (M.W [some 0,some 1,some 2,none]) ?_ ?_
 .intro m hm hP;have hs2:=za Tm.full (Wi hm);(repeat' first|refine M.gw ?_|refine M.c2 (ih _ ?_ ?_) ?_|exact M.le|exact M.lt|fail);exact⟨rfl,trivial,(M.W [some 0,some 1,some 2,some 5] (he:=(by(repeat'(first|exact trivial|exact Or.inr ⟨_,U,rfl⟩|refine And.intro ?_ ?_|refine⟨_,U,_,U,_,U,?_⟩|exact Ao.refl _|exact Ao.of_eq (by simp[Aq.Ay,Wv])));done)))⟩
 .intro hP;(repeat' first|refine M.gw ?_|fail);simp[zk,V.wk,V.Ap,zc,Ty.view,Tm.view]
theorem ue(k:Int):PC E 195 [.i k] (.bool (xg k)):=by
 refine M.F Tryz.func195 ?_;(repeat' first|refine M.gw ?_|refine M.gs ?_ ?_<;>intro h|fail);all_goals(simp_all[zk,V.wk,V.Ap,zc,xg];try omega)
theorem Zzt(f:Fm)(ht:f.ty.size<1099511627776):PC E 222 [.agg f.view] (.bool f.head):=by
 have h1:=PD f.ty;have h2:=OG f.ty ht;have hok:=Ty.Eo f.ty;obtain⟨k,h,ts,fs⟩:=f;simp only[Fm.AQ] at*;have hk:k=1\/k=2\/k=3\/k=4\/k=5\/k=6\/k=7\/(k≠1/\k≠2/\k≠3/\k≠4/\k≠5/\k≠6/\k≠7):=by omega
 rcases hk with rfl|rfl|rfl|rfl|rfl|rfl|rfl|hk
 .cases hn:h.BL with
  |false=>
   rw[hn] at h1;refine M.F Tryz.func222 ?_;(repeat' first|refine M.gw ?_|refine M.c2 (h1) ?_|refine M.bl ?_|fail);simp[zk,V.wk,V.Ap,zc,Fm.head,hn]
  |true=>
   rw[hn] at h1;refine M.F Tryz.func222 ?_;(repeat' first|refine M.gw ?_|refine M.c2 (h1) ?_|refine M.gs ?_ ?_<;>intro h|refine M.bl ?_|fail)
   .have h':ts.length=2:=by simp at h;omega
    have e:((fs.length:Int)==0)=(fs.length==0):=by rw[Xm];simp
    simp[zk,V.wk,V.Ap,zc,Fm.head,hn,h',e]
   .have h':¬ts.length=2:=by simp at h;omega
    simp[zk,V.wk,V.Ap,zc,Fm.head,hn,h']
 all_goals first
  |(cases hn:h.BL with
    |false=>
     rw[hn] at h1;refine M.F Tryz.func222 ?_;(repeat' first|refine M.gw ?_|refine M.c2 (h1) ?_|refine M.bl ?_|refine M.cs ?_ ?_<;>intro h|fail);simp[zk,V.wk,V.Ap,zc,Fm.head,hn];done
    |true=>
     rw[hn] at h1;refine M.F Tryz.func222 ?_;(repeat' first|refine M.gw ?_|refine M.c2 (h1) ?_|refine M.gs ?_ ?_<;>intro h|refine M.bl ?_|fail)
     .have h':ts.length=0:=by simp at h;simp[h]
      have e:((fs.length:Int)==2)=(fs.length==2):=by rw[Xm];simp;omega
      simp[zk,V.wk,V.Ap,zc,Fm.head,hn,h',e]
     .have h':¬ts.length=0:=by simp at h;simpa using h
      simp[zk,V.wk,V.Ap,zc,Fm.head,hn,h'];done)
  |(by_cases hn:h.err=0
    .rw[hn] at h2;refine M.F Tryz.func222 ?_;(repeat' first|refine M.gw ?_|refine M.c2 (h2) ?_|refine M.gs ?_ ?_<;>intro h|refine M.bl ?_|refine M.cs ?_ ?_<;>intro h|fail)
     .have h':ts.length=0:=by simp at h;simp[h]
      have e:((fs.length:Int)==1)=(fs.length==1):=by rw[Xm];simp;omega
      simp[zk,V.wk,V.Ap,zc,Fm.head,hok,hn,h',e]
     .have h':¬ts.length=0:=by simp at h;simpa using h
      simp[zk,V.wk,V.Ap,zc,Fm.head,hok,hn,h'];done
    .have hb:(h.err !=0)=true:=by simpa using hn
     refine M.F Tryz.func222 ?_;(repeat' first|refine M.gw ?_|refine M.c2 (h2) ?_|refine M.gs ?_ ?_<;>intro h|refine M.bl ?_|refine M.cs ?_ ?_<;>intro h|fail)
     .simp[zk,V.wk,V.Ap,zc,Fm.head,hok,hn]
     all_goals(exfalso;simp_all;done))
  |(refine M.F Tryz.func222 ?_
    (repeat' first|refine M.gw ?_|refine M.bl ?_|refine M.cs ?_ ?_<;>intro h|fail);all_goals first
     |(exfalso;simp_all;done)
     |(simp[zk,V.wk,V.Ap,zc,Fm.head,hk];done))
end Go.Ab
