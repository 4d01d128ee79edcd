/- A part of this seat's proofs. No conditions. -/
import Derived.Test.YtmhcohcihajegaaGreatDoorHS5
namespace Go.Ab
open Go Go.Proofs
set_option maxRecDepth 100000
set_option maxHeartbeats 4000000
set_option linter.all false
def HT(n:Nat):Prop:=∀(d:Dk) (g:List Ty) (t:Ty) (k:Int),k=(n:Int)-2->d.ok->smalls g->t.small->1<=n->(n=1->t.size=1)->g.length+3*n<=10000->
 AC E 58 [.ptr 0 0,.s .ty g,.agg t.view,.i k] ⟨1,[(0,.var d.cells)]⟩ (.agg (Dk.tm n d g t).1.view) ⟨1,[(0,.var (Dk.tm n d g t).2.cells)]⟩
theorem Zr8{n:Nat}(hn:n<=7)(d:Dk){g:List Ty}{t:Ty}(hg:smalls g)(ht:t.small)(h1:1<=n)(h2:n=1->t.size=1):(Dk.tm n d g t).1.full<=50000:=by
 have:=(Dk.tm_mk n d g t hg ht h1 h2).full hg ht;have:3^n<=3^7:=Nat.pow_le_pow_right (by omega) hn;omega
theorem Ygy(n:Nat)(H:HT n)(hn:n<=7)(depth:Int)(hdep:depth=(n:Int)-1)(d:Dk)(hd:d.ok)(g:List Ty)(t:Ty)(hg:smalls g)(ht:t.small)(h0:n=0->t.size=1)(hl:g.length+3*(n+1)<=10000):
 AW E Tryz.f58.ntmps 1 (wr [1,1,1,1] (uo Tryz.f58)) [(0,.ptr 0 0),(1,.s .ty g),(3,.i depth),(6,.ptr 1 0),(8,.ptr 2 0)]
  ⟨3,[(0,.var d.cells),(1,.var t.view),(2,.var [.i 0,.i 0,.i 0,.slice .nil (.t .ty []),.slice .nil (.t .tm [])])]⟩
  (Zff E 1 Tryz.f58.results.toList (.agg (d.fin (Dk.tm n) (decide (2<=n)) g t).1.view) ⟨1,[(0,.var (d.fin (Dk.tm n) (decide (2<=n)) g t).2.cells)]⟩):=by
 have hF:1<=n->∀d,∀t,t.small->(n=1->t.size=1)->(Dk.tm n d g t).1.full<=50000:=fun h1 d t ht h2=>Zr8 hn d hg ht h1 h2;have hok:∀d g t,d.ok->(Dk.tm n d g t).2.ok:=fun d g t h=>Dk.tm_ok n d g t h;rcases Zez ht with rfl|rfl|rfl|⟨a,b,ha,hb,h1,h2,rfl|rfl⟩
 ·show AW _ _ _ (Code.seq _ _) _ _ _;by_cases hp:2<=n
  ·have hp':depth>0:=by omega
   have e:d.fin (Dk.tm n) (decide (2<=n)) g natT=if(d.next 5).1=0 then(sT (Dk.tm n (d.next 5).2 g natT).1,(Dk.tm n (d.next 5).2 g natT).2)
    else if(d.next 5).1=1 then(apT (apT plusT (Dk.tm n (d.next 5).2 g natT).1) (Dk.tm n (Dk.tm n (d.next 5).2 g natT).2 g natT).1,(Dk.tm n (Dk.tm n (d.next 5).2 g natT).2 g natT).2)
    else if(d.next 5).1=2 then(apT (apT subT (Dk.tm n (d.next 5).2 g natT).1) (Dk.tm n (Dk.tm n (d.next 5).2 g natT).2 g natT).1,(Dk.tm n (Dk.tm n (d.next 5).2 g natT).2 g natT).2)
    else(Zhy ((d.next 5).2.next 3).1,((d.next 5).2.next 3).2):=by simp[Dk.fin,natT,hp]
   have hd5:=Dk.next_ok hd 5;have hx5:=Za2 d 5 hd (by omega);have hx3:=Za2 (d.next 5).2 3 hd5 (by omega);have a1:=H (d.next 5).2 g natT (depth-1) (by omega) hd5 hg zh (by omega) (by omega) (by omega);have a2:=H (Dk.tm n (d.next 5).2 g natT).2 g natT (depth-1) (by omega) (hok _ _ _ hd5) hg zh (by omega) (by omega) (by omega);have f1:=hF (by omega) (d.next 5).2 natT zh (by omega);have f2:=hF (by omega) (Dk.tm n (d.next 5).2 g natT).2 natT zh (by omega);have hs:=n_c 5 [(Dk.tm n (d.next 5).2 g natT).1] (by simp;omega);have p1:plusT.full<=18:=by decide
   have p2:subT.full<=36:=by decide
   have ap:=Zjx plusT [(Dk.tm n (d.next 5).2 g natT).1,(Dk.tm n (Dk.tm n (d.next 5).2 g natT).2 g natT).1] (by simp;omega);have asb:=Zjx subT [(Dk.tm n (d.next 5).2 g natT).1,(Dk.tm n (Dk.tm n (d.next 5).2 g natT).2 g natT).1] (by simp;omega);have hnum:=Ybk ((d.next 5).2.next 3).1;(repeat' first|refine M.w6 @hx5 @hx3 @a1 @a2 @Yer @Yl3 ?_|refine M.c2 (ap) ?_|refine M.c2 (asb) ?_|refine M.c2 (hnum) ?_|refine M.c2 (hs) ?_|refine M.bl ?_|refine M.cs ?_ ?_<;>intro h|fail);all_goals first
    |exact absurd hp' (by simpa using h)
    |skip
   ·have e:=e.trans (if_pos (by simpa using h))
    (exact M.n2 rh1 (h6:=(by(repeat'(first|exact trivial|refine And.intro ?_ ?_|refine⟨_,U,_,U,_,U,?_⟩|exact VLe.of_eq (by simp[Sto.upd,e,sT])));done)) (h8:=(by simp[zn,V.wk,V.wks,za,Ty.view,Tm.view,e,sT])))
   ·rename_i h0;have e:=e.trans ((if_neg (by simpa using h0)).trans (if_pos (by simpa using h)))
    (exact M.n2 rh1 (h6:=(by(repeat'(first|exact trivial|refine And.intro ?_ ?_|refine⟨_,U,_,U,_,U,?_⟩|exact VLe.of_eq (by simp[Sto.upd,e,apT])));done)) (h8:=(by simp[zn,V.wk,V.wks,za,Ty.view,Tm.view,e,apT])))
   ·rename_i h0 h1;have e:=e.trans ((if_neg (by simpa using h0)).trans ((if_neg (by simpa using h1)).trans (if_pos (by simpa using h))))
    (exact M.n2 rh1 (h6:=(by(repeat'(first|exact trivial|refine And.intro ?_ ?_|refine⟨_,U,_,U,_,U,?_⟩|exact VLe.of_eq (by simp[Sto.upd,e,apT])));done)) (h8:=(by simp[zn,V.wk,V.wks,za,Ty.view,Tm.view,e,apT])))
   ·rename_i h0 h1;have e:=e.trans ((if_neg (by simpa using h0)).trans ((if_neg (by simpa using h1)).trans (if_neg (by simpa using h))))
    (exact M.n2 rh1 (h6:=(by(repeat'(first|exact trivial|refine And.intro ?_ ?_|refine⟨_,U,_,U,_,U,?_⟩|exact VLe.of_eq (by simp[Sto.upd,e])));done)) (h8:=(by simp[zn,V.wk,V.wks,za,Ty.view,Tm.view,e])))
  ·have hp':¬depth>0:=by omega
   have e:d.fin (Dk.tm n) (decide (2<=n)) g natT=(Zhy (d.next 3).1,(d.next 3).2):=by simp[Dk.fin,natT,hp]
   have hx3:=Za2 d 3 hd (by omega);have hnum:=Ybk (d.next 3).1;(repeat' first|refine M.v2 @hx3 @hnum ?_|refine M.cs ?_ ?_<;>intro h|fail);all_goals first
    |exact absurd hp' (by simpa using h)
    |skip
   (exact M.n2 rh1 (h6:=(by(repeat'(first|exact trivial|refine And.intro ?_ ?_|refine⟨_,U,_,U,_,U,?_⟩|exact VLe.of_eq (by simp[Sto.upd,e])));done)) (h8:=(by simp[zn,V.wk,V.wks,za,Ty.view,Tm.view,e])))
 ·show AW _ _ _ (Code.seq _ _) _ _ _;have hN:=n_c 7 [] (by simp);by_cases hp:2<=n
  ·have hp':depth>0:=by omega
   have e:d.fin (Dk.tm n) (decide (2<=n)) g listT=if(d.next 2).1=0 then(nT 8 [(Dk.tm n (d.next 2).2 g natT).1,(Dk.tm n (Dk.tm n (d.next 2).2 g natT).2 g listT).1],(Dk.tm n (Dk.tm n (d.next 2).2 g natT).2 g listT).2) else(nT 7 [],(d.next 2).2):=by simp[Dk.fin,listT,hp]
   have hd2:=Dk.next_ok hd 2;have hx2:=Za2 d 2 hd (by omega);have a1:=H (d.next 2).2 g natT (depth-1) (by omega) hd2 hg zh (by omega) (by omega) (by omega);have a2:=H (Dk.tm n (d.next 2).2 g natT).2 g listT (depth-1) (by omega) (hok _ _ _ hd2) hg xe (by omega) (by omega) (by omega);have f1:=hF (by omega) (d.next 2).2 natT zh (by omega);have f2:=hF (by omega) (Dk.tm n (d.next 2).2 g natT).2 listT xe (by omega);have hs:=n_c 8 [(Dk.tm n (d.next 2).2 g natT).1,(Dk.tm n (Dk.tm n (d.next 2).2 g natT).2 g listT).1] (by simp;omega);(repeat' first|refine M.w6 @hx2 @a1 @a2 @u6 @hs @hN ?_|refine M.gs ?_ ?_<;>intro h|refine M.bl ?_|refine M.cs ?_ ?_<;>intro h|fail);all_goals first
    |exact absurd hp' (by simpa using h)
    |skip
   ·have e:=e.trans (if_pos (by simpa using h))
    (exact M.n2 rh1 (h6:=(by(repeat'(first|exact trivial|refine And.intro ?_ ?_|refine⟨_,U,_,U,_,U,?_⟩|exact VLe.of_eq (by simp[Sto.upd,e,nT])));done)) (h8:=(by simp[zn,V.wk,V.wks,za,Ty.view,Tm.view,e,nT])))
   ·have e:=e.trans (if_neg (by simpa using h))
    (exact M.n2 rh1 (h6:=(by(repeat'(first|exact trivial|refine And.intro ?_ ?_|refine⟨_,U,_,U,_,U,?_⟩|exact VLe.of_eq (by simp[Sto.upd,e,nT])));done)) (h8:=(by simp[zn,V.wk,V.wks,za,Ty.view,Tm.view,e,nT])))
  ·have hp':¬depth>0:=by omega
   have e:d.fin (Dk.tm n) (decide (2<=n)) g listT=(nT 7 [],d):=by simp[Dk.fin,listT,hp]
   (repeat' first|refine M.w1 @hN ?_|refine M.gs ?_ ?_<;>intro h|refine M.bl ?_|fail);all_goals first
    |exact absurd hp' (by simpa using h)
    |skip
   (exact M.n2 rh1 (h6:=(by(repeat'(first|exact trivial|refine And.intro ?_ ?_|refine⟨_,U,_,U,_,U,?_⟩|exact VLe.of_eq (by simp[Sto.upd,e,nT])));done)) (h8:=(by simp[zn,V.wk,V.wks,za,Ty.view,Tm.view,e,nT])))
 ·show AW _ _ _ (Code.seq _ _) _ _ _;have hN:=n_c 13 [] (by simp);have e:d.fin (Dk.tm n) (decide (2<=n)) g Zml=(nT 13 [],d):=by simp[Dk.fin,Zml]
  refine M.v1 @hN ?_
  (exact M.n2 rh1 (h8:=(by simp[zn,V.wk,V.wks,za,Ty.view,Tm.view,e,nT])))
 ·have hn0:n≠0:=fun h=>by have:=h0 h;rw[Za7] at this;omega
  have sa:=z8 ha h1;have sb:=z8 hb h2;have e:d.fin (Dk.tm n) (decide (2<=n)) g (Zdm a b)=(nT 10 [(Dk.tm n d g a).1,(Dk.tm n (Dk.tm n d g a).2 g b).1],(Dk.tm n (Dk.tm n d g a).2 g b).2):=by simp[Dk.fin,Zdm]
  have a1:=H d g a (depth-1) (by omega) hd hg sa (by omega) (fun _=>h1) (by omega);have a2:=H (Dk.tm n d g a).2 g b (depth-1) (by omega) (hok _ _ _ hd) hg sb (by omega) (fun _=>h2) (by omega);have f1:=hF (by omega) d a sa (fun _=>h1);have f2:=hF (by omega) (Dk.tm n d g a).2 b sb (fun _=>h2);have hs:=n_c 10 [(Dk.tm n d g a).1,(Dk.tm n (Dk.tm n d g a).2 g b).1] (by simp;omega);have l0:0<(Zdm a b).args.length:=by simp[Zdm]
  have l1:1<(Zdm a b).args.length:=by simp[Zdm]
  show AW _ _ _ (Code.seq _ _) _ _ _;refine M.v3 @a1 @a2 @hs ?_
  (exact M.n2 rh1 (h8:=(by simp[zn,V.wk,V.wks,za,Ty.view,Tm.view,e,nT])))
 ·have hn0:n≠0:=fun h=>by have:=h0 h;rw[vu] at this;omega
  have sa:=z8 ha h1;have sb:=z8 hb h2;have hga:=zj hg (ze sa zi);have e:d.fin (Dk.tm n) (decide (2<=n)) g (xj a b)=(lmT a (Dk.tm n d (g++[a]) b).1,(Dk.tm n d (g++[a]) b).2):=by simp[Dk.fin,xj]
  have a1:=H d (g++[a]) b (depth-1) (by omega) hd hga sb (by omega) (fun _=>h2) (by simp;omega);have f1:=Zr8 hn d hga sb (by omega) (fun _=>h2);have hlo:=Za5 g [a] (by simp;omega);have hs:=t_c 2 a [(Dk.tm n d (g++[a]) b).1] (by simp;omega) (by omega);have l0:0<(xj a b).args.length:=by simp[xj]
  have l1:1<(xj a b).args.length:=by simp[xj]
  show AW _ _ _ (Code.seq _ _) _ _ _;refine M.v3 @a1 @hlo @hs ?_
  (exact M.n2 rh1 (h8:=(by simp[zn,V.wk,V.wks,za,Ty.view,Tm.view,e,lmT])))
theorem Zvm(d:Dk):(Zhy (d.next 3).1).full<=6:=by
 obtain⟨m,hm,e⟩:=Zh6 d;rw[e,Zfo];omega
theorem Zus{g:List Ty}(h:smalls g):(g.map Ty.size).sum<=3*g.length:=by
 induction g with
 |nil=>simp
 |cons t l ih=>
  have h1:=(h t (by simp)).2;have h2:=ih fun x hx=>h x (by simp[hx]);simp only[List.map_cons,List.sum_cons,List.length_cons];omega
theorem Zqw{g:List Ty}{t:Ty}(h:∀j,j<g.length->Zu6 g t j=false):Zvh g t=none:=by
 simp only[Zvh,List.find?_eq_none,List.mem_range];intro j hj;simp[h j hj]
theorem Yc3{g:List Ty}{t:Ty}{m:Nat}(hm:m<g.length)(h:∀j,j<m->Zu6 g t j=false)(h1:Zu6 g t m=true):Zvh g t=some m:=by
 simp only[Zvh,List.find?_range_eq_some,List.mem_range];exact⟨h1,hm,fun j hj=>by simp[h j hj]⟩
theorem Yj5(n:Nat)(H:HT n)(hn:n<=7)(depth:Int)(hdep:depth=(n:Int)-1)(d:Dk)(hd:d.ok)(g:List Ty)(t:Ty)(hg:smalls g)(ht:t.small)(h0:n=0->t.size=1)(hl:g.length+3*(n+1)<=10000):
 AW E Tryz.f58.ntmps 1 (wr [1,1,1] (uo Tryz.f58)) [(0,.ptr 0 0),(1,.s .ty g),(3,.i depth),(6,.ptr 1 0),(8,.ptr 2 0)]
  ⟨3,[(0,.var d.cells),(1,.var t.view),(2,.var [.i 0,.i 0,.i 0,.slice .nil (.t .ty []),.slice .nil (.t .tm [])])]⟩
  (Zff E 1 Tryz.f58.results.toList (.agg (d.mid (Dk.tm n) (decide (2<=n)) g t).1.view) ⟨1,[(0,.var (d.mid (Dk.tm n) (decide (2<=n)) g t).2.cells)]⟩):=by
 have hok:∀d g t,d.ok->(Dk.tm n d g t).2.ok:=fun d g t h=>Dk.tm_ok n d g t h;by_cases hp:2<=n;case neg=>
  have hp':¬depth>0:=by omega
  have e:d.mid (Dk.tm n) (decide (2<=n)) g t=d.fin (Dk.tm n) (decide (2<=n)) g t:=by simp[Dk.mid,hp]
  show AW _ _ _ (Code.seq _ _) _ _ _;(repeat' first|refine M.o0 ?_|refine M.z1 29 ?_|refine M.cs ?_ ?_<;>intro h|refine M.gk ?_|fail)
  ·exact absurd (by simpa using h) hp'
  ·rw[e];exact AW.weak (M.W rh3) (Ygy n H hn depth hdep d hd g t hg ht h0 hl)
 have hp':depth>0:=by omega
 have hx8:=Za2 d 8 hd (by omega);have e:=Dk.mid_pos (rec:=Dk.tm n) (d:=d) (g:=g) (t:=t) (pos:=decide (2<=n)) (by simpa using hp);have hD:=Dk.next_ok hd 8;have tp:AC E 54 [.ptr 0 0,.i 0] ⟨1,[(0,.var (d.next 8).2.cells)]⟩ (.agg ((d.next 8).2.type 0).1.view) ⟨1,[(0,.var ((d.next 8).2.type 0).2.cells)]⟩:=Zlg 0 0 (d.next 8).2 (by omega) (by omega) (by omega) hD;have hS:=Dk.type0 (d.next 8).2;have hD1:=Dk.type_ok 0 _ hD;generalize (d.next 8).1=kk at*;generalize (d.next 8).2=W at*;generalize (W.type 0).1=S at*;generalize (W.type 0).2=D1 at*;have hSs:=z8 hS.1 hS.2;have hF:∀d g t,smalls g->t.small->(Dk.tm n d g t).1.full<=50000:=fun d g t hg ht=>Zr8 hn d hg ht (by omega) (by omega);have hH:∀d g t,d.ok->smalls g->t.small->g.length+3*n<=10000->AC E 58 [.ptr 0 0,.s .ty g,.agg t.view,.i (depth-1)] ⟨1,[(0,.var d.cells)]⟩ (.agg (Dk.tm n d g t).1.view) ⟨1,[(0,.var (Dk.tm n d g t).2.cells)]⟩:=
  fun d g t h1 h2 h3 h4=>H d g t (depth-1) (by omega) h1 h2 h3 (by omega) (by omega) h4
 have hts:=ht.2;have ht1:t.size<1000000:=by omega
 have gS:=zj hg (ze hSs zi);have g2:=zj hg (ze zh (ze ht zi));have g3:=zj hg (ze zh (ze xe (ze ht zi)));show AW _ _ _ (Code.seq _ _) _ _ _;by_cases k0:kk=0
 ·subst k0;simp only[if_true] at e;have a:=hH D1 (g++[S]) t hD1 gS ht (by simp;omega);have b:=hH _ g S (hok _ (g++[S]) t hD1) hg hSs (by omega);have fa:=hF D1 (g++[S]) t gS ht;have fb:=hF (Dk.tm n D1 (g++[S]) t).2 g S hg hSs;have lo:=Za5 g [S] (by simp;omega);have c1:=t_c 2 S [(Dk.tm n D1 (g++[S]) t).1] (by simp;omega) (by omega);have c2:=n_c 3 [lmT S (Dk.tm n D1 (g++[S]) t).1,(Dk.tm n (Dk.tm n D1 (g++[S]) t).2 g S).1] (by simp[lmT,Tm.full,Tm.fulls];omega);(repeat' first|refine M.o6 @hx8 @tp @a @b @lo @c1 ?_|refine M.c2 (c2) ?_|refine M.z1 29 ?_|refine M.bl ?_|refine M.cs ?_ ?_<;>intro h|refine M.gk ?_|fail)
  ·(exact M.n2 rh1 (h6:=(by(repeat'(first|exact trivial|refine And.intro ?_ ?_|refine⟨_,U,_,U,_,U,?_⟩|exact VLe.of_eq (by simp[Sto.upd,e,Dk.m0,apT])));done)) (h8:=(by simp[zn,V.wk,V.wks,za,Ty.view,Tm.view,e,Dk.m0,apT])))
  ·exact absurd hp' (by simpa using h)
 rw[if_neg k0] at e;by_cases k1:kk=1
 ·subst k1;rw[if_pos rfl] at e;have a:=hH D1 g t hD1 hg ht (by omega);have b:=hH _ g S (hok _ g t hD1) hg hSs (by omega);have fa:=hF D1 g t hg ht;have fb:=hF (Dk.tm n D1 g t).2 g S hg hSs;have c1:=n_c 10 [(Dk.tm n D1 g t).1,(Dk.tm n (Dk.tm n D1 g t).2 g S).1] (by simp;omega);have c2:=n_c 11 [nT 10 [(Dk.tm n D1 g t).1,(Dk.tm n (Dk.tm n D1 g t).2 g S).1]] (by simp[nT,Tm.full,Tm.fulls,Ty.size,Ty.sizes];omega);(repeat' first|refine M.o6 @hx8 @tp @a @b @c1 @c2 ?_|refine M.z1 29 ?_|refine M.bl ?_|refine M.cs ?_ ?_<;>intro h|refine M.gk ?_|fail)
  ·(exact M.n2 rh1 (h6:=(by(repeat'(first|exact trivial|refine And.intro ?_ ?_|refine⟨_,U,_,U,_,U,?_⟩|exact VLe.of_eq (by simp[Sto.upd,e,Dk.m1,nT])));done)) (h8:=(by simp[zn,V.wk,V.wks,za,Ty.view,Tm.view,e,Dk.m1,nT])))
  ·exact absurd hp' (by simpa using h)
 rw[if_neg k1] at e;by_cases k2:kk=2
 ·subst k2;rw[if_pos rfl] at e;have a:=hH W (g++[natT,t]) t hD g2 ht (by simp;omega);have b:=hH _ g t (hok _ (g++[natT,t]) t hD) hg ht (by omega);have hdb:=hok _ g t (hok _ (g++[natT,t]) t hD);have fa:=hF W (g++[natT,t]) t g2 ht;have fb:=hF (Dk.tm n W (g++[natT,t]) t).2 g t hg ht;have lo:=Za5 g [natT,t] (by simp;omega);have nx:=Za2 _ 3 hdb (by omega);have nu:=Ybk ((Dk.tm n (Dk.tm n W (g++[natT,t]) t).2 g t).2.next 3).1;have fn:=Zvm (Dk.tm n (Dk.tm n W (g++[natT,t]) t).2 g t).2;have en:natT.size=1:=rfl;have c1:=t_c 2 t [(Dk.tm n W (g++[natT,t]) t).1] (by simp;omega) (by omega);have c2:=t_c 2 natT [lmT t (Dk.tm n W (g++[natT,t]) t).1] (by simp[lmT,Tm.full,Tm.fulls];omega) (by omega);have c3:=t_c 6 t [(Dk.tm n (Dk.tm n W (g++[natT,t]) t).2 g t).1,lmT natT (lmT t (Dk.tm n W (g++[natT,t]) t).1),Zhy ((Dk.tm n (Dk.tm n W (g++[natT,t]) t).2 g t).2.next 3).1] (by simp[lmT,Tm.full,Tm.fulls];omega) (by omega);(repeat' first|refine M.o6 @u6 @hx8 @a @b @lo @nx ?_|refine M.c2 (nu) ?_|refine M.c2 (c1) ?_|refine M.c2 (c2) ?_|refine M.c2 (c3) ?_|refine M.z1 29 ?_|refine M.bl ?_|refine M.cs ?_ ?_<;>intro h|refine M.gk ?_|fail)
  ·(exact M.n2 rh1 (h6:=(by(repeat'(first|exact trivial|refine And.intro ?_ ?_|refine⟨_,U,_,U,_,U,?_⟩|exact VLe.of_eq (by simp[Sto.upd,e,Dk.m2,hT])));done)) (h8:=(by simp[zn,V.wk,V.wks,za,Ty.view,Tm.view,e,Dk.m2,hT])))
  ·exact absurd hp' (by simpa using h)
 rw[if_neg k2] at e;by_cases k3:kk=3
 ·subst k3;rw[if_pos rfl] at e;have a:=hH W (g++[natT,listT,t]) t hD g3 ht (by simp;omega);have b:=hH _ g t (hok _ (g++[natT,listT,t]) t hD) hg ht (by omega);have c:=hH _ g listT (hok _ g t (hok _ (g++[natT,listT,t]) t hD)) hg xe (by omega);have fa:=hF W (g++[natT,listT,t]) t g3 ht;have fb:=hF (Dk.tm n W (g++[natT,listT,t]) t).2 g t hg ht;have fc:=hF (Dk.tm n (Dk.tm n W (g++[natT,listT,t]) t).2 g t).2 g listT hg xe;have lo:=Za5 g [natT,listT,t] (by simp;omega);have en:natT.size=1:=rfl;have el:listT.size=1:=rfl;have c1:=t_c 2 t [(Dk.tm n W (g++[natT,listT,t]) t).1] (by simp;omega) (by omega);have c2:=t_c 2 listT [lmT t (Dk.tm n W (g++[natT,listT,t]) t).1] (by simp[lmT,Tm.full,Tm.fulls];omega) (by omega);have c3:=t_c 2 natT [lmT listT (lmT t (Dk.tm n W (g++[natT,listT,t]) t).1)] (by simp[lmT,Tm.full,Tm.fulls];omega) (by omega);have c4:=t_c 9 t [(Dk.tm n (Dk.tm n W (g++[natT,listT,t]) t).2 g t).1,lmT natT (lmT listT (lmT t (Dk.tm n W (g++[natT,listT,t]) t).1)),(Dk.tm n (Dk.tm n (Dk.tm n W (g++[natT,listT,t]) t).2 g t).2 g listT).1] (by simp[lmT,Tm.full,Tm.fulls];omega) (by omega);(repeat' first|refine M.o6 @u6 @Za3 @hx8 @a @b @c ?_|refine M.c2 (lo) ?_|refine M.c2 (c1) ?_|refine M.c2 (c2) ?_|refine M.c2 (c3) ?_|refine M.c2 (c4) ?_|refine M.z1 29 ?_|refine M.bl ?_|refine M.cs ?_ ?_<;>intro h|refine M.gk ?_|fail)
  ·(exact M.n2 rh1 (h6:=(by(repeat'(first|exact trivial|refine And.intro ?_ ?_|refine⟨_,U,_,U,_,U,?_⟩|exact VLe.of_eq (by simp[Sto.upd,e,Dk.m3,hT])));done)) (h8:=(by simp[zn,V.wk,V.wks,za,Ty.view,Tm.view,e,Dk.m3,hT])))
  ·exact absurd hp' (by simpa using h)
 rw[if_neg k3] at e;by_cases k4:kk=4
 ·subst k4;rw[if_pos rfl] at e;have a:=hH D1 g S hD1 hg hSs (by omega);have b:=hH _ g t (hok _ g S hD1) hg ht (by omega);have fa:=hF D1 g S hg hSs;have fb:=hF (Dk.tm n D1 g S).2 g t hg ht;have c1:=n_c 10 [(Dk.tm n D1 g S).1,(Dk.tm n (Dk.tm n D1 g S).2 g t).1] (by simp;omega);have c2:=n_c 12 [nT 10 [(Dk.tm n D1 g S).1,(Dk.tm n (Dk.tm n D1 g S).2 g t).1]] (by simp[nT,Tm.full,Tm.fulls,Ty.size,Ty.sizes];omega);(repeat' first|refine M.o6 @hx8 @tp @a @b @c1 @c2 ?_|refine M.z1 29 ?_|refine M.bl ?_|refine M.cs ?_ ?_<;>intro h|refine M.gk ?_|fail)
  ·(exact M.n2 rh1 (h6:=(by(repeat'(first|exact trivial|refine And.intro ?_ ?_|refine⟨_,U,_,U,_,U,?_⟩|exact VLe.of_eq (by simp[Sto.upd,e,Dk.m4,nT])));done)) (h8:=(by simp[zn,V.wk,V.wks,za,Ty.view,Tm.view,e,Dk.m4,nT])))
  ·exact absurd hp' (by simpa using h)
 rw[if_neg k4] at e;by_cases k5:kk=5
 ·subst k5;rw[if_pos rfl] at e;(repeat' first|refine M.o1 @hx8 ?_|refine M.z1 29 ?_|refine M.bl ?_|refine M.cs ?_ ?_<;>intro h|refine M.gk ?_|fail);all_goals first
   |exact absurd hp' (by simpa using h)
   |skip
  refine M.rp g.length (fun m=>∀j,j<m->Zu6 g t j=false)
   (fun m=>([(0,.ptr 0 0),(1,.s .ty g),(3,.i depth),(6,.ptr 1 0),(8,.ptr 2 0),(176,.i g.length),(177,.i m)],⟨3,[(0,.var W.cells),(1,.var t.view),(2,.var [.i 0,.i 0,.i 0,.slice .nil (.t .ty []),.slice .nil (.t .tm [])])]⟩))
   (by intro j hj;omega) (M.W rh3) ?_ ?_
  ·intro m hm hP;have hm2:g.length-1-m<g.length:=by omega
   have hat:at0 g (g.length-1-m)=g[g.length-1-m]:=Zn4 hm2;have hgs:(g[g.length-1-m]).small:=hg _ (List.getElem_mem hm2);have hstep:∀b,Zu6 g t m=b->b=false->∀j,j<m+1->Zu6 g t j=false:=fun b hb hf j hj=>by
    by_cases hjm:j=m
    ·rw[hjm,hb,hf]
    ·exact hP j (by omega)
   have hfn:Zu6 g t m=((g[g.length-1-m]).kind==4&&decide (at0 (g[g.length-1-m]).args 1=t)):=by simp only[Zu6,hat]
   by_cases hk4:(g[g.length-1-m]).kind=4
   ·obtain ⟨p,q,hpq⟩:=Ty.args_two hgs.1 (.inr hk4);have l0:0<(g[g.length-1-m]).args.length:=by rw[hpq];simp
    have l1:1<(g[g.length-1-m]).args.length:=by rw[hpq];simp
    have sm:=wh _ ((g[g.length-1-m]).args[1]) t (Nat.le_refl _) (by
     have h1:=zc Ty.size (List.getElem_mem l1);have h2:=(g[g.length-1-m]).size_eq;have h3:=hgs.2;omega)
    have ha1:at0 (g[g.length-1-m]).args 1=(g[g.length-1-m]).args[1]:=Zn4 l1;have ha0:at0 (g[g.length-1-m]).args 0=(g[g.length-1-m]).args[0]:=Zn4 l0;rw[ha1,beq_iff_eq.2 hk4,Bool.true_and] at hfn;have sm0:((g[g.length-1-m]).args[0]).small:=by
     have h1:=zc Ty.size (List.getElem_mem l0);have h2:=(g[g.length-1-m]).size_eq;have h3:=hgs.2;have h4:=hgs.1;rw[Ty.shape_eq,Bool.and_eq_true] at h4;exact⟨List.all_eq_true.1 h4.2 _ (List.getElem_mem l0),by omega⟩
    have a:=hH W g ((g[g.length-1-m]).args[0]) hD hg sm0 (by omega);have fa:=hF W g ((g[g.length-1-m]).args[0]) hg sm0;have vc:=Zdf m;have c1:=n_c 3 [vT m,(Dk.tm n W g ((g[g.length-1-m]).args[0])).1] (by simp[vT,Tm.full,Tm.fulls,Ty.size,Ty.sizes];omega);(repeat' first|refine M.o0 ?_|refine M.z1 29 ?_|refine M.gk ?_|fail);refine L.ixt (g.length-1-m) rfl rfl rfl rfl (by omega) rfl rfl hm2 ?_;(repeat' first|refine M.o4 @sm @vc @a @c1 ?_|refine M.gs ?_ ?_<;>intro h|refine M.z1 29 ?_|refine M.cs ?_ ?_<;>intro h|refine M.gk ?_|fail)
    ·have hf:Zu6 g t m=true:=hfn.trans h;have e2:W.m5 (Dk.tm n) (decide (2<=n)) g t=(apT (vT m) (Dk.tm n W g ((g[g.length-1-m]).args[0])).1,(Dk.tm n W g ((g[g.length-1-m]).args[0])).2):=by unfold Dk.m5;rw[Yc3 hm hP hf];simp only[hat,ha0]
     rw[e2] at e
     (exact M.n2 rh1 (h6:=(by(repeat'(first|exact trivial|refine And.intro ?_ ?_|refine⟨_,U,_,U,_,U,?_⟩|exact VLe.of_eq (by simp[Sto.upd,e,apT,vT])));done)) (h8:=(by simp[zn,V.wk,V.wks,za,Ty.view,Tm.view,e,apT,vT])))
    ·exact ⟨rfl,hstep _ hfn h,(M.W rh3)⟩
    ·exact absurd hk4 (by simpa using h)
   ·repeat' (first|refine M.o0 ?_|refine M.z1 29 ?_|refine M.gk ?_|fail)
    refine L.ixt (g.length-1-m) rfl rfl rfl rfl (by omega) rfl rfl hm2 ?_;(repeat' first|refine M.o0 ?_|refine M.gs ?_ ?_<;>intro h|refine M.z1 29 ?_|refine M.gk ?_|fail)
    ·exact absurd (by simpa using h) hk4
    ·have hk4':((g[g.length-1-m]).kind==4)=false:=by simpa using hk4
     rw[hk4',Bool.false_and] at hfn;exact⟨rfl,hstep _ hfn rfl,(M.W rh3)⟩
  ·intro hP;repeat'(first|with_reducible refine K.tN ?_|with_reducible refine K.bN ?_)
   have e2:W.m5 (Dk.tm n) (decide (2<=n)) g t=W.fin (Dk.tm n) (decide (2<=n)) g t:=by unfold Dk.m5;rw[Zqw hP]
   rw[e,e2];exact AW.weak (M.W rh3) (Ygy n H hn depth hdep W hD g t hg ht h0 hl)
 rw[if_neg k5] at e;have n0:(kk==0)=false:=by simpa using k0
 (repeat' first|refine M.o1 @hx8 ?_|refine M.z1 29 ?_|refine M.bl ?_|refine M.cs ?_ ?_<;>intro h|refine M.gk ?_|fail);all_goals first
  |exact absurd hp' (by simpa using h)
  |exact absurd (by simpa using h) k0
  |exact absurd (by simpa using h) k1
  |exact absurd (by simpa using h) k2
  |exact absurd (by simpa using h) k3
  |exact absurd (by simpa using h) k4
  |exact absurd (by simpa using h) k5
  |(rw[e];exact AW.weak (M.W rh3) (Ygy n H hn depth hdep W hD g t hg ht h0 hl))
theorem Yl2(n:Nat)(H:HT n)(hn:n<=7)(depth:Int)(hdep:depth=(n:Int)-1)(d:Dk)(hd:d.ok)(g:List Ty)(t:Ty)(hg:smalls g)(ht:t.small)(h0:n=0->t.size=1)(hl:g.length+3*(n+1)<=10000):
 AC E 58 [.ptr 0 0,.s .ty g,.agg t.view,.i depth] ⟨1,[(0,.var d.cells)]⟩ (.agg (d.gen (Dk.tm n) (decide (2<=n)) g t).1.view) ⟨1,[(0,.var (d.gen (Dk.tm n) (decide (2<=n)) g t).2.cells)]⟩:=by
 have hsum:=Zus hg;have hvl:(vj g t).length<=g.length:=by
  simp only[vj,List.length_map];have:=List.length_filter_le (fun i=>decide (g[g.length-1-i]? =some t)) (List.range g.length);simpa using this
 have hv:=Ykn g t (by omega);have hx3:=Za2 d 3 hd (by omega);have hd3:=Dk.next_ok hd 3;have hxl:=Za2 (d.next 3).2 (vj g t).length hd3 (by omega);have m1:=Yj5 n H hn depth hdep d hd g t hg ht h0 hl;have m2:=Yj5 n H hn depth hdep (d.next 3).2 hd3 g t hg ht h0 hl;have hvar:=Zdf;by_cases he:vj g t=[]
 ·have e:d.gen (Dk.tm n) (decide (2<=n)) g t=d.mid (Dk.tm n) (decide (2<=n)) g t:=by unfold Dk.gen;rw[if_pos he]
  have hl0:¬(((vj g t).length:Int)>0):=by rw[he];simp
  refine M.F Tryz.func58 ?_;(repeat' first|refine M.o2 @hv @hx3 ?_|refine M.gs ?_ ?_<;>intro h|refine M.z1 4 ?_|refine M.cs ?_ ?_<;>intro h|refine M.gk ?_|fail)
  ·rename_i h1;exact absurd (by simpa using h1) hl0
  ·rename_i h1;exact absurd (by simpa using h1) hl0
  ·rw[e];exact AW.weak (M.W rh3) m1
 ·have e:d.gen (Dk.tm n) (decide (2<=n)) g t=if 0<(d.next 3).1 then(vT ((vj g t).getD ((d.next 3).2.next (vj g t).length).1.toNat 0),((d.next 3).2.next (vj g t).length).2) else(d.next 3).2.mid (Dk.tm n) (decide (2<=n)) g t:=by unfold Dk.gen;rw[if_neg he]
  have hlp:0<(vj g t).length:=List.length_pos_iff.2 he;have hl0:((vj g t).length:Int)>0:=by omega
  have hbl:=Dk.next_bd (d.next 3).2 (vj g t).length hl0;have hlt:((d.next 3).2.next (vj g t).length).1.toNat<(vj g t).length:=by omega
  refine M.F Tryz.func58 ?_;(repeat' first|refine M.o3 @hv @hx3 @hxl ?_|refine M.gs ?_ ?_<;>intro h|refine M.z1 4 ?_|refine M.cs ?_ ?_<;>intro h|refine M.gk ?_|fail)
  ·refine L.ixt ((d.next 3).2.next (vj g t).length).1.toNat rfl rfl rfl rfl (by omega) rfl rfl hlt ?_;have eg:(vj g t).getD ((d.next 3).2.next (vj g t).length).1.toNat 0=(vj g t)[((d.next 3).2.next (vj g t).length).1.toNat]:=by simp[List.getD_eq_getElem?_getD,hlt]
   rw[if_pos (by simpa using h),eg] at e;(repeat' first|refine M.w0 ?_|refine M.c2 (hvar _) ?_|fail)
   (exact M.n2 rh1 (h6:=(by(repeat'(first|exact trivial|refine And.intro ?_ ?_|refine⟨_,U,_,U,_,U,?_⟩|exact VLe.of_eq (by simp[Sto.upd,e,vT])));done)) (h8:=(by simp[zn,V.wk,V.wks,za,Ty.view,Tm.view,e,vT])))
  ·rw[e,if_neg (by simpa using h)];exact AW.weak (M.W rh3) m2
  ·exact absurd hl0 (by simpa using h)
theorem Zja:∀n,n<=8->HT n
 |0,_=>fun d g t k _ _ _ _ h=>by omega
 |n+1,hn=>fun d g t k hk hd hg ht _ h1 hl=>Yl2 n (Zja n (by omega)) (by omega) k (by omega) d hd g t hg ht (by omega) hl
end Go.Ab
