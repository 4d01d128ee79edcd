/- A part of this seat's proofs. No conditions. -/
import Derived.Test.YtgjekifepogehaaGreatDoorPS2
namespace Go.Ab
open Go Go.Proofs
set_option maxRecDepth 100000
set_option maxHeartbeats 4000000
set_option linter.all false
theorem Zta(d:Dk):(HG (d.next 3).1).full<=6:=by
 obtain⟨m,hm,e⟩:=OE d;rw[e,PY];omega
theorem Zsz{g:List Ty}(h:Am g):(g.map Ty.size).sum<=3*g.length:=by
 induction g with
 |nil=>simp
 |cons t l ih=>
  have h1:=(h t dZ).2;have h2:=ih fun x hx=>h x (by simp[hx]);simp only[ZJ,ZW,ZO];omega
theorem Zp5{g:List Ty}{t:Ty}(h:∀j,j<g.length->Ht g t j=false):LV g t=none:=by
 simp only[LV,List.find?_eq_none,bS];intro j hj;simp[h j hj]
theorem Yb8{g:List Ty}{t:Ty}{m:Nat}(hm:m<g.length)(h:∀j,j<m->Ht g t j=false)(h1:Ht g t m=true):LV g t=some m:=by
 simp only[LV,List.find?_range_eq_some,bS];exact⟨h1,hm,fun j hj=>by simp[h j hj]⟩
theorem YI(n:Nat)(H:HT n)(hn:n<=7)(depth:Int)(hdep:depth=(n:Int)-1)(d:Dk)(hd:d.ok)(g:List Ty)(t:Ty)(hg:Am g)(ht:t.small)(h0:n=0->t.size=1)(hl:g.length+3*(n+1)<=10000):
 AW E Tryz.f12.ntmps 1 (HE [1,1,1] (Of Tryz.f12)) [(0,.ptr 0 0),(1,.s .ty g),(3,.i depth),(6,.ptr 1 0),(8,.ptr 2 0)]
  ⟨3,[(0,.var d.cells),(1,.var t.view),(2,.var [.i 0,.i 0,.i 0,.slice .nil (.t .ty []),.slice .nil (.t .tm [])])]⟩
  (FV E 1 Tryz.f12.results.toList (.agg (d.mid (Dk.tm n) (decide (2<=n)) g t).1.view) ⟨1,[(0,.var (d.mid (Dk.tm n) (decide (2<=n)) g t).2.cells)]⟩):=by
 have hok:∀d g t,d.ok->(Dk.tm n d g t).2.ok:=fun d g t h=>Dk.C5 n d g t h;by_cases hp:2<=n;case neg=>
  have hp':¬depth>0:=dY
  have e:d.mid (Dk.tm n) (decide (2<=n)) g t=d.fin (Dk.tm n) (decide (2<=n)) g t:=by simp[Dk.mid,hp]
  show AW _ _ _ (Code.seq _ _) _ _ _;(repeat' first|refine M.o0 ?_|refine M.z1 29 ?_|refine M.cs ?_ ?_<;>intro h|refine M.gk ?_|fail)
  .exact absurd ek hp'
  .rw[e];exact AW.weak (M.W CI) (QY n H hn depth hdep d hd g t hg ht h0 hl)
 have hp':depth>0:=dY
 have hx8:=vd d 8 hd dY;have e:=Dk.Ju (rec:=Dk.tm n) (d:=d) (g:=g) (t:=t) (pos:=decide (2<=n)) (by simpa using hp);have hD:=Dk.AG hd 8;have tp:AC E 13 [.ptr 0 0,.i 0] ⟨1,[(0,.var (d.next 8).2.cells)]⟩ (.agg ((d.next 8).2.type 0).1.view) ⟨1,[(0,.var ((d.next 8).2.type 0).2.cells)]⟩:=LO 0 0 (d.next 8).2 dY dY dY hD;have hS:=Dk.type0 (d.next 8).2;have hD1:=Dk.BC 0 _ hD;generalize (d.next 8).1=kk at*;generalize (d.next 8).2=W at*;generalize (W.type 0).1=S at*;generalize (W.type 0).2=D1 at*;have hSs:=zx hS.1 hS.2;have hF:∀d g t,Am g->t.small->(Dk.tm n d g t).1.full<=50000:=fun d g t hg ht=>QK hn d hg ht dY dY;have hH:∀d g t,d.ok->Am g->t.small->g.length+3*n<=10000->AC E 12 [.ptr 0 0,.s .ty g,.agg t.view,.i (depth-1)] ⟨1,[(0,.var d.cells)]⟩ (.agg (Dk.tm n d g t).1.view) ⟨1,[(0,.var (Dk.tm n d g t).2.cells)]⟩:=
  fun d g t h1 h2 h3 h4=>H d g t (depth-1) dY h1 h2 h3 dY dY h4
 have hts:=ht.2;have ht1:t.size<1000000:=dY
 have gS:=zo hg (zj hSs zn);have g2:=zo hg (zj zi (zj ht zn));have g3:=zo hg (zj zi (zj y8 (zj ht zn)));show AW _ _ _ (Code.seq _ _) _ _ _;by_cases k0:kk=0
 .subst k0;simp only[if_true] at e;have a:=hH D1 (g++[S]) t hD1 gS ht eB;have b:=hH _ g S (hok _ (g++[S]) t hD1) hg hSs dY;have fa:=hF D1 (g++[S]) t gS ht;have fb:=hF (Dk.tm n D1 (g++[S]) t).2 g S hg hSs;have lo:=JI g [S] eB;have c1:=GX 2 S [(Dk.tm n D1 (g++[S]) t).1] eB dY;have c2:=Dh 3 [Cf S (Dk.tm n D1 (g++[S]) t).1,(Dk.tm n (Dk.tm n D1 (g++[S]) t).2 g S).1] gh;(repeat' first|refine M.o6 @hx8 @tp @a @b @lo @c1 ?_|refine M.c2 (c2) ?_|refine M.z1 29 ?_|refine M.bl ?_|refine M.cs ?_ ?_<;>intro h|refine M.gk ?_|fail)
  ·(exact M.n2 Ay (h6:=(by(repeat'(first|exact trivial|refine And.intro ?_ ?_|refine⟨_,U,_,U,_,U,?_⟩|exact Ai.of_eq (by simp[Aj.Aw,e,Dk.m0,Bd])));done)) (h8:=(by simp[zh,V.wk,V.An,za,Ty.view,Tm.view,e,Dk.m0,Bd])))
  .exact absurd hp' ek
 rw[if_neg k0] at e;by_cases k1:kk=1
 .subst k1;rw[if_pos rfl] at e;have a:=hH D1 g t hD1 hg ht dY;have b:=hH _ g S (hok _ g t hD1) hg hSs dY;have fa:=hF D1 g t hg ht;have fb:=hF (Dk.tm n D1 g t).2 g S hg hSs;have c1:=Dh 10 [(Dk.tm n D1 g t).1,(Dk.tm n (Dk.tm n D1 g t).2 g S).1] eB;have c2:=Dh 11 [nT 10 [(Dk.tm n D1 g t).1,(Dk.tm n (Dk.tm n D1 g t).2 g S).1]] jD;(repeat' first|refine M.o6 @hx8 @tp @a @b @c1 @c2 ?_|refine M.z1 29 ?_|refine M.bl ?_|refine M.cs ?_ ?_<;>intro h|refine M.gk ?_|fail)
  ·(exact M.n2 Ay (h6:=(by(repeat'(first|exact trivial|refine And.intro ?_ ?_|refine⟨_,U,_,U,_,U,?_⟩|exact Ai.of_eq (by simp[Aj.Aw,e,Dk.m1,nT])));done)) (h8:=(by simp[zh,V.wk,V.An,za,Ty.view,Tm.view,e,Dk.m1,nT])))
  .exact absurd hp' ek
 rw[if_neg k1] at e;by_cases k2:kk=2
 .subst k2;rw[if_pos rfl] at e;have a:=hH W (g++[Ae,t]) t hD g2 ht eB;have b:=hH _ g t (hok _ (g++[Ae,t]) t hD) hg ht dY;have hdb:=hok _ g t (hok _ (g++[Ae,t]) t hD);have fa:=hF W (g++[Ae,t]) t g2 ht;have fb:=hF (Dk.tm n W (g++[Ae,t]) t).2 g t hg ht;have lo:=JI g [Ae,t] eB;have nx:=vd _ 3 hdb dY;have nu:=Pb ((Dk.tm n (Dk.tm n W (g++[Ae,t]) t).2 g t).2.next 3).1;have fn:=Zta (Dk.tm n (Dk.tm n W (g++[Ae,t]) t).2 g t).2;have en:Ae.size=1:=rfl;have c1:=GX 2 t [(Dk.tm n W (g++[Ae,t]) t).1] eB dY;have c2:=GX 2 Ae [Cf t (Dk.tm n W (g++[Ae,t]) t).1] gh dY;have c3:=GX 6 t [(Dk.tm n (Dk.tm n W (g++[Ae,t]) t).2 g t).1,Cf Ae (Cf t (Dk.tm n W (g++[Ae,t]) t).1),HG ((Dk.tm n (Dk.tm n W (g++[Ae,t]) t).2 g t).2.next 3).1] gh dY;(repeat' first|refine M.o6 @uq @hx8 @a @b @lo @nx ?_|refine M.c2 (nu) ?_|refine M.c2 (c1) ?_|refine M.c2 (c2) ?_|refine M.c2 (c3) ?_|refine M.z1 29 ?_|refine M.bl ?_|refine M.cs ?_ ?_<;>intro h|refine M.gk ?_|fail)
  ·(exact M.n2 Ay (h6:=(by(repeat'(first|exact trivial|refine And.intro ?_ ?_|refine⟨_,U,_,U,_,U,?_⟩|exact Ai.of_eq (by simp[Aj.Aw,e,Dk.m2,hT])));done)) (h8:=(by simp[zh,V.wk,V.An,za,Ty.view,Tm.view,e,Dk.m2,hT])))
  .exact absurd hp' ek
 rw[if_neg k2] at e;by_cases k3:kk=3
 .subst k3;rw[if_pos rfl] at e;have a:=hH W (g++[Ae,Ao,t]) t hD g3 ht eB;have b:=hH _ g t (hok _ (g++[Ae,Ao,t]) t hD) hg ht dY;have c:=hH _ g Ao (hok _ g t (hok _ (g++[Ae,Ao,t]) t hD)) hg y8 dY;have fa:=hF W (g++[Ae,Ao,t]) t g3 ht;have fb:=hF (Dk.tm n W (g++[Ae,Ao,t]) t).2 g t hg ht;have fc:=hF (Dk.tm n (Dk.tm n W (g++[Ae,Ao,t]) t).2 g t).2 g Ao hg y8;have lo:=JI g [Ae,Ao,t] eB;have en:Ae.size=1:=rfl;have el:Ao.size=1:=rfl;have c1:=GX 2 t [(Dk.tm n W (g++[Ae,Ao,t]) t).1] eB dY;have c2:=GX 2 Ao [Cf t (Dk.tm n W (g++[Ae,Ao,t]) t).1] gh dY;have c3:=GX 2 Ae [Cf Ao (Cf t (Dk.tm n W (g++[Ae,Ao,t]) t).1)] gh dY;have c4:=GX 9 t [(Dk.tm n (Dk.tm n W (g++[Ae,Ao,t]) t).2 g t).1,Cf Ae (Cf Ao (Cf t (Dk.tm n W (g++[Ae,Ao,t]) t).1)),(Dk.tm n (Dk.tm n (Dk.tm n W (g++[Ae,Ao,t]) t).2 g t).2 g Ao).1] gh dY;(repeat' first|refine M.o6 @uq @Ga @hx8 @a @b @c ?_|refine M.c2 (lo) ?_|refine M.c2 (c1) ?_|refine M.c2 (c2) ?_|refine M.c2 (c3) ?_|refine M.c2 (c4) ?_|refine M.z1 29 ?_|refine M.bl ?_|refine M.cs ?_ ?_<;>intro h|refine M.gk ?_|fail)
  ·(exact M.n2 Ay (h6:=(by(repeat'(first|exact trivial|refine And.intro ?_ ?_|refine⟨_,U,_,U,_,U,?_⟩|exact Ai.of_eq (by simp[Aj.Aw,e,Dk.m3,hT])));done)) (h8:=(by simp[zh,V.wk,V.An,za,Ty.view,Tm.view,e,Dk.m3,hT])))
  .exact absurd hp' ek
 rw[if_neg k3] at e;by_cases k4:kk=4
 .subst k4;rw[if_pos rfl] at e;have a:=hH D1 g S hD1 hg hSs dY;have b:=hH _ g t (hok _ g S hD1) hg ht dY;have fa:=hF D1 g S hg hSs;have fb:=hF (Dk.tm n D1 g S).2 g t hg ht;have c1:=Dh 10 [(Dk.tm n D1 g S).1,(Dk.tm n (Dk.tm n D1 g S).2 g t).1] eB;have c2:=Dh 12 [nT 10 [(Dk.tm n D1 g S).1,(Dk.tm n (Dk.tm n D1 g S).2 g t).1]] jD;(repeat' first|refine M.o6 @hx8 @tp @a @b @c1 @c2 ?_|refine M.z1 29 ?_|refine M.bl ?_|refine M.cs ?_ ?_<;>intro h|refine M.gk ?_|fail)
  ·(exact M.n2 Ay (h6:=(by(repeat'(first|exact trivial|refine And.intro ?_ ?_|refine⟨_,U,_,U,_,U,?_⟩|exact Ai.of_eq (by simp[Aj.Aw,e,Dk.m4,nT])));done)) (h8:=(by simp[zh,V.wk,V.An,za,Ty.view,Tm.view,e,Dk.m4,nT])))
  .exact absurd hp' ek
 rw[if_neg k4] at e;by_cases k5:kk=5
 .subst k5;rw[if_pos rfl] at e;(repeat' first|refine M.o1 @hx8 ?_|refine M.z1 29 ?_|refine M.bl ?_|refine M.cs ?_ ?_<;>intro h|refine M.gk ?_|fail);all_goals first
   |exact absurd hp' ek
   |skip
  refine M.rp g.length (fun m=>∀j,j<m->Ht g t j=false)
   (fun m=>([(0,.ptr 0 0),(1,.s .ty g),(3,.i depth),(6,.ptr 1 0),(8,.ptr 2 0),(176,.i g.length),(177,.i m)],⟨3,[(0,.var W.cells),(1,.var t.view),(2,.var [.i 0,.i 0,.i 0,.slice .nil (.t .ty []),.slice .nil (.t .tm [])])]⟩))
   (by intro j hj;omega) (M.W CI) ?_ ?_
  .intro m hm hP;have hm2:g.length-1-m<g.length:=dY
   have hat:B2 g (g.length-1-m)=g[g.length-1-m]:=M1 hm2;have hgs:(g[g.length-1-m]).small:=hg _ (ZA hm2);have hstep:∀b,Ht g t m=b->b=false->∀j,j<m+1->Ht g t j=false:=fun b hb hf j hj=>by
    by_cases hjm:j=m
    .rw[hjm,hb,hf]
    .exact hP j dY
   have hfn:Ht g t m=((g[g.length-1-m]).kind==4&&decide (B2 (g[g.length-1-m]).args 1=t)):=by simp only[Ht,hat]
   by_cases hk4:(g[g.length-1-m]).kind=4
   .obtain ⟨p,q,hpq⟩:=Ty.CT hgs.1 (.inr hk4);have l0:0<(g[g.length-1-m]).args.length:=by rw[hpq];simp
    have l1:1<(g[g.length-1-m]).args.length:=by rw[hpq];simp
    have sm:=xp _ ((g[g.length-1-m]).args[1]) t (ZB _) (by
     have h1:=zc Ty.size (ZA l1);have h2:=(g[g.length-1-m]).size_eq;have h3:=hgs.2;omega)
    have ha1:B2 (g[g.length-1-m]).args 1=(g[g.length-1-m]).args[1]:=M1 l1;have ha0:B2 (g[g.length-1-m]).args 0=(g[g.length-1-m]).args[0]:=M1 l0;rw[ha1,beq_iff_eq.2 hk4,aH] at hfn;have sm0:((g[g.length-1-m]).args[0]).small:=by
     have h1:=zc Ty.size (ZA l0);have h2:=(g[g.length-1-m]).size_eq;have h3:=hgs.2;have h4:=hgs.1;rw[Ty.Ak,ZC] at h4;exact⟨ZH.1 h4.2 _ (ZA l0),dY⟩
    have a:=hH W g ((g[g.length-1-m]).args[0]) hD hg sm0 dY;have fa:=hF W g ((g[g.length-1-m]).args[0]) hg sm0;have vc:=E7 m;have c1:=Dh 3 [vT m,(Dk.tm n W g ((g[g.length-1-m]).args[0])).1] (by simp[vT,Tm.full,Tm.Av,Ty.size,Ty.sizes];omega);(repeat' first|refine M.o0 ?_|refine M.z1 29 ?_|refine M.gk ?_|fail);refine L.F3 (g.length-1-m) rfl rfl rfl rfl dY rfl rfl hm2 ?_;(repeat' first|refine M.o4 @sm @vc @a @c1 ?_|refine M.gs ?_ ?_<;>intro h|refine M.z1 29 ?_|refine M.cs ?_ ?_<;>intro h|refine M.gk ?_|fail)
    .have hf:Ht g t m=true:=hfn.trans h;have e2:W.m5 (Dk.tm n) (decide (2<=n)) g t=(Bd (vT m) (Dk.tm n W g ((g[g.length-1-m]).args[0])).1,(Dk.tm n W g ((g[g.length-1-m]).args[0])).2):=by unfold Dk.m5;rw[Yb8 hm hP hf];simp only[hat,ha0]
     rw[e2] at e
     (exact M.n2 Ay (h6:=(by(repeat'(first|exact trivial|refine And.intro ?_ ?_|refine⟨_,U,_,U,_,U,?_⟩|exact Ai.of_eq (by simp[Aj.Aw,e,Bd,vT])));done)) (h8:=(by simp[zh,V.wk,V.An,za,Ty.view,Tm.view,e,Bd,vT])))
    .exact ⟨rfl,hstep _ hfn h,(M.W CI)⟩
    .exact absurd hk4 ek
   .repeat' (first|refine M.o0 ?_|refine M.z1 29 ?_|refine M.gk ?_|fail)
    refine L.F3 (g.length-1-m) rfl rfl rfl rfl dY rfl rfl hm2 ?_;(repeat' first|refine M.o0 ?_|refine M.gs ?_ ?_<;>intro h|refine M.z1 29 ?_|refine M.gk ?_|fail)
    .exact absurd ek hk4
    .have hk4':((g[g.length-1-m]).kind==4)=false:=by simpa using hk4
     rw[hk4',bE] at hfn;exact⟨rfl,hstep _ hfn rfl,(M.W CI)⟩
  .intro hP;repeat'(first|with_reducible refine K.tN ?_|with_reducible refine K.bN ?_)
   have e2:W.m5 (Dk.tm n) (decide (2<=n)) g t=W.fin (Dk.tm n) (decide (2<=n)) g t:=by unfold Dk.m5;rw[Zp5 hP]
   rw[e,e2];exact AW.weak (M.W CI) (QY n H hn depth hdep W hD g t hg ht h0 hl)
 rw[if_neg k5] at e;have n0:(kk==0)=false:=by simpa using k0
 (repeat' first|refine M.o1 @hx8 ?_|refine M.z1 29 ?_|refine M.bl ?_|refine M.cs ?_ ?_<;>intro h|refine M.gk ?_|fail);all_goals first
  |exact absurd hp' ek
  |exact absurd ek k0
  |exact absurd ek k1
  |exact absurd ek k2
  |exact absurd ek k3
  |exact absurd ek k4
  |exact absurd ek k5
  |(rw[e];exact AW.weak (M.W CI) (QY n H hn depth hdep W hD g t hg ht h0 hl))
theorem Yla(n:Nat)(H:HT n)(hn:n<=7)(depth:Int)(hdep:depth=(n:Int)-1)(d:Dk)(hd:d.ok)(g:List Ty)(t:Ty)(hg:Am g)(ht:t.small)(h0:n=0->t.size=1)(hl:g.length+3*(n+1)<=10000):
 AC E 12 [.ptr 0 0,.s .ty g,.agg t.view,.i depth] ⟨1,[(0,.var d.cells)]⟩ (.agg (d.gen (Dk.tm n) (decide (2<=n)) g t).1.view) ⟨1,[(0,.var (d.gen (Dk.tm n) (decide (2<=n)) g t).2.cells)]⟩:=by
 have hsum:=Zsz hg;have hvl:(wu g t).length<=g.length:=by
  simp only[wu,aI];have:=cl (fun i=>decide (g[g.length-1-i]? =some t)) (List.range g.length);simpa using this
 have hv:=Yhx g t dY;have hx3:=vd d 3 hd dY;have hd3:=Dk.AG hd 3;have hxl:=vd (d.next 3).2 (wu g t).length hd3 dY;have m1:=YI n H hn depth hdep d hd g t hg ht h0 hl;have m2:=YI n H hn depth hdep (d.next 3).2 hd3 g t hg ht h0 hl;have hvar:=E7;by_cases he:wu g t=[]
 .have e:d.gen (Dk.tm n) (decide (2<=n)) g t=d.mid (Dk.tm n) (decide (2<=n)) g t:=by unfold Dk.gen;rw[if_pos he]
  have hl0:¬(((wu g t).length:Int)>0):=by rw[he];simp
  refine M.F Tryz.func12 ?_;(repeat' first|refine M.o2 @hv @hx3 ?_|refine M.gs ?_ ?_<;>intro h|refine M.z1 4 ?_|refine M.cs ?_ ?_<;>intro h|refine M.gk ?_|fail)
  .rename_i h1;exact absurd gI hl0
  .rename_i h1;exact absurd gI hl0
  .rw[e];exact AW.weak (M.W CI) m1
 .have e:d.gen (Dk.tm n) (decide (2<=n)) g t=if 0<(d.next 3).1 then(vT ((wu g t).getD ((d.next 3).2.next (wu g t).length).1.toNat 0),((d.next 3).2.next (wu g t).length).2) else(d.next 3).2.mid (Dk.tm n) (decide (2<=n)) g t:=by unfold Dk.gen;rw[if_neg he]
  have hlp:0<(wu g t).length:=List.length_pos_iff.2 he;have hl0:((wu g t).length:Int)>0:=dY
  have hbl:=Dk.Bh (d.next 3).2 (wu g t).length hl0;have hlt:((d.next 3).2.next (wu g t).length).1.toNat<(wu g t).length:=dY
  refine M.F Tryz.func12 ?_;(repeat' first|refine M.o3 @hv @hx3 @hxl ?_|refine M.gs ?_ ?_<;>intro h|refine M.z1 4 ?_|refine M.cs ?_ ?_<;>intro h|refine M.gk ?_|fail)
  .refine L.F3 ((d.next 3).2.next (wu g t).length).1.toNat rfl rfl rfl rfl dY rfl rfl hlt ?_;have eg:(wu g t).getD ((d.next 3).2.next (wu g t).length).1.toNat 0=(wu g t)[((d.next 3).2.next (wu g t).length).1.toNat]:=by simp[aB,hlt]
   rw[if_pos ek,eg] at e;(repeat' first|refine M.w0 ?_|refine M.c2 (hvar _) ?_|fail)
   (exact M.n2 Ay (h6:=(by(repeat'(first|exact trivial|refine And.intro ?_ ?_|refine⟨_,U,_,U,_,U,?_⟩|exact Ai.of_eq (by simp[Aj.Aw,e,vT])));done)) (h8:=(by simp[zh,V.wk,V.An,za,Ty.view,Tm.view,e,vT])))
  .rw[e,if_neg ek];exact AW.weak (M.W CI) m2
  .exact absurd hl0 ek
theorem JV:∀n,n<=8->HT n
 |0,_=>fun d g t k _ _ _ _ h=>dY
 |n+1,hn=>fun d g t k hk hd hg ht _ h1 hl=>Yla n (JV n dY) dY k dY d hd g t hg ht dY hl
theorem XT(g:List Ty)(t:Tm)(ht:t.full<137438953472)(hg:∀x∈g,x.err=0)(hl:g.length<100000):PC E 263 [.s .ty g,.agg t.view] (.AM [.agg (E5 g t).1.view,.i (E5 g t).2]):=by
 have h1:=ua t dY;have h2:t.err=0->_:=fun h=>Yej _ t g (ZB _) dY ((Tm.Ad t).1 h).1 hg dY;refine M.F Tryz.func263 ?_;(repeat' first|refine M.w1 @h1 ?_|refine M.c2 (h2 ek) ?_|refine M.cs ?_ ?_<;>intro h|fail)
 .have h':t.err≠0:=ek
  simp[zh,V.wk,V.An,za,Ty.view,E5,h',BV]
 .have h':t.err=0:=ek
  simp[zh,V.wk,V.An,za,Ty.view,E5,h']
theorem Sx(g:List Ty)(t:Tm)(ht:t.full<137438953472)(hg:(g.map Ty.size).sum<1099511627776):PC E 254 [.s .ty g,.agg t.view] (.AM [.agg (xm g t).1.view,.i (xm g t).2]):=by
 have h1:=Rt g hg;have h2:xz g=0->_:=fun h=>XT g t ht (uv h).2 (by have:=(uv h).1;omega);refine M.F Tryz.func254 ?_;(repeat' first|refine M.w1 @h1 ?_|refine M.c2 (h2 ek) ?_|refine M.cs ?_ ?_<;>intro h|fail)
 .have h':xz g≠0:=ek
  simp[zh,V.wk,V.An,za,Ty.view,xm,h',BV]
 .have h':xz g=0:=ek
  simp[zh,V.wk,V.An,za,Ty.view,xm,h']
theorem XV(x:Ty)(h:x.size<1099511627776):PC E 70 [.agg x.view,.agg x.view] (.bool true):=by
 have:=xp _ x x (ZB _) h;simpa using this
theorem Ycf(x:Tm)(h:x.full<1099511627776):PC E 164 [.agg x.view,.agg x.view] (.bool true):=by
 have:=OG _ x x (ZB _) h;simpa using this
theorem Yk7(l:List Int)(h:l.length<=500):PC E 5 [.s .int l] (.bool true):=by
 have:=V6 l
 rwa [decide_eq_true h] at this
theorem Ykq(l:List Int)(h:¬l.length<=500):PC E 5 [.s .int l] (.bool false):=by
 have:=V6 l
 rwa [decide_eq_false h] at this
theorem OJ(d:Dk)(h:d.ok):AC E 13 [.ptr 0 0,.i 1] ⟨1,[(0,.var d.cells)]⟩ (.agg (d.type 1).1.view) ⟨1,[(0,.var (d.type 1).2.cells)]⟩:=LO 1 1 d dY dY dY h
theorem Yf9{l:List Int}(h:l.length<=500):(Dk.mk l 0).ok:=⟨bL _,fT⟩
end Go.Ab
namespace Go.Ab
open Go Go.Proofs
set_option maxRecDepth 100000
set_option maxHeartbeats 2000000
set_option linter.all false
theorem Uh{x:Ty}(h:x.err=0)(hk:x.kind=1):x=Ae:=(Ty.eq_iff _ _).2 ⟨hk,NB ((Ty.Ad x).1 h).1 dY⟩
theorem X8{x:Ty}(h:x.err=0)(hk:x.kind=2):x=Ao:=(Ty.eq_iff _ _).2 ⟨hk,NB ((Ty.Ad x).1 h).1 dY⟩
end Go.Ab
namespace Go.Ab
open Go Go.Proofs
set_option maxRecDepth 100000
set_option maxHeartbeats 4000000
set_option linter.all false
theorem RY:∀(b:Nat) (t:Tm),t.full<=b->b<1099511627776->PC E 215 [.agg t.view] (.agg t.view):=by
 intro b;induction b with
 |zero=>intro t h;have:=t.Ac;omega
 |succ b ih=>
 intro t hsz hb;have hsz':=Tm.Af t;have hlen:=zd Tm.full Tm.Ac t.args;have hty:=IC _ t.ty (ZB _) dY;refine M.F Tryz.func215 ?_;refine M.w1 @hty ?_;refine M.rt t.args.length
  (fun m=>([(1,.ptr 0 0),(2,.ptr 1 0),(3,.ptr 2 0),(15,.s .tm t.args),(16,.i t.args.length),(17,.i m)],⟨4,[(0,.var t.view),(1,.var [.i 0,.i 0,.i 0,.slice .nil (.t .ty []),.slice .nil (.t .tm [])]),(2,.var [.i t.kind,.i t.index,.i t.ty.kind,.s .ty t.ty.args,.slice (.own 3) (.t .tm (t.args.take m))]),(3,.row)]⟩))
  (M.W HU) ?_ ?_
 .intro m hm hP;have hs2:=zc Tm.full (ZA hm);(repeat' first|refine M.w0 ?_|refine M.c2 (ih _ ?_ ?_) ?_|exact M.le|exact M.lt|fail);exact⟨rfl,trivial,(M.W [some 0,some 1,some 2,some 5] (he:=(by(repeat'(first|exact trivial|exact Or.inr ⟨_,U,rfl⟩|refine And.intro ?_ ?_|refine⟨_,U,_,U,_,U,?_⟩|exact Ai.refl _|exact Ai.of_eq eO));done)))⟩
 .exact lC
theorem vy(k:Int):PC E 149 [.i k] (.bool (xy k)):=by
 refine M.F Tryz.func149 ?_;(repeat' first|refine M.w0 ?_|refine M.gs ?_ ?_<;>intro h|fail);all_goals(simp_all[zh,V.wk,V.An,za,xy];try omega)
theorem Yai(f:Fm)(ht:f.ty.size<1099511627776):PC E 224 [.agg f.view] (.bool f.head):=by
 have h1:=Rz f.ty;have h2:=RP f.ty ht;have hok:=Ty.Fo f.ty;obtain⟨k,h,ts,fs⟩:=f;simp only[Fm.Bk] at*;have hk:k=1\/k=2\/k=3\/k=4\/k=5\/k=6\/k=7\/(k≠1/\k≠2/\k≠3/\k≠4/\k≠5/\k≠6/\k≠7):=dY
 rcases hk with rfl|rfl|rfl|rfl|rfl|rfl|rfl|hk
 .cases hn:h.B3 with
  |false=>
   rw[hn] at h1;refine M.F Tryz.func224 ?_;refine M.v1 @h1 ?_;simp[zh,V.wk,V.An,za,Fm.head,hn]
  |true=>
   rw[hn] at h1;refine M.F Tryz.func224 ?_;(repeat' first|refine M.w1 @h1 ?_|refine M.gs ?_ ?_<;>intro h|refine M.bl ?_|fail)
   .have h':ts.length=2:=eU
    have e:((fs.length:Int)==0)=(fs.length==0):=by rw[aS];simp
    simp[zh,V.wk,V.An,za,Fm.head,hn,h',e]
   .have h':¬ts.length=2:=eU
    simp[zh,V.wk,V.An,za,Fm.head,hn,h']
 all_goals first
  |(cases hn:h.B3 with
    |false=>
     rw[hn] at h1;refine M.F Tryz.func224 ?_;(repeat' first|refine M.v1 @h1 ?_|refine M.cs ?_ ?_<;>intro h|fail);simp[zh,V.wk,V.An,za,Fm.head,hn];done
    |true=>
     rw[hn] at h1;refine M.F Tryz.func224 ?_;(repeat' first|refine M.w1 @h1 ?_|refine M.gs ?_ ?_<;>intro h|refine M.bl ?_|fail)
     .have h':ts.length=0:=by simp at h;simp[h]
      have e:((fs.length:Int)==2)=(fs.length==2):=iq
      simp[zh,V.wk,V.An,za,Fm.head,hn,h',e]
     .have h':¬ts.length=0:=by simp at h;simpa using h
      simp[zh,V.wk,V.An,za,Fm.head,hn,h'];done)
  |(by_cases hn:h.err=0
    .rw[hn] at h2;refine M.F Tryz.func224 ?_;(repeat' first|refine M.w1 @h2 ?_|refine M.gs ?_ ?_<;>intro h|refine M.bl ?_|refine M.cs ?_ ?_<;>intro h|fail)
     .have h':ts.length=0:=by simp at h;simp[h]
      have e:((fs.length:Int)==1)=(fs.length==1):=iq
      simp[zh,V.wk,V.An,za,Fm.head,hok,hn,h',e]
     .have h':¬ts.length=0:=by simp at h;simpa using h
      simp[zh,V.wk,V.An,za,Fm.head,hok,hn,h'];done
    .have hb:(h.err !=0)=true:=by simpa using hn
     refine M.F Tryz.func224 ?_;(repeat' first|refine M.w1 @h2 ?_|refine M.gs ?_ ?_<;>intro h|refine M.bl ?_|refine M.cs ?_ ?_<;>intro h|fail)
     .simp[zh,V.wk,V.An,za,Fm.head,hok,hn]
     all_goals(exfalso;simp_all;done))
  |(refine M.F Tryz.func224 ?_
    (repeat' first|refine M.v0 ?_|refine M.cs ?_ ?_<;>intro h|fail);all_goals first
     |(exfalso;simp_all;done)
     |(simp[zh,V.wk,V.An,za,Fm.head,hk];done))
theorem Zi9:∀(b:Nat) (f:Fm),f.full<=b->b<1099511627776->PC E 183 [.agg f.view] (.AM [.i f.nodes,.bool f.shape]):=by
 intro b;induction b with
 |zero=>intro f h;have:=f.Ac;omega
 |succ b ih=>
 intro f hsz hb;have hsz':=f.Af;have hse:=f.size_eq;have hle:=f.Ah;have hlen:=zd Fm.full Fm.Ac f.args;have hlen2:=zd Tm.full Tm.Ac f.terms;have hsh:=f.Ak;have h1:=Yai f dY;cases hh:f.head with
 |false=>
  rw[hh] at h1 hsh;have e:f.shape=false:=by rw[hsh];rfl
  rw[show f.nodes=0 by simp[Fm.nodes,e],e];refine M.F Tryz.func183 ?_;refine M.w1 @h1 ?_
  rfl
 |true=>
 rw[hh] at h1 hsh;refine M.F Tryz.func183 ?_;refine M.w1 @h1 ?_;refine M.rp f.terms.length (fun m=>∀j (hj:j<f.terms.length),j<m->(f.terms[j]).shape=true)
  (fun m=>([(1,.ptr 0 0),(4,.i (1+((f.terms.take m).map Tm.size).sum:Nat)),(17,.s .tm f.terms),(18,.i f.terms.length),(19,.i m)],⟨1,[(0,.var f.view)]⟩))
  (fun j hj h=>dY) (M.W Ay) ?_ ?_
 .intro m hm hP;have hs1:=yq Tm.size f.terms m hm;have hs2:=zc Tm.full (ZA hm);have hs3:=zl Tm.size f.terms m;have hs4:=xh (f:=Tm.size) (g:=Tm.full) f.terms fun x _=>x.Ah;have hs5:=f.terms[m].Ah;have hc:=YT _ f.terms[m] (ZB _) dY;cases hx:(f.terms[m]).shape with
  |false=>
   rw[show Lh f.terms[m]= .AM [.i 0,.bool false] by simp[Lh,Tm.nodes,hx]] at hc;have e:f.shape=false:=by rw[hsh,wb Tm.shape hm hx];rfl
   rw[show f.nodes=0 by simp[Fm.nodes,e],e];refine M.w1 @hc ?_
   rfl
  |true=>
   rw[show Lh f.terms[m]= .AM [.i f.terms[m].size,.bool true] by simp[Lh,Tm.nodes,hx]] at hc;refine M.w1 @hc ?_;refine⟨rfl,ya (p:=fun t=>Tm.shape t=true) hm hP hx,?_⟩;simp only[hs1];exact(M.W Ay (hf:=(by(repeat'(first|exact trivial|refine And.intro ?_ ?_|refine⟨_,U,_,U,?_⟩|exact Ai.refl _|exact Ai.of_eq fD));done)))
 .intro hP;have hpt:=un Tm.shape f.terms fun j hj=>hP j hj hj;rw[hpt] at hsh;simp only[ZF];refine M.w0 ?_;refine M.rp f.args.length (fun m=>∀j (hj:j<f.args.length),j<m->(f.args[j]).shape=true)
   (fun m=>([(1,.ptr 0 0),(4,.i (1+(f.terms.map Tm.size).sum+((f.args.take m).map Fm.size).sum:Nat)),(35,.s .fm f.args),(36,.i f.args.length),(37,.i m)],⟨1,[(0,.var f.view)]⟩))
   (fun j hj h=>dY) (M.W Ay) ?_ ?_
  .intro m hm hP;have hs0:=xh (f:=Tm.size) (g:=Tm.full) f.terms fun x _=>x.Ah;have hs1:=yq Fm.size f.args m hm;have hs2:=zc Fm.full (ZA hm);have hs3:=zl Fm.size f.args m;have hs4:=xh (f:=Fm.size) (g:=Fm.full) f.args fun x _=>x.Ah;have hs5:=f.args[m].Ah;have hc:=ih f.args[m] dY dY;cases hx:(f.args[m]).shape with
   |false=>
    rw[hx,show(f.args[m]).nodes=0 by simp[Fm.nodes,hx]] at hc;have e:f.shape=false:=by rw[hsh,wb Fm.shape hm hx];rfl
    rw[show f.nodes=0 by simp[Fm.nodes,e],e];refine M.w1 @hc ?_
    rfl
   |true=>
    rw[hx,show(f.args[m]).nodes=(f.args[m]).size by simp[Fm.nodes,hx]] at hc;refine M.w1 @hc ?_;refine⟨rfl,ya (p:=fun t=>Fm.shape t=true) hm hP hx,?_⟩;simp only[hs1];exact(M.W Ay (hf:=(by(repeat'(first|exact trivial|refine And.intro ?_ ?_|refine⟨_,U,_,U,?_⟩|exact Ai.refl _|exact Ai.of_eq fD));done)))
  .intro hP;have hpa:=un Fm.shape f.args fun j hj=>hP j hj hj;rw[hpa] at hsh;have e:f.shape=true:=hsh;rw[show f.nodes=f.size by simp[Fm.nodes,e],e,hse];simp only[ZF];refine M.w0 ?_
   rfl
theorem Rf(f:Fm)(hf:f.full<1099511627776):PC E 118 [.agg f.view] (.AM [.i f.num,.i f.err]):=by
 have h1:=Zi9 _ f (ZB _) hf;have hle:=f.Ah;cases hs:f.shape with
 |false=>
  have e:f.err=2:=by simp[Fm.err,hs]
  rw[hs,show f.nodes=0 by simp[Fm.nodes,hs]] at h1;rw[show f.num=0 by simp[Fm.num,e],e];refine M.F Tryz.func118 ?_;(repeat' first|refine M.w1 @h1 ?_|refine M.zb ?_|fail)
  rfl
 |true=>
  rw[hs,show f.nodes=f.size by simp[Fm.nodes,hs]] at h1;by_cases hz:f.size>4096
  .have e:f.err=4:=g9
   rw[show f.num=0 by simp[Fm.num,e],e];refine M.F Tryz.func118 ?_;(repeat' first|refine M.w1 @h1 ?_|refine M.zb ?_|refine M.cs ?_ ?_<;>intro h|fail)
   .rfl
   .exact kX
  .have e:f.err=0:=g9
   rw[show f.num=f.size by simp[Fm.num,e],e];refine M.F Tryz.func118 ?_;(repeat' first|refine M.w1 @h1 ?_|refine M.zb ?_|refine M.cs ?_ ?_<;>intro h|fail)
   .exact kX
   .rfl
theorem vj:∀(b:Nat) (f:Fm),f.full<=b->b<1099511627776->PC E 130 [.agg f.view] (.agg f.view):=by
 intro b;induction b with
 |zero=>intro f h;have:=f.Ac;omega
 |succ b ih=>
 intro f hsz hb;have hsz':=f.Af;have hlen:=zd Fm.full Fm.Ac f.args;have hlen2:=zd Tm.full Tm.Ac f.terms;have hty:=wn _ f.ty (ZB _) dY;refine M.F Tryz.func130 ?_;refine M.w1 @hty ?_;refine M.rt f.terms.length
  (fun m=>([(1,.ptr 0 0),(2,.ptr 1 0),(3,.ptr 2 0),(15,.s .tm f.terms),(16,.i f.terms.length),(17,.i m)],⟨4,[(0,.var f.view),(1,.var [.i 0,.i 0,.slice .nil (.t .ty []),.slice .nil (.t .tm []),.slice .nil (.t .fm [])]),(2,.var [.i f.kind,.i f.ty.kind,.s .ty f.ty.args,.slice (.own 3) (.t .tm (f.terms.take m)),.slice .nil (.t .fm [])]),(3,.row)]⟩))
  (M.W HU) ?_ ?_
 .exact kD
 .intro _;simp only[ZF];refine M.w0 ?_;refine M.rt f.args.length
   (fun m=>([(1,.ptr 0 0),(2,.ptr 1 0),(3,.ptr 2 0),(30,.s .fm f.args),(31,.i f.args.length),(32,.i m)],⟨5,[(0,.var f.view),(1,.var [.i 0,.i 0,.slice .nil (.t .ty []),.slice .nil (.t .tm []),.slice .nil (.t .fm [])]),(2,.var [.i f.kind,.i f.ty.kind,.s .ty f.ty.args,.slice (.own 3) (.t .tm f.terms),.slice (.own 4) (.t .fm (f.args.take m))]),(3,.row),(4,.row)]⟩))
   (M.W HR) ?_ ?_
  .intro m hm _;have hs2:=zc Fm.full (ZA hm);(repeat' first|refine M.w0 ?_|refine M.c2 (ih _ ?_ ?_) ?_|exact M.le|exact M.lt|fail);exact⟨rfl,trivial,(M.W [some 0,some 1,some 2,some 3,some 6] (he:=(by(repeat'(first|exact trivial|exact Or.inr ⟨_,U,rfl⟩|refine And.intro ?_ ?_|refine⟨_,U,_,U,_,U,?_⟩|exact Ai.refl _|exact Ai.of_eq eO));done)))⟩
  .exact kW
theorem HW(a b:Tm)(ha:a.full<1099511627776)(hb:b.full<1099511627776):PC E 53 [.agg a.view,.agg b.view] (.agg (Bv a b).view):=by
 have h1:=IU _ a (ZB _) ha;have h2:=IU _ b (ZB _) hb;refine M.F Tryz.func53 ?_;refine M.w2 @h1 @h2 ?_
 rfl
theorem Oa(k:Int)(a b:Fm)(ha:a.full<1099511627776)(hb:b.full<1099511627776):PC E 133 [.i k,.agg a.view,.agg b.view] (.agg (Fm.mk k (.mk 0 []) [] [a,b]).view):=by
 have h1:=vj _ a (ZB _) ha;have h2:=vj _ b (ZB _) hb;refine M.F Tryz.func133 ?_;refine M.w2 @h1 @h2 ?_
 rfl
theorem G9(k:Int)(s:Ty)(f:Fm)(hs:s.size<1099511627776)(hf:f.full<1099511627776):PC E 52 [.i k,.agg s.view,.agg f.view] (.agg (Fm.mk k s [] [f]).view):=by
 have h1:=wn _ s (ZB _) hs;have h2:=vj _ f (ZB _) hf;refine M.F Tryz.func52 ?_;refine M.w2 @h1 @h2 ?_
 rfl
theorem Yf8(t:Tm)(b:Int)(ht:t.full<1099511627776):PC E 247 [.agg t.view,.i b] (.agg t.view):=by
 have h1:=RY _ t (ZB _) ht;refine M.F Tryz.func247 ?_;refine M.w1 @h1 ?_;simp[zh,V.wk,V.An,za,Ty.view,Tm.view]
theorem Yei:∀(n:Nat) (f:Fm) (bl:Int),f.full<=n->n<549755813888->0<=bl->bl+n<549755813888->PC E 220 [.agg f.view,.i bl,.fn (.func 247) [] []] (.agg f.view):=by
 intro n;induction n with
 |zero=>intro f bl h;have:=f.Ac;omega
 |succ n ih=>
 intro f bl hsz hb hbl hbn;have hsz':=f.Af;have hlen:=zd Fm.full Fm.Ac f.args;have hlen2:=zd Tm.full Tm.Ac f.terms;have hty:=IC _ f.ty (ZB _) dY;have hq:=vy f.kind;refine M.F Tryz.func220 ?_;refine M.w1 @hty ?_;refine M.rt f.terms.length
  (fun m=>([(1,.i bl),(2,.fn (.func 247) [] []),(3,.ptr 0 0),(6,.ptr 1 0),(7,.ptr 2 0),(19,.s .tm f.terms),(20,.i f.terms.length),(21,.i m)],⟨4,[(0,.var f.view),(1,.var [.i 0,.i 0,.slice .nil (.t .ty []),.slice .nil (.t .tm []),.slice .nil (.t .fm [])]),(2,.var [.i f.kind,.i f.ty.kind,.s .ty f.ty.args,.slice (.own 3) (.t .tm (f.terms.take m)),.slice .nil (.t .fm [])]),(3,.row)]⟩))
  (M.W HU) ?_ ?_
 .intro m hm _;have hs2:=zc Tm.full (ZA hm);have hc:=Yf8 f.terms[m] bl dY;(repeat' first|refine M.w0 ?_|refine M.cv (hc) [] 0 ?_|fail);exact⟨rfl,trivial,(M.W [some 0,some 1,some 2,some 5] (he:=(by(repeat'(first|exact trivial|exact Or.inr ⟨_,U,rfl⟩|refine And.intro ?_ ?_|refine⟨_,U,_,U,_,U,?_⟩|exact Ai.refl _|exact Ai.of_eq eO));done)))⟩
 .intro _;simp only[ZF];cases hqk:xy f.kind with
  |true=>
   rw[hqk] at hq;refine M.w1 @hq ?_;refine M.rt f.args.length
    (fun m=>([(1,.i (bl+1)),(2,.fn (.func 247) [] []),(3,.ptr 0 0),(6,.ptr 1 0),(7,.ptr 2 0),(41,.s .fm f.args),(42,.i f.args.length),(43,.i m)],⟨5,[(0,.var f.view),(1,.var [.i 0,.i 0,.slice .nil (.t .ty []),.slice .nil (.t .tm []),.slice .nil (.t .fm [])]),(2,.var [.i f.kind,.i f.ty.kind,.s .ty f.ty.args,.slice (.own 3) (.t .tm f.terms),.slice (.own 4) (.t .fm (f.args.take m))]),(3,.row),(4,.row)]⟩))
    (M.W HR) ?_ ?_
   .intro m hm _;have hs2:=zc Fm.full (ZA hm);have hc:=ih f.args[m] (bl+1) dY dY dY dY;refine M.w1 @hc ?_;exact⟨rfl,trivial,(M.W [some 0,some 1,some 2,some 3,some 6] (he:=(by(repeat'(first|exact trivial|exact Or.inr ⟨_,U,rfl⟩|refine And.intro ?_ ?_|refine⟨_,U,_,U,_,U,?_⟩|exact Ai.refl _|exact Ai.of_eq eO));done)))⟩
   .exact kW
  |false=>
   rw[hqk] at hq;refine M.w1 @hq ?_;refine M.rt f.args.length
    (fun m=>([(1,.i bl),(2,.fn (.func 247) [] []),(3,.ptr 0 0),(6,.ptr 1 0),(7,.ptr 2 0),(41,.s .fm f.args),(42,.i f.args.length),(43,.i m)],⟨5,[(0,.var f.view),(1,.var [.i 0,.i 0,.slice .nil (.t .ty []),.slice .nil (.t .tm []),.slice .nil (.t .fm [])]),(2,.var [.i f.kind,.i f.ty.kind,.s .ty f.ty.args,.slice (.own 3) (.t .tm f.terms),.slice (.own 4) (.t .fm (f.args.take m))]),(3,.row),(4,.row)]⟩))
    (M.W HR) ?_ ?_
   .intro m hm _;have hs2:=zc Fm.full (ZA hm);have hc:=ih f.args[m] bl dY dY dY dY;refine M.w1 @hc ?_;exact⟨rfl,trivial,(M.W [some 0,some 1,some 2,some 3,some 6] (he:=(by(repeat'(first|exact trivial|exact Or.inr ⟨_,U,rfl⟩|refine And.intro ?_ ?_|refine⟨_,U,_,U,_,U,?_⟩|exact Ai.refl _|exact Ai.of_eq eO));done)))⟩
   .exact kW
theorem WS(f:Fm)(hf:f.full<274877906944):PC E 216 [.agg f.view] (.agg f.view):=by
 have h1:=Yei _ f 0 (ZB _) dY dY dY;refine M.F Tryz.func216 ?_;refine M.w1 @h1 ?_
 rfl
theorem Yd7(d:Dk)(h:d.ok):AC E 13 [.ptr 0 0,.i 0] ⟨1,[(0,.var d.cells)]⟩ (.agg (d.type 0).1.view) ⟨1,[(0,.var (d.type 0).2.cells)]⟩:=LO 0 0 d dY dY dY h
theorem T9:∀(n:Nat) (d:Dk) (g:List Ty) (k:Int),n<=3->k=n->d.ok->Am g->g.length+n<=5000->
 AC E 43 [.ptr 0 0,.s .ty g,.i k] ⟨1,[(0,.var d.cells)]⟩ (.agg (Dk.fm n d g).1.view) ⟨1,[(0,.var (Dk.fm n d g).2.cells)]⟩:=by
 have bd:∀(n:Nat) (d:Dk) (g:List Ty),n<=3->Am g->(Dk.fm n d g).1.full<=10000:=fun n d g hn hg=>by
  have h1:=(Dk.Ff n d g hg).2.2;have h2:2^n<=2^3:=ct dY hn;omega
 have eqc:∀(d:Dk) (g:List Ty),d.ok->Am g->g.length<=5000->∃(x:Tm) (d1:Dk) (y:Tm) (d2:Dk),d.KL g=(Bv x y,d2)/\x.full<=1000/\y.full<=1000/\
  AC E 12 [.ptr 0 0,.s .ty g,.agg Ae.view,.i 1] ⟨1,[(0,.var d.cells)]⟩ (.agg x.view) ⟨1,[(0,.var d1.cells)]⟩/\
  AC E 12 [.ptr 0 0,.s .ty g,.agg Ae.view,.i 1] ⟨1,[(0,.var d1.cells)]⟩ (.agg y.view) ⟨1,[(0,.var d2.cells)]⟩:=fun d g hd hg hl=>by
  have d1:=Dk.C5 3 d g Ae hd;have m1:=(Dk.De 3 d g Ae hg zi dY dY).full hg zi;have m2:=(Dk.De 3 (Dk.tm 3 d g Ae).2 g Ae hg zi dY dY).full hg zi;exact⟨_,_,_,_,rfl,dY,dY,JV 3 dY d g Ae 1 dY hd hg zi dY dY dY,
   JV 3 dY (Dk.tm 3 d g Ae).2 g Ae 1 dY d1 hg zi dY dY dY⟩
 intro n;induction n with
 |zero=>
  intro d g k _ hk hd hg hl;obtain⟨x,d1,y,d2,e,fx,fy,h1,h2⟩:=eqc d g hd hg dY;have he:=HW x y dY dY;rw[show Dk.fm 0 d g=(Bv x y,d2) from e];obtain rfl:k=0:=hk;refine M.F Tryz.func43 ?_;refine M.w4 @uq @h1 @h2 @he ?_
  (exact M.n2 Ay (h8:=iL))
 |succ n ih=>
 intro d g k hn hk hd hg hl;have h9:=vd d 9 hd dY;have hbd:=Dk.Bh d 9 dY;have d9:=Dk.AG hd 9;have hkp:k>0:=dY
 have efm:Dk.fm (n+1) d g=Dk.fm (n+1) d g:=rfl
 conv at efm=>rhs;rw[Dk.fm]
 generalize hr:(d.next 9).1=r at*;generalize (d.next 9).2=e1 at*;have hr9:r=0\/r=1\/r=2\/r=3\/r=4\/r=5\/r=6\/r=7\/r=8:=dY
 rcases hr9 with rfl|rfl|rfl|rfl|rfl|rfl|rfl|rfl|rfl
 .simp only[show((0:Int)=1)=False by simp,show((0:Int)=2)=False by simp,show((0:Int)=3)=False by simp,show((0:Int)=4)=False by simp,show((0:Int)=5)=False by simp,show((0:Int)=6)=False by simp,if_false,if_true,or_self,or_true,true_or,or_false,false_or] at efm;rw[efm];have a1:=ih e1 g (k-1) dY dY d9 hg dY;have f1:=bd n e1 g dY hg;have k1:=Dk.FG n e1 g d9;generalize (Dk.fm n e1 g).1=x at*;generalize (Dk.fm n e1 g).2=e2 at*;have a2:=ih e2 g (k-1) dY dY k1 hg dY;have f2:=bd n e2 g dY hg;generalize (Dk.fm n e2 g).1=y at*;generalize (Dk.fm n e2 g).2=e3 at*;have hw:=Oa 2 x y dY dY;refine M.F Tryz.func43 ?_;(repeat' first|refine M.v4 @h9 @a1 @a2 @hw ?_|refine M.cs ?_ ?_<;>intro h|fail);all_goals first
   |(exfalso;simp at h;omega)
   |skip
  (exact M.n2 Ay (h8:=iM))
 .simp only[show((1:Int)=0)=False by simp,show((1:Int)=2)=False by simp,show((1:Int)=3)=False by simp,show((1:Int)=4)=False by simp,show((1:Int)=5)=False by simp,show((1:Int)=6)=False by simp,if_false,if_true,or_self,or_true,true_or,or_false,false_or] at efm;rw[efm];have a1:=ih e1 g (k-1) dY dY d9 hg dY;have f1:=bd n e1 g dY hg;have k1:=Dk.FG n e1 g d9;generalize (Dk.fm n e1 g).1=x at*;generalize (Dk.fm n e1 g).2=e2 at*;have a2:=ih e2 g (k-1) dY dY k1 hg dY;have f2:=bd n e2 g dY hg;generalize (Dk.fm n e2 g).1=y at*;generalize (Dk.fm n e2 g).2=e3 at*;have hw:=Oa 3 x y dY dY;refine M.F Tryz.func43 ?_;(repeat' first|refine M.v4 @h9 @a1 @a2 @hw ?_|refine M.cs ?_ ?_<;>intro h|fail);all_goals first
   |(exfalso;simp at h;omega)
   |skip
  (exact M.n2 Ay (h8:=iM))
 .simp only[show((2:Int)=0)=False by simp,show((2:Int)=1)=False by simp,show((2:Int)=3)=False by simp,show((2:Int)=4)=False by simp,show((2:Int)=5)=False by simp,show((2:Int)=6)=False by simp,if_false,if_true,or_self,or_true,true_or,or_false,false_or] at efm;rw[efm];have a1:=ih e1 g (k-1) dY dY d9 hg dY;have f1:=bd n e1 g dY hg;have k1:=Dk.FG n e1 g d9;generalize (Dk.fm n e1 g).1=x at*;generalize (Dk.fm n e1 g).2=e2 at*;have a2:=ih e2 g (k-1) dY dY k1 hg dY;have f2:=bd n e2 g dY hg;generalize (Dk.fm n e2 g).1=y at*;generalize (Dk.fm n e2 g).2=e3 at*;have hw:=Oa 3 x y dY dY;refine M.F Tryz.func43 ?_;(repeat' first|refine M.v4 @h9 @a1 @a2 @hw ?_|refine M.cs ?_ ?_<;>intro h|fail);all_goals first
   |(exfalso;simp at h;omega)
   |skip
  (exact M.n2 Ay (h8:=iM))
 .simp only[show((3:Int)=0)=False by simp,show((3:Int)=1)=False by simp,show((3:Int)=2)=False by simp,show((3:Int)=4)=False by simp,show((3:Int)=5)=False by simp,show((3:Int)=6)=False by simp,if_false,if_true,or_self,or_true,true_or,or_false,false_or] at efm;rw[efm];have ts:=OJ e1 d9;have ss:=Dk.type1 e1;have k1:=Dk.BC 1 e1 d9;generalize (e1.type 1).1=s at*;generalize (e1.type 1).2=e2 at*;have gs:=zo hg (zj ss zn);have hlg:=JI g [s] eB;have a1:=ih e2 (g++[s]) (k-1) dY dY k1 gs eB;have f1:=bd n e2 (g++[s]) dY gs;generalize (Dk.fm n e2 (g++[s])).1=x at*;generalize (Dk.fm n e2 (g++[s])).2=e3 at*;have hw:=G9 4 s x iw dY;refine M.F Tryz.func43 ?_;(repeat' first|refine M.v5 @h9 @ts @hlg @a1 @hw ?_|refine M.cs ?_ ?_<;>intro h|fail);all_goals first
   |(exfalso;simp at h;omega)
   |skip
  (exact M.n2 Ay (h8:=gP))
 .simp only[show((4:Int)=0)=False by simp,show((4:Int)=1)=False by simp,show((4:Int)=2)=False by simp,show((4:Int)=3)=False by simp,show((4:Int)=5)=False by simp,show((4:Int)=6)=False by simp,if_false,if_true,or_self,or_true,true_or,or_false,false_or] at efm;rw[efm];have ts:=OJ e1 d9;have ss:=Dk.type1 e1;have k1:=Dk.BC 1 e1 d9;generalize (e1.type 1).1=s at*;generalize (e1.type 1).2=e2 at*;have gs:=zo hg (zj ss zn);have hlg:=JI g [s] eB;have a1:=ih e2 (g++[s]) (k-1) dY dY k1 gs eB;have f1:=bd n e2 (g++[s]) dY gs;generalize (Dk.fm n e2 (g++[s])).1=x at*;generalize (Dk.fm n e2 (g++[s])).2=e3 at*;have hw:=G9 4 s x iw dY;refine M.F Tryz.func43 ?_;(repeat' first|refine M.v5 @h9 @ts @hlg @a1 @hw ?_|refine M.cs ?_ ?_<;>intro h|fail);all_goals first
   |(exfalso;simp at h;omega)
   |skip
  (exact M.n2 Ay (h8:=gP))
 .simp only[show((5:Int)=0)=False by simp,show((5:Int)=1)=False by simp,show((5:Int)=2)=False by simp,show((5:Int)=3)=False by simp,show((5:Int)=4)=False by simp,show((5:Int)=6)=False by simp,if_false,if_true,or_self,or_true,true_or,or_false,false_or] at efm;rw[efm];have ts:=OJ e1 d9;have ss:=Dk.type1 e1;have k1:=Dk.BC 1 e1 d9;generalize (e1.type 1).1=s at*;generalize (e1.type 1).2=e2 at*;have gs:=zo hg (zj ss zn);have hlg:=JI g [s] eB;have a1:=ih e2 (g++[s]) (k-1) dY dY k1 gs eB;have f1:=bd n e2 (g++[s]) dY gs;generalize (Dk.fm n e2 (g++[s])).1=x at*;generalize (Dk.fm n e2 (g++[s])).2=e3 at*;have hw:=G9 5 s x iw dY;refine M.F Tryz.func43 ?_;(repeat' first|refine M.v5 @h9 @ts @hlg @a1 @hw ?_|refine M.cs ?_ ?_<;>intro h|fail);all_goals first
   |(exfalso;simp at h;omega)
   |skip
  (exact M.n2 Ay (h8:=gP))
 .simp only[show((6:Int)=0)=False by simp,show((6:Int)=1)=False by simp,show((6:Int)=2)=False by simp,show((6:Int)=3)=False by simp,show((6:Int)=4)=False by simp,show((6:Int)=5)=False by simp,if_false,if_true,or_self,or_true,true_or,or_false,false_or] at efm;rw[efm];have ts:=Yd7 e1 d9;have ss0:=Dk.type0 e1;have ss:=zx ss0.1 ss0.2;have k1:=Dk.BC 0 e1 d9;generalize (e1.type 0).1=s at*;generalize (e1.type 0).2=e2 at*;have h2:=vd e2 2 k1 dY;have hb2:=Dk.Bh e2 2 dY;have k2:=Dk.AG k1 2;generalize (e2.next 2).1=u at*;generalize (e2.next 2).2=e3 at*;have gs:=zo hg (zj ss zn);have hlg:=JI g [s] eB;have a1:=ih e3 (g++[s]) (k-1) dY dY k2 gs eB;have f1:=bd n e3 (g++[s]) dY gs;generalize (Dk.fm n e3 (g++[s])).1=x at*;generalize (Dk.fm n e3 (g++[s])).2=e4 at*;have hw:=G9 (6+u) s x iw dY;refine M.F Tryz.func43 ?_;(repeat' first|refine M.v6 @h9 @ts @h2 @hlg @a1 @hw ?_|refine M.cs ?_ ?_<;>intro h|fail);all_goals first
   |(exfalso;simp at h;omega)
   |skip
  (exact M.n2 Ay (h8:=gP))
 .simp only[show((7:Int)=0)=False by simp,show((7:Int)=1)=False by simp,show((7:Int)=2)=False by simp,show((7:Int)=3)=False by simp,show((7:Int)=4)=False by simp,show((7:Int)=5)=False by simp,show((7:Int)=6)=False by simp,if_false,if_true,or_self,or_true,true_or,or_false,false_or] at efm;rw[efm];obtain⟨x,d1,y,d2,e,fx,fy,h1,h2⟩:=eqc e1 g d9 hg dY;rw[e];have he:=HW x y dY dY;refine M.F Tryz.func43 ?_;(repeat' first|refine M.v5 @h9 @uq @h1 @h2 @he ?_|refine M.cs ?_ ?_<;>intro h|fail);all_goals first
   |(exfalso;simp at h;omega)
   |skip
  (exact M.n2 Ay (h8:=iL))
 .simp only[show((8:Int)=0)=False by simp,show((8:Int)=1)=False by simp,show((8:Int)=2)=False by simp,show((8:Int)=3)=False by simp,show((8:Int)=4)=False by simp,show((8:Int)=5)=False by simp,show((8:Int)=6)=False by simp,if_false,if_true,or_self,or_true,true_or,or_false,false_or] at efm;rw[efm];obtain⟨x,d1,y,d2,e,fx,fy,h1,h2⟩:=eqc e1 g d9 hg dY;rw[e];have he:=HW x y dY dY;refine M.F Tryz.func43 ?_;(repeat' first|refine M.v5 @h9 @uq @h1 @h2 @he ?_|refine M.cs ?_ ?_<;>intro h|fail);all_goals first
   |(exfalso;simp at h;omega)
   |skip
  (exact M.n2 Ay (h8:=iL))
theorem VY(l:List Tm)(h:(l.map Tm.full).sum<1099511627776):PC E 99 [.s .tm l,.s .tm l] (.bool true):=by
 have hlen:=zd Tm.full Tm.Ac l;refine M.F Tryz.func99 ?_;(repeat' first|refine M.w0 ?_|refine M.cs ?_ ?_<;>intro h|fail)
 .exfalso;simp at h
 refine M.rt l.length (fun m=>([(0,.s .tm l),(1,.s .tm l),(11,.s .tm l),(12,.i l.length),(13,.i m)],⟨0,[]⟩))
  (M.W []) ?_ ?_
 .intro m hm _;have hs2:=zc Tm.full (ZA hm);have hc:=Ycf l[m] dY;refine M.w1 @hc ?_;exact⟨rfl,trivial,(M.W [])⟩
 .exact kR
theorem Yaw:∀(n:Nat) (f:Fm),f.full<=n->n<1099511627776->PC E 165 [.agg f.view,.agg f.view] (.bool true):=by
 intro n;induction n with
 |zero=>intro f h;have:=f.Ac;omega
 |succ n ih=>
 intro f hsz hn;have hsz':=f.Af;have hlen:=zd Fm.full Fm.Ac f.args;have h1:=XV f.ty dY;have h2:=VY f.terms dY;refine M.F Tryz.func165 ?_;(repeat' first|refine M.w2 @h1 @h2 ?_|refine M.gs ?_ ?_<;>intro h|refine M.cs ?_ ?_<;>intro h|fail);all_goals first
  |(exfalso;simp at h;done)
  |skip
 refine M.rt f.args.length (fun m=>([(2,.ptr 0 0),(3,.ptr 1 0),(37,.s .fm f.args),(38,.i f.args.length),(39,.i m)],⟨2,[(0,.var f.view),(1,.var f.view)]⟩))
  (M.W AQ) ?_ ?_
 .intro m hm _;have hs2:=zc Fm.full (ZA hm);have hc:=ih f.args[m] dY dY;refine M.w1 @hc ?_;exact⟨rfl,trivial,(M.W AQ)⟩
 .exact kR
end Go.Ab
