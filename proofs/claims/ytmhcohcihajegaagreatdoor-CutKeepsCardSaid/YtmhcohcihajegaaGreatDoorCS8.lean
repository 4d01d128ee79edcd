/- A part of this seat's proofs. No conditions. -/
import Derived.Test.YtmhcohcihajegaaGreatDoorCS6
import Derived.Test.YtmhcohcihajegaaGreatDoorCS7
namespace Go.Ab
open Go Go.Proofs
set_option maxRecDepth 100000
set_option maxHeartbeats 4000000
set_option linter.all false
theorem Zyr(d:Dk):(vu (d.next 3).1).full<=6:=by
 obtain⟨m,hm,e⟩:=Rh d;rw[e,QN];omega
theorem Zxr{g:List Ty}(h:Aj g):(g.map Ty.size).sum<=3*g.length:=by
 induction g with
 |nil=>simp
 |cons t l ih=>
  have h1:=(h t ko).2;have h2:=ih fun x hx=>h x (by simp[hx]);simp only[fJ,fT,fQ];omega
theorem Zt5{g:List Ty}{t:Ty}(h:∀j,j<g.length->HX g t j=false):NH g t=none:=by
 simp only[NH,List.find?_eq_none,iT];intro j hj;simp[h j hj]
theorem Yge{g:List Ty}{t:Ty}{m:Nat}(hm:m<g.length)(h:∀j,j<m->HX g t j=false)(h1:HX g t m=true):NH g t=some m:=by
 simp only[NH,List.find?_range_eq_some,iT];exact⟨h1,hm,fun j hj=>by simp[h j hj]⟩
theorem XH(n:Nat)(H:HT n)(hn:n<=7)(depth:Int)(hdep:depth=(n:Int)-1)(d:Dk)(hd:d.ok)(g:List Ty)(t:Ty)(hg:Aj g)(ht:t.small)(h0:n=0->t.size=1)(hl:g.length+3*(n+1)<=10000):
 AW E Tryz.f58.ntmps 1 (Iv [1,1,1] (NZ Tryz.f58)) [(0,.ptr 0 0),(1,.s .ty g),(3,.i depth),(6,.ptr 1 0),(8,.ptr 2 0)]
  ⟨3,[(0,.var d.cells),(1,.var t.view),(2,.var [.i 0,.i 0,.i 0,.slice .nil (.t .ty []),.slice .nil (.t .tm [])])]⟩
  (FT E 1 Tryz.f58.results.toList (.agg (d.mid (Dk.tm n) (decide (2<=n)) g t).1.view) ⟨1,[(0,.var (d.mid (Dk.tm n) (decide (2<=n)) g t).2.cells)]⟩):=by
 have hok:∀d g t,d.ok->(Dk.tm n d g t).2.ok:=fun d g t h=>Dk.Dd n d g t h;by_cases hp:2<=n;case neg=>
  have hp':¬depth>0:=kn
  have e:d.mid (Dk.tm n) (decide (2<=n)) g t=d.fin (Dk.tm n) (decide (2<=n)) g t:=by simp[Dk.mid,hp]
  show AW _ _ _ (Code.seq _ _) _ _ _;(repeat' first|refine M.o0 ?_|refine M.z1 29 ?_|refine M.cs ?_ ?_<;>intro h|refine M.gk ?_|fail)
  .exact absurd ku hp'
  .rw[e];exact AW.weak (M.W F8) (TK n H hn depth hdep d hd g t hg ht h0 hl)
 have hp':depth>0:=kn
 have hx8:=FX d 8 hd kn;have e:=Dk.Kl (rec:=Dk.tm n) (d:=d) (g:=g) (t:=t) (pos:=decide (2<=n)) (by simpa using hp);have hD:=Dk.AQ hd 8;have tp:AC E 54 [.ptr 0 0,.i 0] ⟨1,[(0,.var (d.next 8).2.cells)]⟩ (.agg ((d.next 8).2.type 0).1.view) ⟨1,[(0,.var ((d.next 8).2.type 0).2.cells)]⟩:=Ni 0 0 (d.next 8).2 kn kn kn hD;have hS:=Dk.type0 (d.next 8).2;have hD1:=Dk.BG 0 _ hD;generalize (d.next 8).1=kk at*;generalize (d.next 8).2=W at*;generalize (W.type 0).1=S at*;generalize (W.type 0).2=D1 at*;have hSs:=z4 hS.1 hS.2;have hF:∀d g t,Aj g->t.small->(Dk.tm n d g t).1.full<=50000:=fun d g t hg ht=>U4 hn d hg ht kn kn;have hH:∀d g t,d.ok->Aj g->t.small->g.length+3*n<=10000->AC E 58 [.ptr 0 0,.s .ty g,.agg t.view,.i (depth-1)] ⟨1,[(0,.var d.cells)]⟩ (.agg (Dk.tm n d g t).1.view) ⟨1,[(0,.var (Dk.tm n d g t).2.cells)]⟩:=
  fun d g t h1 h2 h3 h4=>H d g t (depth-1) kn h1 h2 h3 kn kn h4
 have hts:=ht.2;have ht1:t.size<1000000:=kn
 have gS:=zm hg (zg hSs zk);have g2:=zm hg (zg zj (zg ht zk));have g3:=zm hg (zg zj (zg xu (zg ht zk)));show AW _ _ _ (Code.seq _ _) _ _ _;by_cases k0:kk=0
 .subst k0;simp only[if_true] at e;have a:=hH D1 (g++[S]) t hD1 gS ht kC;have b:=hH _ g S (hok _ (g++[S]) t hD1) hg hSs kn;have fa:=hF D1 (g++[S]) t gS ht;have fb:=hF (Dk.tm n D1 (g++[S]) t).2 g S hg hSs;have lo:=Kt g [S] kC;have c1:=G9 2 S [(Dk.tm n D1 (g++[S]) t).1] kC kn;have c2:=Dj 3 [Be S (Dk.tm n D1 (g++[S]) t).1,(Dk.tm n (Dk.tm n D1 (g++[S]) t).2 g S).1] lY;(repeat' first|refine M.o6 @hx8 @tp @a @b @lo @c1 ?_|refine M.c2 (c2) ?_|refine M.z1 29 ?_|refine M.bl ?_|refine M.cs ?_ ?_<;>intro h|refine M.gk ?_|fail)
  ·(exact M.n2 AJ (h6:=(by(repeat'(first|exact trivial|refine And.intro ?_ ?_|refine⟨_,U,_,U,_,U,?_⟩|exact Ap.of_eq (by simp[Ao.AH,e,Dk.m0,AE])));done)) (h8:=(by simp[zn,V.wk,V.Ar,za,Ty.view,Tm.view,e,Dk.m0,AE])))
  .exact absurd hp' ku
 rw[if_neg k0] at e;by_cases k1:kk=1
 .subst k1;rw[if_pos rfl] at e;have a:=hH D1 g t hD1 hg ht kn;have b:=hH _ g S (hok _ g t hD1) hg hSs kn;have fa:=hF D1 g t hg ht;have fb:=hF (Dk.tm n D1 g t).2 g S hg hSs;have c1:=Dj 10 [(Dk.tm n D1 g t).1,(Dk.tm n (Dk.tm n D1 g t).2 g S).1] kC;have c2:=Dj 11 [nT 10 [(Dk.tm n D1 g t).1,(Dk.tm n (Dk.tm n D1 g t).2 g S).1]] oV;(repeat' first|refine M.o6 @hx8 @tp @a @b @c1 @c2 ?_|refine M.z1 29 ?_|refine M.bl ?_|refine M.cs ?_ ?_<;>intro h|refine M.gk ?_|fail)
  ·(exact M.n2 AJ (h6:=(by(repeat'(first|exact trivial|refine And.intro ?_ ?_|refine⟨_,U,_,U,_,U,?_⟩|exact Ap.of_eq (by simp[Ao.AH,e,Dk.m1,nT])));done)) (h8:=(by simp[zn,V.wk,V.Ar,za,Ty.view,Tm.view,e,Dk.m1,nT])))
  .exact absurd hp' ku
 rw[if_neg k1] at e;by_cases k2:kk=2
 .subst k2;rw[if_pos rfl] at e;have a:=hH W (g++[Ac,t]) t hD g2 ht kC;have b:=hH _ g t (hok _ (g++[Ac,t]) t hD) hg ht kn;have hdb:=hok _ g t (hok _ (g++[Ac,t]) t hD);have fa:=hF W (g++[Ac,t]) t g2 ht;have fb:=hF (Dk.tm n W (g++[Ac,t]) t).2 g t hg ht;have lo:=Kt g [Ac,t] kC;have nx:=FX _ 3 hdb kn;have nu:=JR ((Dk.tm n (Dk.tm n W (g++[Ac,t]) t).2 g t).2.next 3).1;have fn:=Zyr (Dk.tm n (Dk.tm n W (g++[Ac,t]) t).2 g t).2;have en:Ac.size=1:=rfl;have c1:=G9 2 t [(Dk.tm n W (g++[Ac,t]) t).1] kC kn;have c2:=G9 2 Ac [Be t (Dk.tm n W (g++[Ac,t]) t).1] lY kn;have c3:=G9 6 t [(Dk.tm n (Dk.tm n W (g++[Ac,t]) t).2 g t).1,Be Ac (Be t (Dk.tm n W (g++[Ac,t]) t).1),vu ((Dk.tm n (Dk.tm n W (g++[Ac,t]) t).2 g t).2.next 3).1] lY kn;(repeat' first|refine M.o6 @DR @hx8 @a @b @lo @nx ?_|refine M.c2 (nu) ?_|refine M.c2 (c1) ?_|refine M.c2 (c2) ?_|refine M.c2 (c3) ?_|refine M.z1 29 ?_|refine M.bl ?_|refine M.cs ?_ ?_<;>intro h|refine M.gk ?_|fail)
  ·(exact M.n2 AJ (h6:=(by(repeat'(first|exact trivial|refine And.intro ?_ ?_|refine⟨_,U,_,U,_,U,?_⟩|exact Ap.of_eq (by simp[Ao.AH,e,Dk.m2,hT])));done)) (h8:=(by simp[zn,V.wk,V.Ar,za,Ty.view,Tm.view,e,Dk.m2,hT])))
  .exact absurd hp' ku
 rw[if_neg k2] at e;by_cases k3:kk=3
 .subst k3;rw[if_pos rfl] at e;have a:=hH W (g++[Ac,Al,t]) t hD g3 ht kC;have b:=hH _ g t (hok _ (g++[Ac,Al,t]) t hD) hg ht kn;have c:=hH _ g Al (hok _ g t (hok _ (g++[Ac,Al,t]) t hD)) hg xu kn;have fa:=hF W (g++[Ac,Al,t]) t g3 ht;have fb:=hF (Dk.tm n W (g++[Ac,Al,t]) t).2 g t hg ht;have fc:=hF (Dk.tm n (Dk.tm n W (g++[Ac,Al,t]) t).2 g t).2 g Al hg xu;have lo:=Kt g [Ac,Al,t] kC;have en:Ac.size=1:=rfl;have el:Al.size=1:=rfl;have c1:=G9 2 t [(Dk.tm n W (g++[Ac,Al,t]) t).1] kC kn;have c2:=G9 2 Al [Be t (Dk.tm n W (g++[Ac,Al,t]) t).1] lY kn;have c3:=G9 2 Ac [Be Al (Be t (Dk.tm n W (g++[Ac,Al,t]) t).1)] lY kn;have c4:=G9 9 t [(Dk.tm n (Dk.tm n W (g++[Ac,Al,t]) t).2 g t).1,Be Ac (Be Al (Be t (Dk.tm n W (g++[Ac,Al,t]) t).1)),(Dk.tm n (Dk.tm n (Dk.tm n W (g++[Ac,Al,t]) t).2 g t).2 g Al).1] lY kn;(repeat' first|refine M.o6 @DR @Gu @hx8 @a @b @c ?_|refine M.c2 (lo) ?_|refine M.c2 (c1) ?_|refine M.c2 (c2) ?_|refine M.c2 (c3) ?_|refine M.c2 (c4) ?_|refine M.z1 29 ?_|refine M.bl ?_|refine M.cs ?_ ?_<;>intro h|refine M.gk ?_|fail)
  ·(exact M.n2 AJ (h6:=(by(repeat'(first|exact trivial|refine And.intro ?_ ?_|refine⟨_,U,_,U,_,U,?_⟩|exact Ap.of_eq (by simp[Ao.AH,e,Dk.m3,hT])));done)) (h8:=(by simp[zn,V.wk,V.Ar,za,Ty.view,Tm.view,e,Dk.m3,hT])))
  .exact absurd hp' ku
 rw[if_neg k3] at e;by_cases k4:kk=4
 .subst k4;rw[if_pos rfl] at e;have a:=hH D1 g S hD1 hg hSs kn;have b:=hH _ g t (hok _ g S hD1) hg ht kn;have fa:=hF D1 g S hg hSs;have fb:=hF (Dk.tm n D1 g S).2 g t hg ht;have c1:=Dj 10 [(Dk.tm n D1 g S).1,(Dk.tm n (Dk.tm n D1 g S).2 g t).1] kC;have c2:=Dj 12 [nT 10 [(Dk.tm n D1 g S).1,(Dk.tm n (Dk.tm n D1 g S).2 g t).1]] oV;(repeat' first|refine M.o6 @hx8 @tp @a @b @c1 @c2 ?_|refine M.z1 29 ?_|refine M.bl ?_|refine M.cs ?_ ?_<;>intro h|refine M.gk ?_|fail)
  ·(exact M.n2 AJ (h6:=(by(repeat'(first|exact trivial|refine And.intro ?_ ?_|refine⟨_,U,_,U,_,U,?_⟩|exact Ap.of_eq (by simp[Ao.AH,e,Dk.m4,nT])));done)) (h8:=(by simp[zn,V.wk,V.Ar,za,Ty.view,Tm.view,e,Dk.m4,nT])))
  .exact absurd hp' ku
 rw[if_neg k4] at e;by_cases k5:kk=5
 .subst k5;rw[if_pos rfl] at e;(repeat' first|refine M.o1 @hx8 ?_|refine M.z1 29 ?_|refine M.bl ?_|refine M.cs ?_ ?_<;>intro h|refine M.gk ?_|fail);all_goals first
   |exact absurd hp' ku
   |skip
  refine M.rp g.length (fun m=>∀j,j<m->HX g t j=false)
   (fun m=>([(0,.ptr 0 0),(1,.s .ty g),(3,.i depth),(6,.ptr 1 0),(8,.ptr 2 0),(176,.i g.length),(177,.i m)],⟨3,[(0,.var W.cells),(1,.var t.view),(2,.var [.i 0,.i 0,.i 0,.slice .nil (.t .ty []),.slice .nil (.t .tm [])])]⟩))
   (by intro j hj;omega) (M.W F8) ?_ ?_
  .intro m hm hP;have hm2:g.length-1-m<g.length:=kn
   have hat:BI g (g.length-1-m)=g[g.length-1-m]:=Oi hm2;have hgs:(g[g.length-1-m]).small:=hg _ (fA hm2);have hstep:∀b,HX g t m=b->b=false->∀j,j<m+1->HX g t j=false:=fun b hb hf j hj=>by
    by_cases hjm:j=m
    .rw[hjm,hb,hf]
    .exact hP j kn
   have hfn:HX g t m=((g[g.length-1-m]).kind==4&&decide (BI (g[g.length-1-m]).args 1=t)):=by simp only[HX,hat]
   by_cases hk4:(g[g.length-1-m]).kind=4
   .obtain ⟨p,q,hpq⟩:=Ty.CW hgs.1 (.inr hk4);have l0:0<(g[g.length-1-m]).args.length:=by rw[hpq];simp
    have l1:1<(g[g.length-1-m]).args.length:=by rw[hpq];simp
    have sm:=wz _ ((g[g.length-1-m]).args[1]) t (fB _) (by
     have h1:=zc Ty.size (fA l1);have h2:=(g[g.length-1-m]).size_eq;have h3:=hgs.2;omega)
    have ha1:BI (g[g.length-1-m]).args 1=(g[g.length-1-m]).args[1]:=Oi l1;have ha0:BI (g[g.length-1-m]).args 0=(g[g.length-1-m]).args[0]:=Oi l0;rw[ha1,beq_iff_eq.2 hk4,gY] at hfn;have sm0:((g[g.length-1-m]).args[0]).small:=by
     have h1:=zc Ty.size (fA l0);have h2:=(g[g.length-1-m]).size_eq;have h3:=hgs.2;have h4:=hgs.1;rw[Ty.Ak,fD] at h4;exact⟨fF.1 h4.2 _ (fA l0),kn⟩
    have a:=hH W g ((g[g.length-1-m]).args[0]) hD hg sm0 kn;have fa:=hF W g ((g[g.length-1-m]).args[0]) hg sm0;have vc:=Fg m;have c1:=Dj 3 [vT m,(Dk.tm n W g ((g[g.length-1-m]).args[0])).1] (by simp[vT,Tm.full,Tm.Ay,Ty.size,Ty.sizes];omega);(repeat' first|refine M.o0 ?_|refine M.z1 29 ?_|refine M.gk ?_|fail);refine L.Fc (g.length-1-m) rfl rfl rfl rfl kn rfl rfl hm2 ?_;(repeat' first|refine M.o4 @sm @vc @a @c1 ?_|refine M.gs ?_ ?_<;>intro h|refine M.z1 29 ?_|refine M.cs ?_ ?_<;>intro h|refine M.gk ?_|fail)
    .have hf:HX g t m=true:=hfn.trans h;have e2:W.m5 (Dk.tm n) (decide (2<=n)) g t=(AE (vT m) (Dk.tm n W g ((g[g.length-1-m]).args[0])).1,(Dk.tm n W g ((g[g.length-1-m]).args[0])).2):=by unfold Dk.m5;rw[Yge hm hP hf];simp only[hat,ha0]
     rw[e2] at e
     (exact M.n2 AJ (h6:=(by(repeat'(first|exact trivial|refine And.intro ?_ ?_|refine⟨_,U,_,U,_,U,?_⟩|exact Ap.of_eq (by simp[Ao.AH,e,AE,vT])));done)) (h8:=(by simp[zn,V.wk,V.Ar,za,Ty.view,Tm.view,e,AE,vT])))
    .exact ⟨rfl,hstep _ hfn h,(M.W F8)⟩
    .exact absurd hk4 ku
   .repeat' (first|refine M.o0 ?_|refine M.z1 29 ?_|refine M.gk ?_|fail)
    refine L.Fc (g.length-1-m) rfl rfl rfl rfl kn rfl rfl hm2 ?_;(repeat' first|refine M.o0 ?_|refine M.gs ?_ ?_<;>intro h|refine M.z1 29 ?_|refine M.gk ?_|fail)
    .exact absurd ku hk4
    .have hk4':((g[g.length-1-m]).kind==4)=false:=by simpa using hk4
     rw[hk4',iz] at hfn;exact⟨rfl,hstep _ hfn rfl,(M.W F8)⟩
  .intro hP;repeat'(first|with_reducible refine K.tN ?_|with_reducible refine K.bN ?_)
   have e2:W.m5 (Dk.tm n) (decide (2<=n)) g t=W.fin (Dk.tm n) (decide (2<=n)) g t:=by unfold Dk.m5;rw[Zt5 hP]
   rw[e,e2];exact AW.weak (M.W F8) (TK n H hn depth hdep W hD g t hg ht h0 hl)
 rw[if_neg k5] at e;have n0:(kk==0)=false:=by simpa using k0
 (repeat' first|refine M.o1 @hx8 ?_|refine M.z1 29 ?_|refine M.bl ?_|refine M.cs ?_ ?_<;>intro h|refine M.gk ?_|fail);all_goals first
  |exact absurd hp' ku
  |exact absurd ku k0
  |exact absurd ku k1
  |exact absurd ku k2
  |exact absurd ku k3
  |exact absurd ku k4
  |exact absurd ku k5
  |(rw[e];exact AW.weak (M.W F8) (TK n H hn depth hdep W hD g t hg ht h0 hl))
theorem Yt6(n:Nat)(H:HT n)(hn:n<=7)(depth:Int)(hdep:depth=(n:Int)-1)(d:Dk)(hd:d.ok)(g:List Ty)(t:Ty)(hg:Aj g)(ht:t.small)(h0:n=0->t.size=1)(hl:g.length+3*(n+1)<=10000):
 AC E 58 [.ptr 0 0,.s .ty g,.agg t.view,.i depth] ⟨1,[(0,.var d.cells)]⟩ (.agg (d.gen (Dk.tm n) (decide (2<=n)) g t).1.view) ⟨1,[(0,.var (d.gen (Dk.tm n) (decide (2<=n)) g t).2.cells)]⟩:=by
 have hsum:=Zxr hg;have hvl:(v9 g t).length<=g.length:=by
  simp only[v9,gH];have:=i6 (fun i=>decide (g[g.length-1-i]? =some t)) (List.range g.length);simpa using this
 have hv:=Yrb g t kn;have hx3:=FX d 3 hd kn;have hd3:=Dk.AQ hd 3;have hxl:=FX (d.next 3).2 (v9 g t).length hd3 kn;have m1:=XH n H hn depth hdep d hd g t hg ht h0 hl;have m2:=XH n H hn depth hdep (d.next 3).2 hd3 g t hg ht h0 hl;have hvar:=Fg;by_cases he:v9 g t=[]
 .have e:d.gen (Dk.tm n) (decide (2<=n)) g t=d.mid (Dk.tm n) (decide (2<=n)) g t:=by unfold Dk.gen;rw[if_pos he]
  have hl0:¬(((v9 g t).length:Int)>0):=by rw[he];simp
  refine M.F Tryz.func58 ?_;(repeat' first|refine M.o2 @hv @hx3 ?_|refine M.gs ?_ ?_<;>intro h|refine M.z1 4 ?_|refine M.cs ?_ ?_<;>intro h|refine M.gk ?_|fail)
  .rename_i h1;exact absurd lT hl0
  .rename_i h1;exact absurd lT hl0
  .rw[e];exact AW.weak (M.W F8) m1
 .have e:d.gen (Dk.tm n) (decide (2<=n)) g t=if 0<(d.next 3).1 then(vT ((v9 g t).getD ((d.next 3).2.next (v9 g t).length).1.toNat 0),((d.next 3).2.next (v9 g t).length).2) else(d.next 3).2.mid (Dk.tm n) (decide (2<=n)) g t:=by unfold Dk.gen;rw[if_neg he]
  have hlp:0<(v9 g t).length:=List.length_pos_iff.2 he;have hl0:((v9 g t).length:Int)>0:=kn
  have hbl:=Dk.BC (d.next 3).2 (v9 g t).length hl0;have hlt:((d.next 3).2.next (v9 g t).length).1.toNat<(v9 g t).length:=kn
  refine M.F Tryz.func58 ?_;(repeat' first|refine M.o3 @hv @hx3 @hxl ?_|refine M.gs ?_ ?_<;>intro h|refine M.z1 4 ?_|refine M.cs ?_ ?_<;>intro h|refine M.gk ?_|fail)
  .refine L.Fc ((d.next 3).2.next (v9 g t).length).1.toNat rfl rfl rfl rfl kn rfl rfl hlt ?_;have eg:(v9 g t).getD ((d.next 3).2.next (v9 g t).length).1.toNat 0=(v9 g t)[((d.next 3).2.next (v9 g t).length).1.toNat]:=by simp[gy,hlt]
   rw[if_pos ku,eg] at e;(repeat' first|refine M.w0 ?_|refine M.c2 (hvar _) ?_|fail)
   (exact M.n2 AJ (h6:=(by(repeat'(first|exact trivial|refine And.intro ?_ ?_|refine⟨_,U,_,U,_,U,?_⟩|exact Ap.of_eq (by simp[Ao.AH,e,vT])));done)) (h8:=(by simp[zn,V.wk,V.Ar,za,Ty.view,Tm.view,e,vT])))
  .rw[e,if_neg ku];exact AW.weak (M.W F8) m2
  .exact absurd hl0 ku
theorem LF:∀n,n<=8->HT n
 |0,_=>fun d g t k _ _ _ _ h=>kn
 |n+1,hn=>fun d g t k hk hd hg ht _ h1 hl=>Yt6 n (LF n kn) kn k kn d hd g t hg ht kn hl
theorem UW(d:Dk)(h:d.ok):AC E 54 [.ptr 0 0,.i 1] ⟨1,[(0,.var d.cells)]⟩ (.agg (d.type 1).1.view) ⟨1,[(0,.var (d.type 1).2.cells)]⟩:=Ni 1 1 d kn kn kn h
theorem Yro(t:Tm)(hs:t.shape=true):PC E 233 [.agg t.view] (.bool (vw t)):=by
 by_cases k3:t.kind=3
 .obtain ⟨i,th,f,a,rfl,hf,ha⟩:=KK hs k3 rfl;refine M.F Tryz.func233 ?_;refine M.v0 ?_
  rfl
 .by_cases k6:t.kind=6
  .obtain ⟨i,th,x,y,z,rfl,_,_,_⟩:=M3 hs k6 rfl;by_cases h4:z.kind=4
   .have e:vw (.mk 6 i th [x,y,z])=true:=mY
    rw[e];refine M.F Tryz.func233 ?_;(repeat' first|refine M.w0 ?_|refine M.gs ?_ ?_<;>intro h|refine M.bl ?_|fail);all_goals first
     |rfl
     |(exfalso;simp_all;done)
   .have e:vw (.mk 6 i th [x,y,z])=(z.kind==5):=mY
    rw[e];refine M.F Tryz.func233 ?_;(repeat' first|refine M.w0 ?_|refine M.gs ?_ ?_<;>intro h|refine M.bl ?_|fail);all_goals first
     |rfl
     |(exfalso;simp_all;done)
  .by_cases k9:t.kind=9
   .obtain ⟨i,th,x,y,z,rfl,_,_,_⟩:=M3 hs k9 rfl;by_cases h4:z.kind=7
    .have e:vw (.mk 9 i th [x,y,z])=true:=mY
     rw[e];refine M.F Tryz.func233 ?_;(repeat' first|refine M.w0 ?_|refine M.gs ?_ ?_<;>intro h|refine M.bl ?_|fail);all_goals first
      |rfl
      |(exfalso;simp_all;done)
    .have e:vw (.mk 9 i th [x,y,z])=(z.kind==8):=mY
     rw[e];refine M.F Tryz.func233 ?_;(repeat' first|refine M.w0 ?_|refine M.gs ?_ ?_<;>intro h|refine M.bl ?_|fail);all_goals first
      |rfl
      |(exfalso;simp_all;done)
   .by_cases k11:t.kind=11
    .obtain ⟨i,th,x,rfl,_⟩:=Hp hs k11 rfl;refine M.F Tryz.func233 ?_;refine M.v0 ?_
     rfl
    .by_cases k12:t.kind=12
     .obtain ⟨i,th,x,rfl,_⟩:=Hp hs k12 rfl;refine M.F Tryz.func233 ?_;refine M.v0 ?_
      rfl
     .have e:vw t=false:=by simp[vw,k3,k6,k9,k11,k12]
      rw[e];have b3:¬(t.kind==3)=true:=by simpa using k3
      have b6:¬(t.kind==6)=true:=by simpa using k6
      have b9:¬(t.kind==9)=true:=by simpa using k9
      have b11:¬(t.kind==11)=true:=by simpa using k11
      have b12:¬(t.kind==12)=true:=by simpa using k12
      refine M.F Tryz.func233 ?_;(repeat' first|refine M.w0 ?_|refine M.gs ?_ ?_<;>intro h|refine M.bl ?_|refine M.cs ?_ ?_<;>intro h|fail);all_goals first
       |rfl
       |contradiction
theorem Ylw{t x:Tm}(hv:RV t x)(hs:t.shape=true)(hz:t.size<=4096):PC E 234 [.agg t.view] (.i (HF t)):=by
 have hfull:=xl t hs;have h0:=xo _ t (fB _) kn;cases hv with
 |beta i th j s b a=>
  have hb:b.shape=true:=zd (zd hs (.mk 2 j s [b]) ko) b ko;have ha:a.shape=true:=zd hs a ko;have hsz:(Tm.mk 3 i th [Tm.mk 2 j s [b],a]).size=2+b.size+a.size:=lZ
  have fb:=xl b hb;have fa:=xl a ha;have h1:=xo _ b (fB _) kn;have h2:=cU _ b 0 (fB _) kn kn kn hb;have h3:=xo _ a (fB _) kn;have htl:=O2 b 0;have hap:=a.size_pos;have hm:=Xl (xn 0 b) (a.size-1) kn kn;have hm': -9223372036854775808<=(xn 0 b:Int)*(a.size-1)/\(xn 0 b:Int)*(a.size-1)<=9223372036854775807:=kn
  have e:HF (Tm.mk 3 i th [Tm.mk 2 j s [b],a])=b.size+xn 0 b*(a.size-1)-(Tm.mk 3 i th [Tm.mk 2 j s [b],a]).size:=by
   have hc:=UJ b 0 0 hb;rw[Int.add_zero] at hc;show((b.re (yq 0 a) 0).size:Int)-_=_;rw[PG 0 a b ha 0 hb,hc];congr 1;rw[ij,Int.natCast_mul];congr 2;omega
  rw[e];clear e;refine M.F Tryz.func234 ?_;refine M.v4 @h0 @h1 @h2 @h3 ?_
  rfl
 |rz i th _ f j s=>
  have h1:=xo _ x (fB _) (by have:=xl x (zd hs x ko);have:=zc Tm.size (l:=[x,f,Tm.mk 4 j s []]) (t:=x) ko;have:=Tm.size_eq (Tm.mk 6 i th [x,f,Tm.mk 4 j s []]);simp only[Tm.Af] at this;omega);have e:(x.size:Int)<=4096:=by have:=zc Tm.size (l:=[x,f,Tm.mk 4 j s []]) (t:=x) ko;have:=Tm.size_eq (Tm.mk 6 i th [x,f,Tm.mk 4 j s []]);simp only[Tm.Af] at this;omega
  have e2:HF (Tm.mk 6 i th [x,f,Tm.mk 4 j s []])=x.size-(Tm.mk 6 i th [x,f,Tm.mk 4 j s []]).size:=rfl;rw[e2];refine M.F Tryz.func234 ?_;refine M.v2 @h0 @h1 ?_
  rfl
 |fz i th _ f j s=>
  have h1:=xo _ x (fB _) (by have:=xl x (zd hs x ko);have:=zc Tm.size (l:=[x,f,Tm.mk 7 j s []]) (t:=x) ko;have:=Tm.size_eq (Tm.mk 9 i th [x,f,Tm.mk 7 j s []]);simp only[Tm.Af] at this;omega);have e:(x.size:Int)<=4096:=by have:=zc Tm.size (l:=[x,f,Tm.mk 7 j s []]) (t:=x) ko;have:=Tm.size_eq (Tm.mk 9 i th [x,f,Tm.mk 7 j s []]);simp only[Tm.Af] at this;omega
  have e2:HF (Tm.mk 9 i th [x,f,Tm.mk 7 j s []])=x.size-(Tm.mk 9 i th [x,f,Tm.mk 7 j s []]).size:=rfl;rw[e2];refine M.F Tryz.func234 ?_;refine M.v2 @h0 @h1 ?_
  rfl
 |rs i th x f j s n=>
  have hn:n.shape=true:=zd (zd hs (.mk 5 j s [n]) ko) n ko;have hsz:(Tm.mk 6 i th [x,f,Tm.mk 5 j s [n]]).size=2+x.size+f.size+n.size:=lZ
  have h1:=xo _ f (fB _) (by have:=xl f (zd hs f ko);omega);have h2:=xo _ n (fB _) (by have:=xl n hn;omega);have e2:HF (Tm.mk 6 i th [x,f,Tm.mk 5 j s [n]])=2+f.size+n.size+(Tm.mk 6 i th [x,f,Tm.mk 5 j s [n]]).size-1-(Tm.mk 6 i th [x,f,Tm.mk 5 j s [n]]).size:=by
   show((AE (AE f n) (.mk 6 0 th [x,f,n])).size:Int)-_=_;simp[AE,Tm.size,Tm.sizes];omega
  rw[e2];clear e2;refine M.F Tryz.func234 ?_;refine M.v3 @h0 @h1 @h2 ?_
  rfl
 |fs i th x f j s n l=>
  have hn:n.shape=true:=zd (zd hs (.mk 8 j s [n,l]) ko) n ko;have hl:l.shape=true:=zd (zd hs (.mk 8 j s [n,l]) ko) l ko;have hsz:(Tm.mk 9 i th [x,f,Tm.mk 8 j s [n,l]]).size=2+x.size+f.size+n.size+l.size:=lZ
  have h1:=xo _ f (fB _) (by have:=xl f (zd hs f ko);omega);have h2:=xo _ n (fB _) (by have:=xl n hn;omega);have h3:=xo _ l (fB _) (by have:=xl l hl;omega);have e2:HF (Tm.mk 9 i th [x,f,Tm.mk 8 j s [n,l]])=3+f.size+n.size+l.size+(Tm.mk 9 i th [x,f,Tm.mk 8 j s [n,l]]).size-1-n.size-(Tm.mk 9 i th [x,f,Tm.mk 8 j s [n,l]]).size:=by
   show((AE (AE (AE f n) l) (.mk 9 0 th [x,f,l])).size:Int)-_=_;simp[AE,Tm.size,Tm.sizes];omega
  rw[e2];clear e2;refine M.F Tryz.func234 ?_;refine M.v4 @h0 @h1 @h2 @h3 ?_
  rfl
 |p1 i th j s _ y=>
  have hsz:(Tm.mk 11 i th [Tm.mk 10 j s [x,y]]).size=2+x.size+y.size:=lZ
  have hx:x.shape=true:=zd (zd hs (.mk 10 j s [x,y]) ko) x ko;have h1:=xo _ x (fB _) (by have:=xl x hx;omega);have e2:HF (Tm.mk 11 i th [Tm.mk 10 j s [x,y]])=x.size-(Tm.mk 11 i th [Tm.mk 10 j s [x,y]]).size:=rfl;rw[e2];clear e2;refine M.F Tryz.func234 ?_;refine M.v2 @h0 @h1 ?_
  rfl
 |p2 i th j s y _=>
  have hsz:(Tm.mk 12 i th [Tm.mk 10 j s [y,x]]).size=2+x.size+y.size:=lZ
  have hx:x.shape=true:=zd (zd hs (.mk 10 j s [y,x]) ko) x ko;have h1:=xo _ x (fB _) (by have:=xl x hx;omega);have e2:HF (Tm.mk 12 i th [Tm.mk 10 j s [y,x]])=x.size-(Tm.mk 12 i th [Tm.mk 10 j s [y,x]]).size:=rfl;rw[e2];clear e2;refine M.F Tryz.func234 ?_;refine M.v2 @h0 @h1 ?_
  rfl
theorem P8{t x:Tm}{B:Int}(hx:x∈t.args)(h:∀p∈t.vars 0,0<=p.1/\p.1<B):∀p∈x.vars 0,0<=p.1/\p.1<B:=by
 intro p hp;have e:=u7 x 0 (up t.kind 0);have hm:(p.1,p.2+up t.kind 0)∈t.vars 0:=by
  rw[Tm.AY];refine g9 _ (gh.2 ⟨x,hx,?_⟩);rw[gL] at e;rw[e];exact fO.2 ⟨p,hp,rfl⟩
 have h3:=h (p.1,p.2+up t.kind 0) hm;exact h3
theorem Yoh{t x:Tm}(hv:RV t x)(hs:t.shape=true)(hz:t.size<=4096)(hix:∀p∈t.vars 0,0<=p.1/\p.1<1073741824):PC E 235 [.agg t.view] (.agg x.view):=by
 have hfull:=xl t hs;cases hv with
 |beta i th j s b a=>
  have hb:b.shape=true:=zd (zd hs (.mk 2 j s [b]) ko) b ko;have ha:a.shape=true:=zd hs a ko;have hsz:(Tm.mk 3 i th [Tm.mk 2 j s [b],a]).size=2+b.size+a.size:=lZ
  have fb:=xl b hb;have fa:=xl a ha;have hia:=P8 (t:=Tm.mk 3 i th [Tm.mk 2 j s [b],a]) (x:=a) ko hix;have hib:=P8 (t:=Tm.mk 2 j s [b]) (x:=b) ko (P8 (t:=Tm.mk 3 i th [Tm.mk 2 j s [b],a]) (x:=Tm.mk 2 j s [b]) ko hix);have h1:=XE 0 a kn ha kn (fun p hp=>by have:=hia p hp;omega) _ b 0 (fB _) kn kn kn hb (fun p hp=>by have:=hib p hp;omega);refine M.F Tryz.func235 ?_;refine M.v1 @h1 ?_
  rfl
 |rz i th _ f j s=>
  exact rH
 |fz i th _ f j s=>
  exact rH
 |rs i th x f j s n=>
  have hff:(Tm.mk 6 i th [x,f,Tm.mk 5 j s [n]]).full=2+th.size+s.size+x.full+f.full+n.full:=by simp[Tm.full,Tm.Ay];omega
  have h1:=Dj 3 [f,n] kC;have h2:=G9 6 th [x,f,n] kC kn;have h3:=Dj 3 [AE f n,.mk 6 0 th [x,f,n]] nN;refine M.F Tryz.func235 ?_;refine M.v3 @h1 @h2 @h3 ?_
  rfl
 |fs i th x f j s n l=>
  have hff:(Tm.mk 9 i th [x,f,Tm.mk 8 j s [n,l]]).full=2+th.size+s.size+x.full+f.full+n.full+l.full:=by simp[Tm.full,Tm.Ay];omega
  have h1:=Dj 3 [f,n] kC;have h2:=Dj 3 [AE f n,l] nN;have h3:=G9 9 th [x,f,l] kC kn;have h4:=Dj 3 [AE (AE f n) l,.mk 9 0 th [x,f,l]] nN;refine M.F Tryz.func235 ?_;refine M.v4 @h1 @h2 @h3 @h4 ?_
  rfl
 |p1 i th j s _ y=>
  exact rH
 |p2 i th j s y _=>
  exact rH
end Go.Ab
