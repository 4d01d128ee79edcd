/- A part of this seat's proofs. No conditions. -/
import Derived.Test.YtmhcohcihajegaaGreatDoorCS3
namespace Go.Ab
open Go Go.Proofs
set_option maxRecDepth 100000
set_option linter.all false
theorem Zz7(n:Nat)(hn:n<100000):PC E 135 [.i n] (.agg (Cy n).view):=by
 have h1:=Dj 4 [] ko;refine M.F Tryz.func135 ?_;refine M.w1 @h1 ?_;refine K.sq (AW.down n (fun m=>m<=n)
  (fun m=>([(0,.i m),(2,.ptr 0 0),(3,.ptr 1 0)],⟨2,[(0,.var [.i 0,.i 0,.i 0,.slice .nil (.t .ty []),.slice .nil (.t .tm [])]),(1,.var (Cy (n-m)).view)]⟩))
  kn (fun m=>rfl) rfl (fB _) ?_ ?_ ?_)
 .simp only[jd];exact(M.W Bo)
 .intro m hm hP;have e:Cy (n-m)= .mk 5 0 (.mk 0 []) [Cy (n-(m+1))]:=by rw[show n-m=(n-(m+1))+1 by omega];rfl
  refine M.w0 ?_;refine⟨rfl,kn,?_⟩;simp only[e];exact(M.W Bo)
 .intro _;refine M.w0 ?_;simp[zn,V.wk,V.Ar,za,Ty.view,Tm.view]
theorem Yfy(n:Int):PC E 87 [.i n] (.AP [.agg (if 0<=n/\n<4096 then Cy n.toNat else AB).view,.i (if n<0 then 1 else if n>=4096 then 4 else 0)]):=by
 have h1:¬n<0->¬n>=4096->PC E 135 [.i n] _:=fun h h'=>by
  have:=Zz7 n.toNat kn;rw[show((n.toNat:Nat):Int)=n by omega] at this;exact this
 refine M.F Tryz.func87 ?_;(repeat' first|refine M.w0 ?_|refine M.c2 (h1 kP kP) ?_|refine M.cs ?_ ?_<;>intro h|fail)
 .have h':n<0:=ku
  have h2:¬(0<=n/\n<4096):=kn
  simp[zn,V.wk,V.Ar,za,Ty.view,Tm.view,AB,h',h2]
 .rename_i h0;have h':¬n<0:=k8
  have h'':n>=4096:=ku
  have h2:¬(0<=n/\n<4096):=kn
  simp[zn,V.wk,V.Ar,za,Ty.view,Tm.view,AB,h',h'',h2]
 .rename_i h0;have h':¬n<0:=k8
  have h'':¬n>=4096:=ku
  have h2:0<=n/\n<4096:=kn
  simp[zn,V.wk,V.Ar,za,Ty.view,Tm.view,AB,h',h'',h2]
theorem Kt(g l:List Ty)(h:g.length+l.length<1000000):PC E 90 [.s .ty g,.s .ty l] (.s .ty (g++l)):=by
 refine M.F Tryz.func90 ?_;refine M.w0 ?_;simp[zn,V.wk,V.Ar,za,Ty.view,Tm.view]
theorem I1(t:Tm)(ht:t.full<549755813888):PC E 138 [.agg t.view] (.agg (Tm.mk 2 0 (.mk 1 []) [t]).view):=by
 have h1:=G9 2 (.mk 1 []) [t] kC (by simp[Ty.size_eq]);refine M.F Tryz.func138 ?_;refine M.w2 @DR @h1 ?_;simp[zn,V.wk,V.Ar,za,Ty.view,Tm.view]
theorem JR(n:Int):PC E 29 [.i n] (.agg (vu n).view):=by
 have h1:=Yfy n;refine M.F Tryz.func29 ?_;refine M.w1 @h1 ?_;simp[zn,V.wk,V.Ar,za,Ty.view,Tm.view,vu]
theorem Ydz(d:Dk)(hd:d.ok):AC E 32 [.ptr 0 0] ⟨1,[(0,.var d.cells)]⟩ (.s .ty d.ctx.1) ⟨1,[(0,.var d.ctx.2.cells)]⟩:=by
 have h1:=FX d 4 hd kn;have hb:=Dk.BC d 4 kn;obtain⟨c,hc⟩:∃c:Nat,(d.next 4).1=c:=⟨(d.next 4).1.toNat,kn⟩;rw[hc] at h1 hb;have hx:d.ctx=(d.next 4).2.types c:=by simp only[Dk.ctx,hc];rfl
 refine M.F Tryz.func32 ?_;refine M.w1 @h1 ?_;refine AW.down c (fun m=>m<=c)
  (fun m=>([(0,.ptr 0 0),(3,.slice (.own 1) (.t .ty ((d.next 4).2.types (c-m)).1)),(4,.i m)],⟨2,[(0,.var ((d.next 4).2.types (c-m)).2.cells),(1,.row)]⟩))
  kn (fun m=>rfl) rfl (fB _) ?_ ?_ ?_
 .simp only[jd];exact(M.W Rb)
 .intro m hm hP;have e:=Dk.EB (c-(m+1)) (d.next 4).2;rw[show c-(m+1)+1=c-m by omega] at e;have h2:=Ni 1 1 ((d.next 4).2.types (c-(m+1))).2 kn kn kn (Dk.EG _ _ (Dk.AQ hd 4));have hl:=Dk.DX (c-(m+1)) (d.next 4).2;refine M.w1 @h2 ?_;refine⟨rfl,kn,?_⟩;simp only[e];exact(M.W [some 0,some 2])
 .intro _;refine M.w0 ?_
  (exact M.n2 AJ (h6:=(by(repeat'(first|exact trivial|refine And.intro ?_ ?_|refine⟨_,U,_,U,_,U,?_⟩|exact Ap.of_eq (by simp[Ao.AH,hx])));done)) (h8:=(by simp[zn,V.wk,V.Ar,za,Ty.view,Tm.view,hx])))
theorem TB(b f n:Tm)(h:b.full+f.full+n.full<549755813888):PC E 139 [.agg b.view,.agg f.view,.agg n.view] (.agg (Tm.mk 6 0 (.mk 1 []) [b,f,n]).view):=by
 have h1:=G9 6 (.mk 1 []) [b,f,n] kC (by simp[Ty.size_eq]);refine M.F Tryz.func139 ?_;refine M.w2 @DR @h1 ?_;simp[zn,V.wk,V.Ar,za,Ty.view,Tm.view]
theorem ZJ:PC E 94 [] (.agg Bt.view):=by
 have h0:=Fg 0;have h1:=Fg 1;have h2:=Dj 5 [vT 0] (by simp[Tm.full,Tm.Ay,Ty.size,Ty.sizes,vT]);have h3:=I1 (sT (vT 0)) pE;have h4:=I1 (vv (sT (vT 0))) oU;have h5:=TB (vT 1) Ct (vT 0) (by simp[Tm.full,Tm.Ay,Ty.size,Ty.sizes,vT,sT,vv,Ct]);have h6:=I1 (Dm (vT 1) Ct (vT 0)) oL;have h7:=I1 (vv (Dm (vT 1) Ct (vT 0))) oL;refine M.F Tryz.func94 ?_;(repeat' first|refine M.w6 @h0 @h1 @h2 @h3 @h4 @h5 ?_|refine M.c2 (h6) ?_|refine M.c2 (h7) ?_|fail)
 rfl
theorem Yq4:PC E 174 [] (.agg BT.view):=by
 have h0:=Fg 0;have h1:=Fg 1;have h2:=Dj 4 [] ko;have h3:=I1 (vT 1) pE;have h4:=I1 (vv (vT 1)) oU;have h5:=TB zT (vv (vv (vT 1))) (vT 0) (by simp[Tm.full,Tm.Ay,Ty.size,Ty.sizes,vT,zT,vv,Ct]);have h6:=I1 (Dm zT (vv (vv (vT 1))) (vT 0)) (by simp[Tm.full,Tm.Ay,Ty.size,Ty.sizes,vT,zT,vv,Ct,Dm]);refine M.F Tryz.func174 ?_;(repeat' first|refine M.w6 @h0 @h1 @h2 @h3 @h4 @h5 ?_|refine M.c2 (h6) ?_|fail)
 rfl
theorem Yth:PC E 118 [] (.agg Ek.view):=by
 have h0:=Fg 0;have h1:=Fg 1;have hp:=Yq4;have h2:=Dj 3 [BT,vT 0] (by simp[Tm.full,Tm.Ay,Ty.size,Ty.sizes,vT,zT,vv,BT,Dm]);have h3:=I1 (AE BT (vT 0)) oJ;have h4:=I1 (vv (AE BT (vT 0))) oJ;have h5:=TB (vT 1) CN (vT 0) nI;have h6:=I1 (Dm (vT 1) CN (vT 0)) nI;have h7:=I1 (vv (Dm (vT 1) CN (vT 0))) nI;refine M.F Tryz.func118 ?_;(repeat' first|refine M.w6 @h0 @h1 @hp @h2 @h3 @h4 ?_|refine M.c2 (h5) ?_|refine M.c2 (h6) ?_|refine M.c2 (h7) ?_|fail)
 rfl
theorem WR:∀(f:Tm) (l:List Tm),f.full+2*l.length+(l.map Tm.full).sum<274877906944->PC E 93 [.agg f.view,.s .tm l] (.agg (l.foldl AE f).view):=by
 intro f l hl;have hlen:=ze Tm.full Tm.Ad l;have hfull:∀m,m<=l.length->((l.take m).foldl AE f).full<=f.full+2*m+((l.take m).map Tm.full).sum:=by
  intro m;induction m with
  |zero=>intro _;simp
  |succ m ih=>
   intro hm;have h1:=ih kn;have h2:=yz Tm.full l m kn;rw[<-fS (by omega:m<l.length),jM,fS (by omega:m<l.length),h2];simp only[j7,List.foldl_nil,AE,Tm.full,Tm.Ay,Ty.size,Ty.sizes];omega
 refine M.F Tryz.func93 ?_;refine M.w0 ?_;refine M.rt l.length
  (fun m=>([(2,.ptr 0 0),(4,.ptr 1 0),(7,.s .tm l),(8,.i l.length),(9,.i m)],⟨2,[(0,.var ((l.take m).foldl AE f).view),(1,.var [.i 0,.i 0,.i 0,.slice .nil (.t .ty []),.slice .nil (.t .tm [])])]⟩))
  (M.W Bo) ?_ ?_
 .intro m hm hP;have e:(l.take (m+1)).foldl AE f=AE ((l.take m).foldl AE f) l[m]:=by rw[<-fS hm,jM];rfl
  have h2:=zw Tm.full l (m+1);have h3:=yz Tm.full l m hm;have h4:=hfull m kn;have h1:=Dj 3 [(l.take m).foldl AE f,l[m]] (by simp only[fJ,fU,fT,gu];omega);refine M.w1 @h1 ?_;refine⟨rfl,trivial,?_⟩;exact(M.W Bo (he:=(by(repeat'(first|exact trivial|refine And.intro ?_ ?_|refine⟨_,U,_,U,_,U,?_⟩|exact Ap.refl _|exact Ap.of_eq ou));done)))
 .intro _;refine M.w0 ?_;simp[zn,V.wk,V.Ar,za,Ty.view,Tm.view]
end Go.Ab
namespace Go.Ab
open Go Go.Proofs
set_option maxRecDepth 100000
set_option maxHeartbeats 4000000
set_option linter.all false
def HT(n:Nat):Prop:=∀(d:Dk) (g:List Ty) (t:Ty) (k:Int),k=(n:Int)-2->d.ok->Aj g->t.small->1<=n->(n=1->t.size=1)->g.length+3*n<=10000->
 AC E 58 [.ptr 0 0,.s .ty g,.agg t.view,.i k] ⟨1,[(0,.var d.cells)]⟩ (.agg (Dk.tm n d g t).1.view) ⟨1,[(0,.var (Dk.tm n d g t).2.cells)]⟩
theorem U4{n:Nat}(hn:n<=7)(d:Dk){g:List Ty}{t:Ty}(hg:Aj g)(ht:t.small)(h1:1<=n)(h2:n=1->t.size=1):(Dk.tm n d g t).1.full<=50000:=by
 have:=(Dk.C8 n d g t hg ht h1 h2).full hg ht;have:3^n<=3^7:=i9 kn hn;omega
theorem TK(n:Nat)(H:HT n)(hn:n<=7)(depth:Int)(hdep:depth=(n:Int)-1)(d:Dk)(hd:d.ok)(g:List Ty)(t:Ty)(hg:Aj g)(ht:t.small)(h0:n=0->t.size=1)(hl:g.length+3*(n+1)<=10000):
 AW E Tryz.f58.ntmps 1 (Iv [1,1,1,1] (NZ Tryz.f58)) [(0,.ptr 0 0),(1,.s .ty g),(3,.i depth),(6,.ptr 1 0),(8,.ptr 2 0)]
  ⟨3,[(0,.var d.cells),(1,.var t.view),(2,.var [.i 0,.i 0,.i 0,.slice .nil (.t .ty []),.slice .nil (.t .tm [])])]⟩
  (FT E 1 Tryz.f58.results.toList (.agg (d.fin (Dk.tm n) (decide (2<=n)) g t).1.view) ⟨1,[(0,.var (d.fin (Dk.tm n) (decide (2<=n)) g t).2.cells)]⟩):=by
 have hF:1<=n->∀d,∀t,t.small->(n=1->t.size=1)->(Dk.tm n d g t).1.full<=50000:=fun h1 d t ht h2=>U4 hn d hg ht h1 h2;have hok:∀d g t,d.ok->(Dk.tm n d g t).2.ok:=fun d g t h=>Dk.Dd n d g t h;rcases Tj ht with rfl|rfl|rfl|⟨a,b,ha,hb,h1,h2,rfl|rfl⟩
 .show AW _ _ _ (Code.seq _ _) _ _ _;by_cases hp:2<=n
  .have hp':depth>0:=kn
   have e:d.fin (Dk.tm n) (decide (2<=n)) g Ac=if(d.next 5).1=0 then(sT (Dk.tm n (d.next 5).2 g Ac).1,(Dk.tm n (d.next 5).2 g Ac).2)
    else if(d.next 5).1=1 then(AE (AE Bt (Dk.tm n (d.next 5).2 g Ac).1) (Dk.tm n (Dk.tm n (d.next 5).2 g Ac).2 g Ac).1,(Dk.tm n (Dk.tm n (d.next 5).2 g Ac).2 g Ac).2)
    else if(d.next 5).1=2 then(AE (AE Ek (Dk.tm n (d.next 5).2 g Ac).1) (Dk.tm n (Dk.tm n (d.next 5).2 g Ac).2 g Ac).1,(Dk.tm n (Dk.tm n (d.next 5).2 g Ac).2 g Ac).2)
    else(vu ((d.next 5).2.next 3).1,((d.next 5).2.next 3).2):=by simp[Dk.fin,Ac,hp]
   have hd5:=Dk.AQ hd 5;have hx5:=FX d 5 hd kn;have hx3:=FX (d.next 5).2 3 hd5 kn;have a1:=H (d.next 5).2 g Ac (depth-1) kn hd5 hg zj kn kn kn;have a2:=H (Dk.tm n (d.next 5).2 g Ac).2 g Ac (depth-1) kn (hok _ _ _ hd5) hg zj kn kn kn;have f1:=hF kn (d.next 5).2 Ac zj kn;have f2:=hF kn (Dk.tm n (d.next 5).2 g Ac).2 Ac zj kn;have hs:=Dj 5 [(Dk.tm n (d.next 5).2 g Ac).1] kC;have p1:Bt.full<=18:=kq
   have p2:Ek.full<=36:=kq
   have ap:=WR Bt [(Dk.tm n (d.next 5).2 g Ac).1,(Dk.tm n (Dk.tm n (d.next 5).2 g Ac).2 g Ac).1] kC;have asb:=WR Ek [(Dk.tm n (d.next 5).2 g Ac).1,(Dk.tm n (Dk.tm n (d.next 5).2 g Ac).2 g Ac).1] kC;have hnum:=JR ((d.next 5).2.next 3).1;(repeat' first|refine M.w6 @hx5 @hx3 @a1 @a2 @ZJ @Yth ?_|refine M.c2 (ap) ?_|refine M.c2 (asb) ?_|refine M.c2 (hnum) ?_|refine M.c2 (hs) ?_|refine M.bl ?_|refine M.cs ?_ ?_<;>intro h|fail);all_goals first
    |exact absurd hp' ku
    |skip
   .have e:=e.trans (if_pos ku)
    (exact M.n2 AJ (h6:=(by(repeat'(first|exact trivial|refine And.intro ?_ ?_|refine⟨_,U,_,U,_,U,?_⟩|exact Ap.of_eq (by simp[Ao.AH,e,sT])));done)) (h8:=(by simp[zn,V.wk,V.Ar,za,Ty.view,Tm.view,e,sT])))
   .rename_i h0;have e:=e.trans ((if_neg k8).trans (if_pos ku))
    (exact M.n2 AJ (h6:=(by(repeat'(first|exact trivial|refine And.intro ?_ ?_|refine⟨_,U,_,U,_,U,?_⟩|exact Ap.of_eq ou));done)) (h8:=pF))
   .rename_i h0 h1;have e:=e.trans ((if_neg k8).trans ((if_neg lT).trans (if_pos ku)))
    (exact M.n2 AJ (h6:=(by(repeat'(first|exact trivial|refine And.intro ?_ ?_|refine⟨_,U,_,U,_,U,?_⟩|exact Ap.of_eq ou));done)) (h8:=pF))
   .rename_i h0 h1;have e:=e.trans ((if_neg k8).trans ((if_neg lT).trans (if_neg ku)))
    (exact M.n2 AJ (h6:=(by(repeat'(first|exact trivial|refine And.intro ?_ ?_|refine⟨_,U,_,U,_,U,?_⟩|exact Ap.of_eq nE));done)) (h8:=mL))
  .have hp':¬depth>0:=kn
   have e:d.fin (Dk.tm n) (decide (2<=n)) g Ac=(vu (d.next 3).1,(d.next 3).2):=by simp[Dk.fin,Ac,hp]
   have hx3:=FX d 3 hd kn;have hnum:=JR (d.next 3).1;(repeat' first|refine M.v2 @hx3 @hnum ?_|refine M.cs ?_ ?_<;>intro h|fail);all_goals first
    |exact absurd hp' ku
    |skip
   (exact M.n2 AJ (h6:=(by(repeat'(first|exact trivial|refine And.intro ?_ ?_|refine⟨_,U,_,U,_,U,?_⟩|exact Ap.of_eq nE));done)) (h8:=mL))
 .show AW _ _ _ (Code.seq _ _) _ _ _;have hN:=Dj 7 [] ko;by_cases hp:2<=n
  .have hp':depth>0:=kn
   have e:d.fin (Dk.tm n) (decide (2<=n)) g Al=if(d.next 2).1=0 then(nT 8 [(Dk.tm n (d.next 2).2 g Ac).1,(Dk.tm n (Dk.tm n (d.next 2).2 g Ac).2 g Al).1],(Dk.tm n (Dk.tm n (d.next 2).2 g Ac).2 g Al).2) else(nT 7 [],(d.next 2).2):=by simp[Dk.fin,Al,hp]
   have hd2:=Dk.AQ hd 2;have hx2:=FX d 2 hd kn;have a1:=H (d.next 2).2 g Ac (depth-1) kn hd2 hg zj kn kn kn;have a2:=H (Dk.tm n (d.next 2).2 g Ac).2 g Al (depth-1) kn (hok _ _ _ hd2) hg xu kn kn kn;have f1:=hF kn (d.next 2).2 Ac zj kn;have f2:=hF kn (Dk.tm n (d.next 2).2 g Ac).2 Al xu kn;have hs:=Dj 8 [(Dk.tm n (d.next 2).2 g Ac).1,(Dk.tm n (Dk.tm n (d.next 2).2 g Ac).2 g Al).1] kC;(repeat' first|refine M.w6 @hx2 @a1 @a2 @DR @hs @hN ?_|refine M.gs ?_ ?_<;>intro h|refine M.bl ?_|refine M.cs ?_ ?_<;>intro h|fail);all_goals first
    |exact absurd hp' ku
    |skip
   .have e:=e.trans (if_pos ku)
    (exact M.n2 AJ (h6:=(by(repeat'(first|exact trivial|refine And.intro ?_ ?_|refine⟨_,U,_,U,_,U,?_⟩|exact Ap.of_eq ov));done)) (h8:=mj))
   .have e:=e.trans (if_neg ku)
    (exact M.n2 AJ (h6:=(by(repeat'(first|exact trivial|refine And.intro ?_ ?_|refine⟨_,U,_,U,_,U,?_⟩|exact Ap.of_eq ov));done)) (h8:=mj))
  .have hp':¬depth>0:=kn
   have e:d.fin (Dk.tm n) (decide (2<=n)) g Al=(nT 7 [],d):=by simp[Dk.fin,Al,hp]
   (repeat' first|refine M.w1 @hN ?_|refine M.gs ?_ ?_<;>intro h|refine M.bl ?_|fail);all_goals first
    |exact absurd hp' ku
    |skip
   (exact M.n2 AJ (h6:=(by(repeat'(first|exact trivial|refine And.intro ?_ ?_|refine⟨_,U,_,U,_,U,?_⟩|exact Ap.of_eq ov));done)) (h8:=mj))
 .show AW _ _ _ (Code.seq _ _) _ _ _;have hN:=Dj 13 [] ko;have e:d.fin (Dk.tm n) (decide (2<=n)) g Kj=(nT 13 [],d):=by simp[Dk.fin,Kj]
  refine M.v1 @hN ?_
  (exact M.n2 AJ (h8:=mj))
 .have hn0:n≠0:=fun h=>by have:=h0 h;rw[KP] at this;omega
  have sa:=z4 ha h1;have sb:=z4 hb h2;have e:d.fin (Dk.tm n) (decide (2<=n)) g (C4 a b)=(nT 10 [(Dk.tm n d g a).1,(Dk.tm n (Dk.tm n d g a).2 g b).1],(Dk.tm n (Dk.tm n d g a).2 g b).2):=by simp[Dk.fin,C4]
  have a1:=H d g a (depth-1) kn hd hg sa kn (fun _=>h1) kn;have a2:=H (Dk.tm n d g a).2 g b (depth-1) kn (hok _ _ _ hd) hg sb kn (fun _=>h2) kn;have f1:=hF kn d a sa (fun _=>h1);have f2:=hF kn (Dk.tm n d g a).2 b sb (fun _=>h2);have hs:=Dj 10 [(Dk.tm n d g a).1,(Dk.tm n (Dk.tm n d g a).2 g b).1] kC;have l0:0<(C4 a b).args.length:=lU
  have l1:1<(C4 a b).args.length:=lU
  show AW _ _ _ (Code.seq _ _) _ _ _;refine M.v3 @a1 @a2 @hs ?_
  (exact M.n2 AJ (h8:=mj))
 .have hn0:n≠0:=fun h=>by have:=h0 h;rw[uk] at this;omega
  have sa:=z4 ha h1;have sb:=z4 hb h2;have hga:=zm hg (zg sa zk);have e:d.fin (Dk.tm n) (decide (2<=n)) g (xx a b)=(Be a (Dk.tm n d (g++[a]) b).1,(Dk.tm n d (g++[a]) b).2):=by simp[Dk.fin,xx]
  have a1:=H d (g++[a]) b (depth-1) kn hd hga sb kn (fun _=>h2) kC;have f1:=U4 hn d hga sb kn (fun _=>h2);have hlo:=Kt g [a] kC;have hs:=G9 2 a [(Dk.tm n d (g++[a]) b).1] kC kn;have l0:0<(xx a b).args.length:=lM
  have l1:1<(xx a b).args.length:=lM
  show AW _ _ _ (Code.seq _ _) _ _ _;refine M.v3 @a1 @hlo @hs ?_
  (exact M.n2 AJ (h8:=(by simp[zn,V.wk,V.Ar,za,Ty.view,Tm.view,e,Be])))
end Go.Ab
