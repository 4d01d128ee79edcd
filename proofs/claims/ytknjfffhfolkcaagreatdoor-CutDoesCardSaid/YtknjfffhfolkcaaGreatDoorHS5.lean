/- A part of this seat's proofs. No conditions. -/
import Derived.Test.YtknjfffhfolkcaaGreatDoorHS4
namespace Go.Ab
open Go Go.Proofs
set_option maxRecDepth 100000
set_option maxHeartbeats 4000000
set_option linter.all false
theorem Zih:∀(b:Nat) (f:Fm),f.full<=b->b<1099511627776->PC E 193 [.agg f.view] (.AD [.i f.nodes,.bool f.shape]):=by
 intro b;induction b with
 |zero=>intro f h;have:=f.Aa;omega
 |succ b ih=>
 intro f hsz hb;have hsz':=f.Af;have hse:=f.size_eq;have hle:=f.Aj;have hlen:=zd Fm.full Fm.Aa f.args;have hlen2:=zd Tm.full Tm.Aa f.terms;have hsh:=f.Al;have h1:=Zzt f (by omega);cases hh:f.head with
 |false=>
  rw[hh] at h1 hsh;have e:f.shape=false:=by rw[hsh];rfl
  rw[show f.nodes=0 by simp[Fm.nodes,e],e];refine M.F Tryz.func193 ?_;(repeat' first|refine M.gw ?_|refine M.c2 (h1) ?_|fail)
  rfl
 |true=>
 rw[hh] at h1 hsh;refine M.F Tryz.func193 ?_;(repeat' first|refine M.gw ?_|refine M.c2 (h1) ?_|fail);refine AW.range f.terms.length (fun m=>∀j (hj:j<f.terms.length),j<m->(f.terms[j]).shape=true)
  (fun m=>([(1,.ptr 0 0),(4,.i (1+((f.terms.take m).map Tm.size).sum:Nat)),(17,.s .tm f.terms),(18,.i f.terms.length),(19,.i m)],⟨1,[(0,.var f.view)]⟩))
  (by omega) (fun m=>rfl) (fun m=>rfl) rfl (fun j hj h=>by omega) (M.W [some 0]) ?_ ?_
 .intro m hm hP;have hs1:=yk Tm.size f.terms m hm;have hs2:=za Tm.full (Wi hm);have hs3:=zm Tm.size f.terms m;have hs4:=yw (f:=Tm.size) (g:=Tm.full) f.terms fun x _=>x.Aj;have hs5:=f.terms[m].Aj;have hc:=VA _ f.terms[m] (Wj _) (by omega);cases hx:(f.terms[m]).shape with
  |false=>
   rw[show Ij f.terms[m]= .AD [.i 0,.bool false] by simp[Ij,Tm.nodes,hx]] at hc;have e:f.shape=false:=by rw[hsh,xn Tm.shape hm hx];rfl
   rw[show f.nodes=0 by simp[Fm.nodes,e],e];(repeat' first|refine M.gw ?_|refine M.c2 (hc) ?_|fail)
   rfl
  |true=>
   rw[show Ij f.terms[m]= .AD [.i f.terms[m].size,.bool true] by simp[Ij,Tm.nodes,hx]] at hc;(repeat' first|refine M.gw ?_|refine M.c2 (hc) ?_|fail);refine⟨rfl,ya (p:=fun t=>Tm.shape t=true) hm hP hx,?_⟩;simp only[hs1];exact(M.W [some 0] (hf:=(by(repeat'(first|exact trivial|refine And.intro ?_ ?_|refine⟨_,U,_,U,?_⟩|exact Ao.refl _|exact Ao.of_eq (by simp[Aq.Ay,W5,Xy])));done)))
 .intro hP;have hpt:=w4 Tm.shape f.terms fun j hj=>hP j hj hj;rw[hpt] at hsh;simp only[Wp];(repeat' first|refine M.gw ?_|fail);refine AW.range f.args.length (fun m=>∀j (hj:j<f.args.length),j<m->(f.args[j]).shape=true)
   (fun m=>([(1,.ptr 0 0),(4,.i (1+(f.terms.map Tm.size).sum+((f.args.take m).map Fm.size).sum:Nat)),(35,.s .fm f.args),(36,.i f.args.length),(37,.i m)],⟨1,[(0,.var f.view)]⟩))
   (by omega) (fun m=>rfl) (fun m=>rfl) rfl (fun j hj h=>by omega) (M.W [some 0]) ?_ ?_
  .intro m hm hP;have hs0:=yw (f:=Tm.size) (g:=Tm.full) f.terms fun x _=>x.Aj;have hs1:=yk Fm.size f.args m hm;have hs2:=za Fm.full (Wi hm);have hs3:=zm Fm.size f.args m;have hs4:=yw (f:=Fm.size) (g:=Fm.full) f.args fun x _=>x.Aj;have hs5:=f.args[m].Aj;have hc:=ih f.args[m] (by omega) (by omega);cases hx:(f.args[m]).shape with
   |false=>
    rw[hx,show(f.args[m]).nodes=0 by simp[Fm.nodes,hx]] at hc;have e:f.shape=false:=by rw[hsh,xn Fm.shape hm hx];rfl
    rw[show f.nodes=0 by simp[Fm.nodes,e],e];(repeat' first|refine M.gw ?_|refine M.c2 (hc) ?_|fail)
    rfl
   |true=>
    rw[hx,show(f.args[m]).nodes=(f.args[m]).size by simp[Fm.nodes,hx]] at hc;(repeat' first|refine M.gw ?_|refine M.c2 (hc) ?_|fail);refine⟨rfl,ya (p:=fun t=>Fm.shape t=true) hm hP hx,?_⟩;simp only[hs1];exact(M.W [some 0] (hf:=(by(repeat'(first|exact trivial|refine And.intro ?_ ?_|refine⟨_,U,_,U,?_⟩|exact Ao.refl _|exact Ao.of_eq (by simp[Aq.Ay,W5,Xy])));done)))
  .intro hP;have hpa:=w4 Fm.shape f.args fun j hj=>hP j hj hj;rw[hpa] at hsh;have e:f.shape=true:=hsh;rw[show f.nodes=f.size by simp[Fm.nodes,e],e,hse];simp only[Wp];(repeat' first|refine M.gw ?_|fail)
   rfl
theorem OJ(f:Fm)(hf:f.full<1099511627776):PC E 161 [.agg f.view] (.AD [.i f.num,.i f.err]):=by
 have h1:=Zih _ f (Wj _) hf;have hle:=f.Aj;cases hs:f.shape with
 |false=>
  have e:f.err=2:=by simp[Fm.err,hs]
  rw[hs,show f.nodes=0 by simp[Fm.nodes,hs]] at h1;rw[show f.num=0 by simp[Fm.num,e],e];refine M.F Tryz.func161 ?_;(repeat' first|refine M.gw ?_|refine M.c2 (h1) ?_|refine M.zb ?_|fail)
  rfl
 |true=>
  rw[hs,show f.nodes=f.size by simp[Fm.nodes,hs]] at h1;by_cases hz:f.size>4096
  .have e:f.err=4:=by simp[Fm.err,hs,hz]
   rw[show f.num=0 by simp[Fm.num,e],e];refine M.F Tryz.func161 ?_;(repeat' first|refine M.gw ?_|refine M.c2 (h1) ?_|refine M.zb ?_|refine M.cs ?_ ?_<;>intro h|fail)
   .rfl
   .exfalso;simp at h;omega
  .have e:f.err=0:=by simp[Fm.err,hs,hz]
   rw[show f.num=f.size by simp[Fm.num,e],e];refine M.F Tryz.func161 ?_;(repeat' first|refine M.gw ?_|refine M.c2 (h1) ?_|refine M.zb ?_|refine M.cs ?_ ?_<;>intro h|fail)
   .exfalso;simp at h;omega
   .rfl
theorem ve:∀(b:Nat) (f:Fm),f.full<=b->b<1099511627776->PC E 72 [.agg f.view] (.agg f.view):=by
 intro b;induction b with
 |zero=>intro f h;have:=f.Aa;omega
 |succ b ih=>
 intro f hsz hb;have hsz':=f.Af;have hlen:=zd Fm.full Fm.Aa f.args;have hlen2:=zd Tm.full Tm.Aa f.terms;have hty:=wh _ f.ty (Wj _) (by omega);refine M.F Tryz.func72 ?_;(repeat' first|refine M.gw ?_|refine M.c2 (hty) ?_|fail);refine AW.range f.terms.length (fun m=>True)
  (fun m=>([(1,.ptr 0 0),(2,.ptr 1 0),(3,.ptr 2 0),(15,.s .tm f.terms),(16,.i f.terms.length),(17,.i m)],⟨4,[(0,.var f.view),(1,.var [.i 0,.i 0,.slice .nil (.t .ty []),.slice .nil (.t .tm []),.slice .nil (.t .fm [])]),(2,.var [.i f.kind,.i f.ty.kind,.s .ty f.ty.args,.slice (.own 3) (.t .tm (f.terms.take m)),.slice .nil (.t .fm [])]),(3,.row)]⟩))
  (by omega) (fun m=>rfl) (fun m=>rfl) rfl trivial (M.W [some 0,some 1,some 2,none]) ?_ ?_
 .intro m hm _;have hs2:=za Tm.full (Wi hm);(repeat' first|refine M.gw ?_|refine M.c2 (ut _ _ (Wj _) ?_) ?_|exact M.lt|fail);exact⟨rfl,trivial,(M.W [some 0,some 1,some 2,some 5] (he:=(by(repeat'(first|exact trivial|exact Or.inr ⟨_,U,rfl⟩|refine And.intro ?_ ?_|refine⟨_,U,_,U,_,U,?_⟩|exact Ao.refl _|exact Ao.of_eq (by simp[Aq.Ay,Wv])));done)))⟩
 .intro _;simp only[Wp];(repeat' first|refine M.gw ?_|fail);refine AW.range f.args.length (fun m=>True)
   (fun m=>([(1,.ptr 0 0),(2,.ptr 1 0),(3,.ptr 2 0),(30,.s .fm f.args),(31,.i f.args.length),(32,.i m)],⟨5,[(0,.var f.view),(1,.var [.i 0,.i 0,.slice .nil (.t .ty []),.slice .nil (.t .tm []),.slice .nil (.t .fm [])]),(2,.var [.i f.kind,.i f.ty.kind,.s .ty f.ty.args,.slice (.own 3) (.t .tm f.terms),.slice (.own 4) (.t .fm (f.args.take m))]),(3,.row),(4,.row)]⟩))
   (by omega) (fun m=>rfl) (fun m=>rfl) rfl trivial (M.W [some 0,some 1,some 2,some 3,none]) ?_ ?_
  .intro m hm _;have hs2:=za Fm.full (Wi hm);(repeat' first|refine M.gw ?_|refine M.c2 (ih _ ?_ ?_) ?_|exact M.le|exact M.lt|fail);exact⟨rfl,trivial,(M.W [some 0,some 1,some 2,some 3,some 6] (he:=(by(repeat'(first|exact trivial|exact Or.inr ⟨_,U,rfl⟩|refine And.intro ?_ ?_|refine⟨_,U,_,U,_,U,?_⟩|exact Ao.refl _|exact Ao.of_eq (by simp[Aq.Ay,Wv])));done)))⟩
  .intro _;simp only[Wp];(repeat' first|refine M.gw ?_|fail)
   rfl
theorem GQ(a b:Tm)(ha:a.full<1099511627776)(hb:b.full<1099511627776):PC E 37 [.agg a.view,.agg b.view] (.agg (Bf a b).view):=by
 have h1:=ut _ a (Wj _) ha;have h2:=ut _ b (Wj _) hb;refine M.F Tryz.func37 ?_;(repeat' first|refine M.gw ?_|refine M.c2 (h1) ?_|refine M.c2 (h2) ?_|fail)
 rfl
theorem LM(k:Int)(a b:Fm)(ha:a.full<1099511627776)(hb:b.full<1099511627776):PC E 70 [.i k,.agg a.view,.agg b.view] (.agg (Fm.mk k (.mk 0 []) [] [a,b]).view):=by
 have h1:=ve _ a (Wj _) ha;have h2:=ve _ b (Wj _) hb;refine M.F Tryz.func70 ?_;(repeat' first|refine M.gw ?_|refine M.c2 (h1) ?_|refine M.c2 (h2) ?_|fail)
 rfl
theorem FO(k:Int)(s:Ty)(f:Fm)(hs:s.size<1099511627776)(hf:f.full<1099511627776):PC E 36 [.i k,.agg s.view,.agg f.view] (.agg (Fm.mk k s [] [f]).view):=by
 have h1:=wh _ s (Wj _) hs;have h2:=ve _ f (Wj _) hf;refine M.F Tryz.func36 ?_;(repeat' first|refine M.gw ?_|refine M.c2 (h1) ?_|refine M.c2 (h2) ?_|fail)
 rfl
theorem Yda(t:Tm)(b:Int)(ht:t.full<1099511627776):PC E 176 [.agg t.view,.i b] (.agg t.view):=by
 have h1:=Mo _ t (Wj _) ht;refine M.F Tryz.func176 ?_;(repeat' first|refine M.gw ?_|refine M.c2 (h1) ?_|fail);simp[zk,V.wk,V.Ap,zc,Ty.view,Tm.view]
theorem Yd3:∀(n:Nat) (f:Fm) (bl:Int),f.full<=n->n<549755813888->0<=bl->bl+n<549755813888->PC E 175 [.agg f.view,.i bl,.fn (.func 176) [] []] (.agg f.view):=by
 intro n;induction n with
 |zero=>intro f bl h;have:=f.Aa;omega
 |succ n ih=>
 intro f bl hsz hb hbl hbn;have hsz':=f.Af;have hlen:=zd Fm.full Fm.Aa f.args;have hlen2:=zd Tm.full Tm.Aa f.terms;have hty:=uk _ f.ty (Wj _) (by omega);have hq:=ue f.kind;refine M.F Tryz.func175 ?_;(repeat' first|refine M.gw ?_|refine M.c2 (hty) ?_|fail);refine AW.range f.terms.length (fun m=>True)
  (fun m=>([(1,.i bl),(2,.fn (.func 176) [] []),(3,.ptr 0 0),(6,.ptr 1 0),(7,.ptr 2 0),(19,.s .tm f.terms),(20,.i f.terms.length),(21,.i m)],⟨4,[(0,.var f.view),(1,.var [.i 0,.i 0,.slice .nil (.t .ty []),.slice .nil (.t .tm []),.slice .nil (.t .fm [])]),(2,.var [.i f.kind,.i f.ty.kind,.s .ty f.ty.args,.slice (.own 3) (.t .tm (f.terms.take m)),.slice .nil (.t .fm [])]),(3,.row)]⟩))
  (by omega) (fun m=>rfl) (fun m=>rfl) rfl trivial (M.W [some 0,some 1,some 2,none]) ?_ ?_
 .intro m hm _;have hs2:=za Tm.full (Wi hm);have hc:=Yda f.terms[m] bl (by omega);(repeat' first|refine M.gw ?_|refine M.cv (hc) [] 0 ?_|fail);exact⟨rfl,trivial,(M.W [some 0,some 1,some 2,some 5] (he:=(by(repeat'(first|exact trivial|exact Or.inr ⟨_,U,rfl⟩|refine And.intro ?_ ?_|refine⟨_,U,_,U,_,U,?_⟩|exact Ao.refl _|exact Ao.of_eq (by simp[Aq.Ay,Wv])));done)))⟩
 .intro _;simp only[Wp];cases hqk:xg f.kind with
  |true=>
   rw[hqk] at hq;(repeat' first|refine M.gw ?_|refine M.c2 (hq) ?_|fail);refine AW.range f.args.length (fun m=>True)
    (fun m=>([(1,.i (bl+1)),(2,.fn (.func 176) [] []),(3,.ptr 0 0),(6,.ptr 1 0),(7,.ptr 2 0),(41,.s .fm f.args),(42,.i f.args.length),(43,.i m)],⟨5,[(0,.var f.view),(1,.var [.i 0,.i 0,.slice .nil (.t .ty []),.slice .nil (.t .tm []),.slice .nil (.t .fm [])]),(2,.var [.i f.kind,.i f.ty.kind,.s .ty f.ty.args,.slice (.own 3) (.t .tm f.terms),.slice (.own 4) (.t .fm (f.args.take m))]),(3,.row),(4,.row)]⟩))
    (by omega) (fun m=>rfl) (fun m=>rfl) rfl trivial (M.W [some 0,some 1,some 2,some 3,none]) ?_ ?_
   .intro m hm _;have hs2:=za Fm.full (Wi hm);have hc:=ih f.args[m] (bl+1) (by omega) (by omega) (by omega) (by omega);(repeat' first|refine M.gw ?_|refine M.c2 (hc) ?_|fail);exact⟨rfl,trivial,(M.W [some 0,some 1,some 2,some 3,some 6] (he:=(by(repeat'(first|exact trivial|exact Or.inr ⟨_,U,rfl⟩|refine And.intro ?_ ?_|refine⟨_,U,_,U,_,U,?_⟩|exact Ao.refl _|exact Ao.of_eq (by simp[Aq.Ay,Wv])));done)))⟩
   .intro _;simp only[Wp];(repeat' first|refine M.gw ?_|fail)
    rfl
  |false=>
   rw[hqk] at hq;(repeat' first|refine M.gw ?_|refine M.c2 (hq) ?_|fail);refine AW.range f.args.length (fun m=>True)
    (fun m=>([(1,.i bl),(2,.fn (.func 176) [] []),(3,.ptr 0 0),(6,.ptr 1 0),(7,.ptr 2 0),(41,.s .fm f.args),(42,.i f.args.length),(43,.i m)],⟨5,[(0,.var f.view),(1,.var [.i 0,.i 0,.slice .nil (.t .ty []),.slice .nil (.t .tm []),.slice .nil (.t .fm [])]),(2,.var [.i f.kind,.i f.ty.kind,.s .ty f.ty.args,.slice (.own 3) (.t .tm f.terms),.slice (.own 4) (.t .fm (f.args.take m))]),(3,.row),(4,.row)]⟩))
    (by omega) (fun m=>rfl) (fun m=>rfl) rfl trivial (M.W [some 0,some 1,some 2,some 3,none]) ?_ ?_
   .intro m hm _;have hs2:=za Fm.full (Wi hm);have hc:=ih f.args[m] bl (by omega) (by omega) (by omega) (by omega);(repeat' first|refine M.gw ?_|refine M.c2 (hc) ?_|fail);exact⟨rfl,trivial,(M.W [some 0,some 1,some 2,some 3,some 6] (he:=(by(repeat'(first|exact trivial|exact Or.inr ⟨_,U,rfl⟩|refine And.intro ?_ ?_|refine⟨_,U,_,U,_,U,?_⟩|exact Ao.refl _|exact Ao.of_eq (by simp[Aq.Ay,Wv])));done)))⟩
   .intro _;simp only[Wp];(repeat' first|refine M.gw ?_|fail)
    rfl
theorem Re(f:Fm)(hf:f.full<274877906944):PC E 135 [.agg f.view] (.agg f.view):=by
 have h1:=Yd3 _ f 0 (Wj _) (by omega) (by omega) (by omega);refine M.F Tryz.func135 ?_;(repeat' first|refine M.gw ?_|refine M.c2 (h1) ?_|fail)
 rfl
theorem Ye3(d:Dk)(h:d.ok):AC E 31 [.ptr 0 0,.i 0] ⟨1,[(0,.var d.cells)]⟩ (.agg (d.type 0).1.view) ⟨1,[(0,.var (d.type 0).2.cells)]⟩:=Jv 0 0 d (by omega) (by omega) (by omega) h
theorem OL:∀(n:Nat) (d:Dk) (g:List Ty) (k:Int),n<=3->k=n->d.ok->Am g->g.length+n<=5000->
 AC E 25 [.ptr 0 0,.s .ty g,.i k] ⟨1,[(0,.var d.cells)]⟩ (.agg (Dk.fm n d g).1.view) ⟨1,[(0,.var (Dk.fm n d g).2.cells)]⟩:=by
 have bd:∀(n:Nat) (d:Dk) (g:List Ty),n<=3->Am g->(Dk.fm n d g).1.full<=10000:=fun n d g hn hg=>by
  have h1:=(Dk.Eu n d g hg).2.2;have h2:2^n<=2^3:=Yf (by omega) hn;omega
 have eqc:∀(d:Dk) (g:List Ty),d.ok->Am g->g.length<=5000->∃(x:Tm) (d1:Dk) (y:Tm) (d2:Dk),d.Ip g=(Bf x y,d2)/\x.full<=1000/\y.full<=1000/\
  AC E 35 [.ptr 0 0,.s .ty g,.agg Ag.view,.i 1] ⟨1,[(0,.var d.cells)]⟩ (.agg x.view) ⟨1,[(0,.var d1.cells)]⟩/\
  AC E 35 [.ptr 0 0,.s .ty g,.agg Ag.view,.i 1] ⟨1,[(0,.var d1.cells)]⟩ (.agg y.view) ⟨1,[(0,.var d2.cells)]⟩:=fun d g hd hg hl=>by
  have d1:=Dk.CG 3 d g Ag hd;have m1:=(Dk.CY 3 d g Ag hg zh (by omega) (by omega)).full hg zh;have m2:=(Dk.CY 3 (Dk.tm 3 d g Ag).2 g Ag hg zh (by omega) (by omega)).full hg zh;exact⟨_,_,_,_,rfl,by omega,by omega,Ir 3 (by omega) d g Ag 1 (by omega) hd hg zh (by omega) (by omega) (by omega),
   Ir 3 (by omega) (Dk.tm 3 d g Ag).2 g Ag 1 (by omega) d1 hg zh (by omega) (by omega) (by omega)⟩
 intro n;induction n with
 |zero=>
  intro d g k _ hk hd hg hl;obtain⟨x,d1,y,d2,e,fx,fy,h1,h2⟩:=eqc d g hd hg (by omega);have he:=GQ x y (by omega) (by omega);rw[show Dk.fm 0 d g=(Bf x y,d2) from e];obtain rfl:k=0:=hk;refine M.F Tryz.func25 ?_;(repeat' first|refine M.gw ?_|refine M.c2 (vk) ?_|refine M.cb (h1) [0] 0 ?_|refine M.cb (h2) [0] 0 ?_|refine M.c2 (he) ?_|fail)
  (exact M.n2 [some 0] (h8:=(by simp[zk,V.wk,V.Ap,zc,Ty.view,Tm.view,Bf,Fm.view])))
 |succ n ih=>
 intro d g k hn hk hd hg hl;have h9:=v6 d 9 hd (by omega);have hbd:=Dk.Bv d 9 (by omega);have d9:=Dk.AH hd 9;have hkp:k>0:=by omega
 have efm:Dk.fm (n+1) d g=Dk.fm (n+1) d g:=rfl
 conv at efm=>rhs;rw[Dk.fm]
 generalize hr:(d.next 9).1=r at*;generalize (d.next 9).2=e1 at*;have hr9:r=0\/r=1\/r=2\/r=3\/r=4\/r=5\/r=6\/r=7\/r=8:=by omega
 rcases hr9 with rfl|rfl|rfl|rfl|rfl|rfl|rfl|rfl|rfl
 .simp only[show((0:Int)=1)=False by simp,show((0:Int)=2)=False by simp,show((0:Int)=3)=False by simp,show((0:Int)=4)=False by simp,show((0:Int)=5)=False by simp,show((0:Int)=6)=False by simp,if_false,if_true,or_self,or_true,true_or,or_false,false_or] at efm;rw[efm];have a1:=ih e1 g (k-1) (by omega) (by omega) d9 hg (by omega);have f1:=bd n e1 g (by omega) hg;have k1:=Dk.EG n e1 g d9;generalize (Dk.fm n e1 g).1=x at*;generalize (Dk.fm n e1 g).2=e2 at*;have a2:=ih e2 g (k-1) (by omega) (by omega) k1 hg (by omega);have f2:=bd n e2 g (by omega) hg;generalize (Dk.fm n e2 g).1=y at*;generalize (Dk.fm n e2 g).2=e3 at*;have hw:=LM 2 x y (by omega) (by omega);refine M.F Tryz.func25 ?_;(repeat' first|refine M.gw ?_|refine M.cb (h9) [0] 0 ?_|refine M.cb (a1) [0] 0 ?_|refine M.cb (a2) [0] 0 ?_|refine M.c2 (hw) ?_|refine M.bl ?_|refine M.cs ?_ ?_<;>intro h|fail);all_goals first
   |(exfalso;simp at h;omega)
   |skip
  (exact M.n2 [some 0] (h8:=(by simp[zk,V.wk,V.Ap,zc,Ty.view,Tm.view,Cp,Fm.view])))
 .simp only[show((1:Int)=0)=False by simp,show((1:Int)=2)=False by simp,show((1:Int)=3)=False by simp,show((1:Int)=4)=False by simp,show((1:Int)=5)=False by simp,show((1:Int)=6)=False by simp,if_false,if_true,or_self,or_true,true_or,or_false,false_or] at efm;rw[efm];have a1:=ih e1 g (k-1) (by omega) (by omega) d9 hg (by omega);have f1:=bd n e1 g (by omega) hg;have k1:=Dk.EG n e1 g d9;generalize (Dk.fm n e1 g).1=x at*;generalize (Dk.fm n e1 g).2=e2 at*;have a2:=ih e2 g (k-1) (by omega) (by omega) k1 hg (by omega);have f2:=bd n e2 g (by omega) hg;generalize (Dk.fm n e2 g).1=y at*;generalize (Dk.fm n e2 g).2=e3 at*;have hw:=LM 3 x y (by omega) (by omega);refine M.F Tryz.func25 ?_;(repeat' first|refine M.gw ?_|refine M.cb (h9) [0] 0 ?_|refine M.cb (a1) [0] 0 ?_|refine M.cb (a2) [0] 0 ?_|refine M.c2 (hw) ?_|refine M.bl ?_|refine M.cs ?_ ?_<;>intro h|fail);all_goals first
   |(exfalso;simp at h;omega)
   |skip
  (exact M.n2 [some 0] (h8:=(by simp[zk,V.wk,V.Ap,zc,Ty.view,Tm.view,Cp,Fm.view])))
 .simp only[show((2:Int)=0)=False by simp,show((2:Int)=1)=False by simp,show((2:Int)=3)=False by simp,show((2:Int)=4)=False by simp,show((2:Int)=5)=False by simp,show((2:Int)=6)=False by simp,if_false,if_true,or_self,or_true,true_or,or_false,false_or] at efm;rw[efm];have a1:=ih e1 g (k-1) (by omega) (by omega) d9 hg (by omega);have f1:=bd n e1 g (by omega) hg;have k1:=Dk.EG n e1 g d9;generalize (Dk.fm n e1 g).1=x at*;generalize (Dk.fm n e1 g).2=e2 at*;have a2:=ih e2 g (k-1) (by omega) (by omega) k1 hg (by omega);have f2:=bd n e2 g (by omega) hg;generalize (Dk.fm n e2 g).1=y at*;generalize (Dk.fm n e2 g).2=e3 at*;have hw:=LM 3 x y (by omega) (by omega);refine M.F Tryz.func25 ?_;(repeat' first|refine M.gw ?_|refine M.cb (h9) [0] 0 ?_|refine M.cb (a1) [0] 0 ?_|refine M.cb (a2) [0] 0 ?_|refine M.c2 (hw) ?_|refine M.bl ?_|refine M.cs ?_ ?_<;>intro h|fail);all_goals first
   |(exfalso;simp at h;omega)
   |skip
  (exact M.n2 [some 0] (h8:=(by simp[zk,V.wk,V.Ap,zc,Ty.view,Tm.view,Cp,Fm.view])))
 .simp only[show((3:Int)=0)=False by simp,show((3:Int)=1)=False by simp,show((3:Int)=2)=False by simp,show((3:Int)=4)=False by simp,show((3:Int)=5)=False by simp,show((3:Int)=6)=False by simp,if_false,if_true,or_self,or_true,true_or,or_false,false_or] at efm;rw[efm];have ts:=Ql e1 d9;have ss:=Dk.type1 e1;have k1:=Dk.Bu 1 e1 d9;generalize (e1.type 1).1=s at*;generalize (e1.type 1).2=e2 at*;have gs:=zo hg (zi ss zn);have hlg:=uq g [s] (by simp;omega);have a1:=ih e2 (g++[s]) (k-1) (by omega) (by omega) k1 gs (by simp;omega);have f1:=bd n e2 (g++[s]) (by omega) gs;generalize (Dk.fm n e2 (g++[s])).1=x at*;generalize (Dk.fm n e2 (g++[s])).2=e3 at*;have hw:=FO 4 s x (by have:=ss.2;omega) (by omega);refine M.F Tryz.func25 ?_;(repeat' first|refine M.gw ?_|refine M.cb (h9) [0] 0 ?_|refine M.cb (ts) [0] 0 ?_|refine M.c2 (hlg) ?_|refine M.cb (a1) [0] 0 ?_|refine M.c2 (hw) ?_|refine M.bl ?_|refine M.cs ?_ ?_<;>intro h|fail);all_goals first
   |(exfalso;simp at h;omega)
   |skip
  (exact M.n2 [some 0] (h8:=(by simp[zk,V.wk,V.Ap,zc,Ty.view,Tm.view,Br,Fm.view])))
 .simp only[show((4:Int)=0)=False by simp,show((4:Int)=1)=False by simp,show((4:Int)=2)=False by simp,show((4:Int)=3)=False by simp,show((4:Int)=5)=False by simp,show((4:Int)=6)=False by simp,if_false,if_true,or_self,or_true,true_or,or_false,false_or] at efm;rw[efm];have ts:=Ql e1 d9;have ss:=Dk.type1 e1;have k1:=Dk.Bu 1 e1 d9;generalize (e1.type 1).1=s at*;generalize (e1.type 1).2=e2 at*;have gs:=zo hg (zi ss zn);have hlg:=uq g [s] (by simp;omega);have a1:=ih e2 (g++[s]) (k-1) (by omega) (by omega) k1 gs (by simp;omega);have f1:=bd n e2 (g++[s]) (by omega) gs;generalize (Dk.fm n e2 (g++[s])).1=x at*;generalize (Dk.fm n e2 (g++[s])).2=e3 at*;have hw:=FO 4 s x (by have:=ss.2;omega) (by omega);refine M.F Tryz.func25 ?_;(repeat' first|refine M.gw ?_|refine M.cb (h9) [0] 0 ?_|refine M.cb (ts) [0] 0 ?_|refine M.c2 (hlg) ?_|refine M.cb (a1) [0] 0 ?_|refine M.c2 (hw) ?_|refine M.bl ?_|refine M.cs ?_ ?_<;>intro h|fail);all_goals first
   |(exfalso;simp at h;omega)
   |skip
  (exact M.n2 [some 0] (h8:=(by simp[zk,V.wk,V.Ap,zc,Ty.view,Tm.view,Br,Fm.view])))
 .simp only[show((5:Int)=0)=False by simp,show((5:Int)=1)=False by simp,show((5:Int)=2)=False by simp,show((5:Int)=3)=False by simp,show((5:Int)=4)=False by simp,show((5:Int)=6)=False by simp,if_false,if_true,or_self,or_true,true_or,or_false,false_or] at efm;rw[efm];have ts:=Ql e1 d9;have ss:=Dk.type1 e1;have k1:=Dk.Bu 1 e1 d9;generalize (e1.type 1).1=s at*;generalize (e1.type 1).2=e2 at*;have gs:=zo hg (zi ss zn);have hlg:=uq g [s] (by simp;omega);have a1:=ih e2 (g++[s]) (k-1) (by omega) (by omega) k1 gs (by simp;omega);have f1:=bd n e2 (g++[s]) (by omega) gs;generalize (Dk.fm n e2 (g++[s])).1=x at*;generalize (Dk.fm n e2 (g++[s])).2=e3 at*;have hw:=FO 5 s x (by have:=ss.2;omega) (by omega);refine M.F Tryz.func25 ?_;(repeat' first|refine M.gw ?_|refine M.cb (h9) [0] 0 ?_|refine M.cb (ts) [0] 0 ?_|refine M.c2 (hlg) ?_|refine M.cb (a1) [0] 0 ?_|refine M.c2 (hw) ?_|refine M.bl ?_|refine M.cs ?_ ?_<;>intro h|fail);all_goals first
   |(exfalso;simp at h;omega)
   |skip
  (exact M.n2 [some 0] (h8:=(by simp[zk,V.wk,V.Ap,zc,Ty.view,Tm.view,Br,Fm.view])))
 .simp only[show((6:Int)=0)=False by simp,show((6:Int)=1)=False by simp,show((6:Int)=2)=False by simp,show((6:Int)=3)=False by simp,show((6:Int)=4)=False by simp,show((6:Int)=5)=False by simp,if_false,if_true,or_self,or_true,true_or,or_false,false_or] at efm;rw[efm];have ts:=Ye3 e1 d9;have ss0:=Dk.type0 e1;have ss:=zw ss0.1 ss0.2;have k1:=Dk.Bu 0 e1 d9;generalize (e1.type 0).1=s at*;generalize (e1.type 0).2=e2 at*;have h2:=v6 e2 2 k1 (by omega);have hb2:=Dk.Bv e2 2 (by omega);have k2:=Dk.AH k1 2;generalize (e2.next 2).1=u at*;generalize (e2.next 2).2=e3 at*;have gs:=zo hg (zi ss zn);have hlg:=uq g [s] (by simp;omega);have a1:=ih e3 (g++[s]) (k-1) (by omega) (by omega) k2 gs (by simp;omega);have f1:=bd n e3 (g++[s]) (by omega) gs;generalize (Dk.fm n e3 (g++[s])).1=x at*;generalize (Dk.fm n e3 (g++[s])).2=e4 at*;have hw:=FO (6+u) s x (by have:=ss.2;omega) (by omega);refine M.F Tryz.func25 ?_;(repeat' first|refine M.gw ?_|refine M.cb (h9) [0] 0 ?_|refine M.cb (ts) [0] 0 ?_|refine M.cb (h2) [0] 0 ?_|refine M.c2 (hlg) ?_|refine M.cb (a1) [0] 0 ?_|refine M.c2 (hw) ?_|refine M.bl ?_|refine M.cs ?_ ?_<;>intro h|fail);all_goals first
   |(exfalso;simp at h;omega)
   |skip
  (exact M.n2 [some 0] (h8:=(by simp[zk,V.wk,V.Ap,zc,Ty.view,Tm.view,Br,Fm.view])))
 .simp only[show((7:Int)=0)=False by simp,show((7:Int)=1)=False by simp,show((7:Int)=2)=False by simp,show((7:Int)=3)=False by simp,show((7:Int)=4)=False by simp,show((7:Int)=5)=False by simp,show((7:Int)=6)=False by simp,if_false,if_true,or_self,or_true,true_or,or_false,false_or] at efm;rw[efm];obtain⟨x,d1,y,d2,e,fx,fy,h1,h2⟩:=eqc e1 g d9 hg (by omega);rw[e];have he:=GQ x y (by omega) (by omega);refine M.F Tryz.func25 ?_;(repeat' first|refine M.gw ?_|refine M.cb (h9) [0] 0 ?_|refine M.c2 (vk) ?_|refine M.cb (h1) [0] 0 ?_|refine M.cb (h2) [0] 0 ?_|refine M.c2 (he) ?_|refine M.bl ?_|refine M.cs ?_ ?_<;>intro h|fail);all_goals first
   |(exfalso;simp at h;omega)
   |skip
  (exact M.n2 [some 0] (h8:=(by simp[zk,V.wk,V.Ap,zc,Ty.view,Tm.view,Bf,Fm.view])))
 .simp only[show((8:Int)=0)=False by simp,show((8:Int)=1)=False by simp,show((8:Int)=2)=False by simp,show((8:Int)=3)=False by simp,show((8:Int)=4)=False by simp,show((8:Int)=5)=False by simp,show((8:Int)=6)=False by simp,if_false,if_true,or_self,or_true,true_or,or_false,false_or] at efm;rw[efm];obtain⟨x,d1,y,d2,e,fx,fy,h1,h2⟩:=eqc e1 g d9 hg (by omega);rw[e];have he:=GQ x y (by omega) (by omega);refine M.F Tryz.func25 ?_;(repeat' first|refine M.gw ?_|refine M.cb (h9) [0] 0 ?_|refine M.c2 (vk) ?_|refine M.cb (h1) [0] 0 ?_|refine M.cb (h2) [0] 0 ?_|refine M.c2 (he) ?_|refine M.bl ?_|refine M.cs ?_ ?_<;>intro h|fail);all_goals first
   |(exfalso;simp at h;omega)
   |skip
  (exact M.n2 [some 0] (h8:=(by simp[zk,V.wk,V.Ap,zc,Ty.view,Tm.view,Bf,Fm.view])))
theorem Tt(l:List Tm)(h:(l.map Tm.full).sum<1099511627776):PC E 62 [.s .tm l,.s .tm l] (.bool true):=by
 have hlen:=zd Tm.full Tm.Aa l;refine M.F Tryz.func62 ?_;(repeat' first|refine M.gw ?_|refine M.cs ?_ ?_<;>intro h|fail)
 .exfalso;simp at h
 refine AW.range l.length (fun m=>True) (fun m=>([(0,.s .tm l),(1,.s .tm l),(11,.s .tm l),(12,.i l.length),(13,.i m)],⟨0,[]⟩))
  (by omega) (fun m=>rfl) (fun m=>rfl) rfl trivial (M.W []) ?_ ?_
 .intro m hm _;have hs2:=za Tm.full (Wi hm);have hc:=Zy2 l[m] (by omega);(repeat' first|refine M.gw ?_|refine M.c2 (hc) ?_|fail);exact⟨rfl,trivial,(M.W [])⟩
 .intro _;(repeat' first|refine M.gw ?_|fail)
  rfl
theorem Yab:∀(n:Nat) (f:Fm),f.full<=n->n<1099511627776->PC E 102 [.agg f.view,.agg f.view] (.bool true):=by
 intro n;induction n with
 |zero=>intro f h;have:=f.Aa;omega
 |succ n ih=>
 intro f hsz hn;have hsz':=f.Af;have hlen:=zd Fm.full Fm.Aa f.args;have h1:=TX f.ty (by omega);have h2:=Tt f.terms (by omega);refine M.F Tryz.func102 ?_;(repeat' first|refine M.gw ?_|refine M.c2 (h1) ?_|refine M.c2 (h2) ?_|refine M.gs ?_ ?_<;>intro h|refine M.cs ?_ ?_<;>intro h|fail);all_goals first
  |(exfalso;simp at h;done)
  |skip
 refine AW.range f.args.length (fun m=>True) (fun m=>([(2,.ptr 0 0),(3,.ptr 1 0),(37,.s .fm f.args),(38,.i f.args.length),(39,.i m)],⟨2,[(0,.var f.view),(1,.var f.view)]⟩))
  (by omega) (fun m=>rfl) (fun m=>rfl) rfl trivial (M.W [some 0,some 1]) ?_ ?_
 .intro m hm _;have hs2:=za Fm.full (Wi hm);have hc:=ih f.args[m] (by omega) (by omega);(repeat' first|refine M.gw ?_|refine M.c2 (hc) ?_|fail);exact⟨rfl,trivial,(M.W [some 0,some 1])⟩
 .intro _;(repeat' first|refine M.gw ?_|fail)
  rfl
end Go.Ab
