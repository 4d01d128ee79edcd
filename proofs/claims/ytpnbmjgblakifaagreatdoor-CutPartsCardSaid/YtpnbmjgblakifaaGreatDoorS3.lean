/- A part of the proofs of this seat. No conditions. -/
import Derived.Test.YtpnbmjgblakifaaGreatDoorS2
namespace Go.Ab
open Go Go.Proofs
set_option maxRecDepth 100000
set_option maxHeartbeats 4000000
set_option linter.all false
theorem vx:∀(b:Nat) (f:Fm),f.full<=b->b<1099511627776->PC E 107 [.agg f.view] (.agg f.view):=by
 intro b;induction b with
 |zero=>intro f h;have:=f.Aa;omega
 |succ b ih=>
 intro f hsz hb;have hsz':=f.Ag;have hlen:=zd Fm.full Fm.Aa f.args;have hlen2:=zd Tm.full Tm.Aa f.terms;have hty:=wv _ f.ty (Nat.le_refl _) (by omega);refine M.F Tryz.func107 ?_;(repeat' first|refine M.gw ?_|refine M.c2 (hty) ?_|fail);refine AW.range f.terms.length (fun m=>True)
  (fun m=>([(1,.ptr 0 0),(2,.ptr 1 0),(3,.ptr 2 0),(15,.s .tm f.terms),(16,.i f.terms.length),(17,.i m)],⟨4,[(0,.var f.view),(1,.var [.i 0,.i 0,.slice .nil (.t .ty []),.slice .nil (.t .tm []),.slice .nil (.t .fm [])]),(2,.var [.i f.kind,.i f.ty.kind,.s .ty f.ty.args,.slice (.own 3) (.t .tm (f.terms.take m)),.slice .nil (.t .fm [])]),(3,.row)]⟩))
  (by omega) (fun m=>rfl) (fun m=>rfl) rfl trivial (M.W [some 0,some 1,some 2,none]) ?_ ?_
 ·intro m hm _;have hs2:=zc Tm.full (List.getElem_mem hm);(repeat' first|refine M.gw ?_|refine M.c2 (Ih _ _ (Nat.le_refl _) ?_) ?_|exact M.lt|fail);exact⟨rfl,trivial,(M.W [some 0,some 1,some 2,some 5] (he:=(by(repeat'(first|exact trivial|exact Or.inr ⟨_,U,rfl⟩|refine And.intro ?_ ?_|refine⟨_,U,_,U,_,U,?_⟩|exact An.refl _|exact An.of_eq (by simp[Ao.Ax,List.take_append_getElem])));done)))⟩
 ·intro _;simp only[List.take_length];(repeat' first|refine M.gw ?_|fail);refine AW.range f.args.length (fun m=>True)
   (fun m=>([(1,.ptr 0 0),(2,.ptr 1 0),(3,.ptr 2 0),(30,.s .fm f.args),(31,.i f.args.length),(32,.i m)],⟨5,[(0,.var f.view),(1,.var [.i 0,.i 0,.slice .nil (.t .ty []),.slice .nil (.t .tm []),.slice .nil (.t .fm [])]),(2,.var [.i f.kind,.i f.ty.kind,.s .ty f.ty.args,.slice (.own 3) (.t .tm f.terms),.slice (.own 4) (.t .fm (f.args.take m))]),(3,.row),(4,.row)]⟩))
   (by omega) (fun m=>rfl) (fun m=>rfl) rfl trivial (M.W [some 0,some 1,some 2,some 3,none]) ?_ ?_
  ·intro m hm _;have hs2:=zc Fm.full (List.getElem_mem hm);(repeat' first|refine M.gw ?_|refine M.c2 (ih _ ?_ ?_) ?_|exact M.le|exact M.lt|fail);exact⟨rfl,trivial,(M.W [some 0,some 1,some 2,some 3,some 6] (he:=(by(repeat'(first|exact trivial|exact Or.inr ⟨_,U,rfl⟩|refine And.intro ?_ ?_|refine⟨_,U,_,U,_,U,?_⟩|exact An.refl _|exact An.of_eq (by simp[Ao.Ax,List.take_append_getElem])));done)))⟩
  ·intro _;simp only[List.take_length];(repeat' first|refine M.gw ?_|fail)
   rfl
theorem GO(a b:Tm)(ha:a.full<1099511627776)(hb:b.full<1099511627776):PC E 63 [.agg a.view,.agg b.view] (.agg (AP a b).view):=by
 have h1:=Ih _ a (Nat.le_refl _) ha;have h2:=Ih _ b (Nat.le_refl _) hb;refine M.F Tryz.func63 ?_;(repeat' first|refine M.gw ?_|refine M.c2 (h1) ?_|refine M.c2 (h2) ?_|fail)
 rfl
theorem Lz(k:Int)(a b:Fm)(ha:a.full<1099511627776)(hb:b.full<1099511627776):PC E 106 [.i k,.agg a.view,.agg b.view] (.agg (Fm.mk k (.mk 0 []) [] [a,b]).view):=by
 have h1:=vx _ a (Nat.le_refl _) ha;have h2:=vx _ b (Nat.le_refl _) hb;refine M.F Tryz.func106 ?_;(repeat' first|refine M.gw ?_|refine M.c2 (h1) ?_|refine M.c2 (h2) ?_|fail)
 rfl
theorem Gc(k:Int)(s:Ty)(f:Fm)(hs:s.size<1099511627776)(hf:f.full<1099511627776):PC E 62 [.i k,.agg s.view,.agg f.view] (.agg (Fm.mk k s [] [f]).view):=by
 have h1:=wv _ s (Nat.le_refl _) hs;have h2:=vx _ f (Nat.le_refl _) hf;refine M.F Tryz.func62 ?_;(repeat' first|refine M.gw ?_|refine M.c2 (h1) ?_|refine M.c2 (h2) ?_|fail)
 rfl
theorem Yeh(t:Tm)(b:Int)(ht:t.full<1099511627776):PC E 209 [.agg t.view,.i b] (.agg t.view):=by
 have h1:=OB _ t (Nat.le_refl _) ht;refine M.F Tryz.func209 ?_;(repeat' first|refine M.gw ?_|refine M.c2 (h1) ?_|fail);simp[zj,V.wk,V.Ap,za,Ty.view,Tm.view]
theorem Ye4:∀(n:Nat) (f:Fm) (bl:Int),f.full<=n->n<549755813888->0<=bl->bl+n<549755813888->PC E 195 [.agg f.view,.i bl,.fn (.func 209) [] []] (.agg f.view):=by
 intro n;induction n with
 |zero=>intro f bl h;have:=f.Aa;omega
 |succ n ih=>
 intro f bl hsz hb hbl hbn;have hsz':=f.Ag;have hlen:=zd Fm.full Fm.Aa f.args;have hlen2:=zd Tm.full Tm.Aa f.terms;have hty:=GB _ f.ty (Nat.le_refl _) (by omega);have hq:=uq f.kind;refine M.F Tryz.func195 ?_;(repeat' first|refine M.gw ?_|refine M.c2 (hty) ?_|fail);refine AW.range f.terms.length (fun m=>True)
  (fun m=>([(1,.i bl),(2,.fn (.func 209) [] []),(3,.ptr 0 0),(6,.ptr 1 0),(7,.ptr 2 0),(19,.s .tm f.terms),(20,.i f.terms.length),(21,.i m)],⟨4,[(0,.var f.view),(1,.var [.i 0,.i 0,.slice .nil (.t .ty []),.slice .nil (.t .tm []),.slice .nil (.t .fm [])]),(2,.var [.i f.kind,.i f.ty.kind,.s .ty f.ty.args,.slice (.own 3) (.t .tm (f.terms.take m)),.slice .nil (.t .fm [])]),(3,.row)]⟩))
  (by omega) (fun m=>rfl) (fun m=>rfl) rfl trivial (M.W [some 0,some 1,some 2,none]) ?_ ?_
 ·intro m hm _;have hs2:=zc Tm.full (List.getElem_mem hm);have hc:=Yeh f.terms[m] bl (by omega);(repeat' first|refine M.gw ?_|refine M.cv (hc) [] 0 ?_|fail);exact⟨rfl,trivial,(M.W [some 0,some 1,some 2,some 5] (he:=(by(repeat'(first|exact trivial|exact Or.inr ⟨_,U,rfl⟩|refine And.intro ?_ ?_|refine⟨_,U,_,U,_,U,?_⟩|exact An.refl _|exact An.of_eq (by simp[Ao.Ax,List.take_append_getElem])));done)))⟩
 ·intro _;simp only[List.take_length];cases hqk:xp f.kind with
  |true=>
   rw[hqk] at hq;(repeat' first|refine M.gw ?_|refine M.c2 (hq) ?_|fail);refine AW.range f.args.length (fun m=>True)
    (fun m=>([(1,.i (bl+1)),(2,.fn (.func 209) [] []),(3,.ptr 0 0),(6,.ptr 1 0),(7,.ptr 2 0),(41,.s .fm f.args),(42,.i f.args.length),(43,.i m)],⟨5,[(0,.var f.view),(1,.var [.i 0,.i 0,.slice .nil (.t .ty []),.slice .nil (.t .tm []),.slice .nil (.t .fm [])]),(2,.var [.i f.kind,.i f.ty.kind,.s .ty f.ty.args,.slice (.own 3) (.t .tm f.terms),.slice (.own 4) (.t .fm (f.args.take m))]),(3,.row),(4,.row)]⟩))
    (by omega) (fun m=>rfl) (fun m=>rfl) rfl trivial (M.W [some 0,some 1,some 2,some 3,none]) ?_ ?_
   ·intro m hm _;have hs2:=zc Fm.full (List.getElem_mem hm);have hc:=ih f.args[m] (bl+1) (by omega) (by omega) (by omega) (by omega);(repeat' first|refine M.gw ?_|refine M.c2 (hc) ?_|fail);exact⟨rfl,trivial,(M.W [some 0,some 1,some 2,some 3,some 6] (he:=(by(repeat'(first|exact trivial|exact Or.inr ⟨_,U,rfl⟩|refine And.intro ?_ ?_|refine⟨_,U,_,U,_,U,?_⟩|exact An.refl _|exact An.of_eq (by simp[Ao.Ax,List.take_append_getElem])));done)))⟩
   ·intro _;simp only[List.take_length];(repeat' first|refine M.gw ?_|fail)
    rfl
  |false=>
   rw[hqk] at hq;(repeat' first|refine M.gw ?_|refine M.c2 (hq) ?_|fail);refine AW.range f.args.length (fun m=>True)
    (fun m=>([(1,.i bl),(2,.fn (.func 209) [] []),(3,.ptr 0 0),(6,.ptr 1 0),(7,.ptr 2 0),(41,.s .fm f.args),(42,.i f.args.length),(43,.i m)],⟨5,[(0,.var f.view),(1,.var [.i 0,.i 0,.slice .nil (.t .ty []),.slice .nil (.t .tm []),.slice .nil (.t .fm [])]),(2,.var [.i f.kind,.i f.ty.kind,.s .ty f.ty.args,.slice (.own 3) (.t .tm f.terms),.slice (.own 4) (.t .fm (f.args.take m))]),(3,.row),(4,.row)]⟩))
    (by omega) (fun m=>rfl) (fun m=>rfl) rfl trivial (M.W [some 0,some 1,some 2,some 3,none]) ?_ ?_
   ·intro m hm _;have hs2:=zc Fm.full (List.getElem_mem hm);have hc:=ih f.args[m] bl (by omega) (by omega) (by omega) (by omega);(repeat' first|refine M.gw ?_|refine M.c2 (hc) ?_|fail);exact⟨rfl,trivial,(M.W [some 0,some 1,some 2,some 3,some 6] (he:=(by(repeat'(first|exact trivial|exact Or.inr ⟨_,U,rfl⟩|refine And.intro ?_ ?_|refine⟨_,U,_,U,_,U,?_⟩|exact An.refl _|exact An.of_eq (by simp[Ao.Ax,List.take_append_getElem])));done)))⟩
   ·intro _;simp only[List.take_length];(repeat' first|refine M.gw ?_|fail)
    rfl
theorem SD(f:Fm)(hf:f.full<274877906944):PC E 174 [.agg f.view] (.agg f.view):=by
 have h1:=Ye4 _ f 0 (Nat.le_refl _) (by omega) (by omega) (by omega);refine M.F Tryz.func174 ?_;(repeat' first|refine M.gw ?_|refine M.c2 (h1) ?_|fail)
 rfl
theorem Ydo(d:Dk)(h:d.ok):AC E 30 [.ptr 0 0,.i 0] ⟨1,[(0,.var d.cells)]⟩ (.agg (d.type 0).1.view) ⟨1,[(0,.var (d.type 0).2.cells)]⟩:=Kr 0 0 d (by omega) (by omega) (by omega) h
theorem R2:∀(n:Nat) (d:Dk) (g:List Ty) (k:Int),n<=3->k=n->d.ok->Al g->g.length+n<=5000->
 AC E 34 [.ptr 0 0,.s .ty g,.i k] ⟨1,[(0,.var d.cells)]⟩ (.agg (Dk.fm n d g).1.view) ⟨1,[(0,.var (Dk.fm n d g).2.cells)]⟩:=by
 have bd:∀(n:Nat) (d:Dk) (g:List Ty),n<=3->Al g->(Dk.fm n d g).1.full<=10000:=fun n d g hn hg=>by
  have h1:=(Dk.Eu n d g hg).2.2;have h2:2^n<=2^3:=Nat.pow_le_pow_right (by omega) hn;omega
 have eqc:∀(d:Dk) (g:List Ty),d.ok->Al g->g.length<=5000->∃(x:Tm) (d1:Dk) (y:Tm) (d2:Dk),d.IU g=(AP x y,d2)/\x.full<=1000/\y.full<=1000/\
  AC E 29 [.ptr 0 0,.s .ty g,.agg Af.view,.i 1] ⟨1,[(0,.var d.cells)]⟩ (.agg x.view) ⟨1,[(0,.var d1.cells)]⟩/\
  AC E 29 [.ptr 0 0,.s .ty g,.agg Af.view,.i 1] ⟨1,[(0,.var d1.cells)]⟩ (.agg y.view) ⟨1,[(0,.var d2.cells)]⟩:=fun d g hd hg hl=>by
  have d1:=Dk.CA 3 d g Af hd;have m1:=(Dk.CF 3 d g Af hg zg (by omega) (by omega)).full hg zg;have m2:=(Dk.CF 3 (Dk.tm 3 d g Af).2 g Af hg zg (by omega) (by omega)).full hg zg;exact⟨_,_,_,_,rfl,by omega,by omega,Ij 3 (by omega) d g Af 1 (by omega) hd hg zg (by omega) (by omega) (by omega),
   Ij 3 (by omega) (Dk.tm 3 d g Af).2 g Af 1 (by omega) d1 hg zg (by omega) (by omega) (by omega)⟩
 intro n;induction n with
 |zero=>
  intro d g k _ hk hd hg hl;obtain⟨x,d1,y,d2,e,fx,fy,h1,h2⟩:=eqc d g hd hg (by omega);have he:=GO x y (by omega) (by omega);rw[show Dk.fm 0 d g=(AP x y,d2) from e];obtain rfl:k=0:=hk;refine M.F Tryz.func34 ?_;(repeat' first|refine M.gw ?_|refine M.c2 (v8) ?_|refine M.cb (h1) [0] 0 ?_|refine M.cb (h2) [0] 0 ?_|refine M.c2 (he) ?_|fail)
  (exact M.n2 [some 0] (h8:=(by simp[zj,V.wk,V.Ap,za,Ty.view,Tm.view,AP,Fm.view])))
 |succ n ih=>
 intro d g k hn hk hd hg hl;have h9:=uv d 9 hd (by omega);have hbd:=Dk.Bx d 9 (by omega);have d9:=Dk.AE hd 9;have hkp:k>0:=by omega
 have efm:Dk.fm (n+1) d g=Dk.fm (n+1) d g:=rfl
 conv at efm=>rhs;rw[Dk.fm]
 generalize hr:(d.next 9).1=r at*;generalize (d.next 9).2=e1 at*;have hr9:r=0\/r=1\/r=2\/r=3\/r=4\/r=5\/r=6\/r=7\/r=8:=by omega
 rcases hr9 with rfl|rfl|rfl|rfl|rfl|rfl|rfl|rfl|rfl
 ·simp only[show((0:Int)=1)=False by simp,show((0:Int)=2)=False by simp,show((0:Int)=3)=False by simp,show((0:Int)=4)=False by simp,show((0:Int)=5)=False by simp,show((0:Int)=6)=False by simp,if_false,if_true,or_self,or_true,true_or,or_false,false_or] at efm;rw[efm];have a1:=ih e1 g (k-1) (by omega) (by omega) d9 hg (by omega);have f1:=bd n e1 g (by omega) hg;have k1:=Dk.ER n e1 g d9;generalize (Dk.fm n e1 g).1=x at*;generalize (Dk.fm n e1 g).2=e2 at*;have a2:=ih e2 g (k-1) (by omega) (by omega) k1 hg (by omega);have f2:=bd n e2 g (by omega) hg;generalize (Dk.fm n e2 g).1=y at*;generalize (Dk.fm n e2 g).2=e3 at*;have hw:=Lz 2 x y (by omega) (by omega);refine M.F Tryz.func34 ?_;(repeat' first|refine M.gw ?_|refine M.cb (h9) [0] 0 ?_|refine M.cb (a1) [0] 0 ?_|refine M.cb (a2) [0] 0 ?_|refine M.c2 (hw) ?_|refine M.bl ?_|refine M.cs ?_ ?_<;>intro h|fail);all_goals first
   |(exfalso;simp at h;omega)
   |skip
  (exact M.n2 [some 0] (h8:=(by simp[zj,V.wk,V.Ap,za,Ty.view,Tm.view,ue,Fm.view])))
 ·simp only[show((1:Int)=0)=False by simp,show((1:Int)=2)=False by simp,show((1:Int)=3)=False by simp,show((1:Int)=4)=False by simp,show((1:Int)=5)=False by simp,show((1:Int)=6)=False by simp,if_false,if_true,or_self,or_true,true_or,or_false,false_or] at efm;rw[efm];have a1:=ih e1 g (k-1) (by omega) (by omega) d9 hg (by omega);have f1:=bd n e1 g (by omega) hg;have k1:=Dk.ER n e1 g d9;generalize (Dk.fm n e1 g).1=x at*;generalize (Dk.fm n e1 g).2=e2 at*;have a2:=ih e2 g (k-1) (by omega) (by omega) k1 hg (by omega);have f2:=bd n e2 g (by omega) hg;generalize (Dk.fm n e2 g).1=y at*;generalize (Dk.fm n e2 g).2=e3 at*;have hw:=Lz 3 x y (by omega) (by omega);refine M.F Tryz.func34 ?_;(repeat' first|refine M.gw ?_|refine M.cb (h9) [0] 0 ?_|refine M.cb (a1) [0] 0 ?_|refine M.cb (a2) [0] 0 ?_|refine M.c2 (hw) ?_|refine M.bl ?_|refine M.cs ?_ ?_<;>intro h|fail);all_goals first
   |(exfalso;simp at h;omega)
   |skip
  (exact M.n2 [some 0] (h8:=(by simp[zj,V.wk,V.Ap,za,Ty.view,Tm.view,ue,Fm.view])))
 ·simp only[show((2:Int)=0)=False by simp,show((2:Int)=1)=False by simp,show((2:Int)=3)=False by simp,show((2:Int)=4)=False by simp,show((2:Int)=5)=False by simp,show((2:Int)=6)=False by simp,if_false,if_true,or_self,or_true,true_or,or_false,false_or] at efm;rw[efm];have a1:=ih e1 g (k-1) (by omega) (by omega) d9 hg (by omega);have f1:=bd n e1 g (by omega) hg;have k1:=Dk.ER n e1 g d9;generalize (Dk.fm n e1 g).1=x at*;generalize (Dk.fm n e1 g).2=e2 at*;have a2:=ih e2 g (k-1) (by omega) (by omega) k1 hg (by omega);have f2:=bd n e2 g (by omega) hg;generalize (Dk.fm n e2 g).1=y at*;generalize (Dk.fm n e2 g).2=e3 at*;have hw:=Lz 3 x y (by omega) (by omega);refine M.F Tryz.func34 ?_;(repeat' first|refine M.gw ?_|refine M.cb (h9) [0] 0 ?_|refine M.cb (a1) [0] 0 ?_|refine M.cb (a2) [0] 0 ?_|refine M.c2 (hw) ?_|refine M.bl ?_|refine M.cs ?_ ?_<;>intro h|fail);all_goals first
   |(exfalso;simp at h;omega)
   |skip
  (exact M.n2 [some 0] (h8:=(by simp[zj,V.wk,V.Ap,za,Ty.view,Tm.view,ue,Fm.view])))
 ·simp only[show((3:Int)=0)=False by simp,show((3:Int)=1)=False by simp,show((3:Int)=2)=False by simp,show((3:Int)=4)=False by simp,show((3:Int)=5)=False by simp,show((3:Int)=6)=False by simp,if_false,if_true,or_self,or_true,true_or,or_false,false_or] at efm;rw[efm];have ts:=RN e1 d9;have ss:=Dk.type1 e1;have k1:=Dk.Bw 1 e1 d9;generalize (e1.type 1).1=s at*;generalize (e1.type 1).2=e2 at*;have gs:=zp hg (zi ss zm);have hlg:=Ii g [s] (by simp;omega);have a1:=ih e2 (g++[s]) (k-1) (by omega) (by omega) k1 gs (by simp;omega);have f1:=bd n e2 (g++[s]) (by omega) gs;generalize (Dk.fm n e2 (g++[s])).1=x at*;generalize (Dk.fm n e2 (g++[s])).2=e3 at*;have hw:=Gc 4 s x (by have:=ss.2;omega) (by omega);refine M.F Tryz.func34 ?_;(repeat' first|refine M.gw ?_|refine M.cb (h9) [0] 0 ?_|refine M.cb (ts) [0] 0 ?_|refine M.c2 (hlg) ?_|refine M.cb (a1) [0] 0 ?_|refine M.c2 (hw) ?_|refine M.bl ?_|refine M.cs ?_ ?_<;>intro h|fail);all_goals first
   |(exfalso;simp at h;omega)
   |skip
  (exact M.n2 [some 0] (h8:=(by simp[zj,V.wk,V.Ap,za,Ty.view,Tm.view,Bo,Fm.view])))
 ·simp only[show((4:Int)=0)=False by simp,show((4:Int)=1)=False by simp,show((4:Int)=2)=False by simp,show((4:Int)=3)=False by simp,show((4:Int)=5)=False by simp,show((4:Int)=6)=False by simp,if_false,if_true,or_self,or_true,true_or,or_false,false_or] at efm;rw[efm];have ts:=RN e1 d9;have ss:=Dk.type1 e1;have k1:=Dk.Bw 1 e1 d9;generalize (e1.type 1).1=s at*;generalize (e1.type 1).2=e2 at*;have gs:=zp hg (zi ss zm);have hlg:=Ii g [s] (by simp;omega);have a1:=ih e2 (g++[s]) (k-1) (by omega) (by omega) k1 gs (by simp;omega);have f1:=bd n e2 (g++[s]) (by omega) gs;generalize (Dk.fm n e2 (g++[s])).1=x at*;generalize (Dk.fm n e2 (g++[s])).2=e3 at*;have hw:=Gc 4 s x (by have:=ss.2;omega) (by omega);refine M.F Tryz.func34 ?_;(repeat' first|refine M.gw ?_|refine M.cb (h9) [0] 0 ?_|refine M.cb (ts) [0] 0 ?_|refine M.c2 (hlg) ?_|refine M.cb (a1) [0] 0 ?_|refine M.c2 (hw) ?_|refine M.bl ?_|refine M.cs ?_ ?_<;>intro h|fail);all_goals first
   |(exfalso;simp at h;omega)
   |skip
  (exact M.n2 [some 0] (h8:=(by simp[zj,V.wk,V.Ap,za,Ty.view,Tm.view,Bo,Fm.view])))
 ·simp only[show((5:Int)=0)=False by simp,show((5:Int)=1)=False by simp,show((5:Int)=2)=False by simp,show((5:Int)=3)=False by simp,show((5:Int)=4)=False by simp,show((5:Int)=6)=False by simp,if_false,if_true,or_self,or_true,true_or,or_false,false_or] at efm;rw[efm];have ts:=RN e1 d9;have ss:=Dk.type1 e1;have k1:=Dk.Bw 1 e1 d9;generalize (e1.type 1).1=s at*;generalize (e1.type 1).2=e2 at*;have gs:=zp hg (zi ss zm);have hlg:=Ii g [s] (by simp;omega);have a1:=ih e2 (g++[s]) (k-1) (by omega) (by omega) k1 gs (by simp;omega);have f1:=bd n e2 (g++[s]) (by omega) gs;generalize (Dk.fm n e2 (g++[s])).1=x at*;generalize (Dk.fm n e2 (g++[s])).2=e3 at*;have hw:=Gc 5 s x (by have:=ss.2;omega) (by omega);refine M.F Tryz.func34 ?_;(repeat' first|refine M.gw ?_|refine M.cb (h9) [0] 0 ?_|refine M.cb (ts) [0] 0 ?_|refine M.c2 (hlg) ?_|refine M.cb (a1) [0] 0 ?_|refine M.c2 (hw) ?_|refine M.bl ?_|refine M.cs ?_ ?_<;>intro h|fail);all_goals first
   |(exfalso;simp at h;omega)
   |skip
  (exact M.n2 [some 0] (h8:=(by simp[zj,V.wk,V.Ap,za,Ty.view,Tm.view,Bo,Fm.view])))
 ·simp only[show((6:Int)=0)=False by simp,show((6:Int)=1)=False by simp,show((6:Int)=2)=False by simp,show((6:Int)=3)=False by simp,show((6:Int)=4)=False by simp,show((6:Int)=5)=False by simp,if_false,if_true,or_self,or_true,true_or,or_false,false_or] at efm;rw[efm];have ts:=Ydo e1 d9;have ss0:=Dk.type0 e1;have ss:=zx ss0.1 ss0.2;have k1:=Dk.Bw 0 e1 d9;generalize (e1.type 0).1=s at*;generalize (e1.type 0).2=e2 at*;have h2:=uv e2 2 k1 (by omega);have hb2:=Dk.Bx e2 2 (by omega);have k2:=Dk.AE k1 2;generalize (e2.next 2).1=u at*;generalize (e2.next 2).2=e3 at*;have gs:=zp hg (zi ss zm);have hlg:=Ii g [s] (by simp;omega);have a1:=ih e3 (g++[s]) (k-1) (by omega) (by omega) k2 gs (by simp;omega);have f1:=bd n e3 (g++[s]) (by omega) gs;generalize (Dk.fm n e3 (g++[s])).1=x at*;generalize (Dk.fm n e3 (g++[s])).2=e4 at*;have hw:=Gc (6+u) s x (by have:=ss.2;omega) (by omega);refine M.F Tryz.func34 ?_;(repeat' first|refine M.gw ?_|refine M.cb (h9) [0] 0 ?_|refine M.cb (ts) [0] 0 ?_|refine M.cb (h2) [0] 0 ?_|refine M.c2 (hlg) ?_|refine M.cb (a1) [0] 0 ?_|refine M.c2 (hw) ?_|refine M.bl ?_|refine M.cs ?_ ?_<;>intro h|fail);all_goals first
   |(exfalso;simp at h;omega)
   |skip
  (exact M.n2 [some 0] (h8:=(by simp[zj,V.wk,V.Ap,za,Ty.view,Tm.view,Bo,Fm.view])))
 ·simp only[show((7:Int)=0)=False by simp,show((7:Int)=1)=False by simp,show((7:Int)=2)=False by simp,show((7:Int)=3)=False by simp,show((7:Int)=4)=False by simp,show((7:Int)=5)=False by simp,show((7:Int)=6)=False by simp,if_false,if_true,or_self,or_true,true_or,or_false,false_or] at efm;rw[efm];obtain⟨x,d1,y,d2,e,fx,fy,h1,h2⟩:=eqc e1 g d9 hg (by omega);rw[e];have he:=GO x y (by omega) (by omega);refine M.F Tryz.func34 ?_;(repeat' first|refine M.gw ?_|refine M.cb (h9) [0] 0 ?_|refine M.c2 (v8) ?_|refine M.cb (h1) [0] 0 ?_|refine M.cb (h2) [0] 0 ?_|refine M.c2 (he) ?_|refine M.bl ?_|refine M.cs ?_ ?_<;>intro h|fail);all_goals first
   |(exfalso;simp at h;omega)
   |skip
  (exact M.n2 [some 0] (h8:=(by simp[zj,V.wk,V.Ap,za,Ty.view,Tm.view,AP,Fm.view])))
 ·simp only[show((8:Int)=0)=False by simp,show((8:Int)=1)=False by simp,show((8:Int)=2)=False by simp,show((8:Int)=3)=False by simp,show((8:Int)=4)=False by simp,show((8:Int)=5)=False by simp,show((8:Int)=6)=False by simp,if_false,if_true,or_self,or_true,true_or,or_false,false_or] at efm;rw[efm];obtain⟨x,d1,y,d2,e,fx,fy,h1,h2⟩:=eqc e1 g d9 hg (by omega);rw[e];have he:=GO x y (by omega) (by omega);refine M.F Tryz.func34 ?_;(repeat' first|refine M.gw ?_|refine M.cb (h9) [0] 0 ?_|refine M.c2 (v8) ?_|refine M.cb (h1) [0] 0 ?_|refine M.cb (h2) [0] 0 ?_|refine M.c2 (he) ?_|refine M.bl ?_|refine M.cs ?_ ?_<;>intro h|fail);all_goals first
   |(exfalso;simp at h;omega)
   |skip
  (exact M.n2 [some 0] (h8:=(by simp[zj,V.wk,V.Ap,za,Ty.view,Tm.view,AP,Fm.view])))
theorem Wb(l:List Tm)(h:(l.map Tm.full).sum<1099511627776):PC E 50 [.s .tm l,.s .tm l] (.bool true):=by
 have hlen:=zd Tm.full Tm.Aa l;refine M.F Tryz.func50 ?_;(repeat' first|refine M.gw ?_|refine M.cs ?_ ?_<;>intro h|fail)
 ·exfalso;simp at h
 refine AW.range l.length (fun m=>True) (fun m=>([(0,.s .tm l),(1,.s .tm l),(11,.s .tm l),(12,.i l.length),(13,.i m)],⟨0,[]⟩))
  (by omega) (fun m=>rfl) (fun m=>rfl) rfl trivial (M.W []) ?_ ?_
 ·intro m hm _;have hs2:=zc Tm.full (List.getElem_mem hm);have hc:=Yci l[m] (by omega);(repeat' first|refine M.gw ?_|refine M.c2 (hc) ?_|fail);exact⟨rfl,trivial,(M.W [])⟩
 ·intro _;(repeat' first|refine M.gw ?_|fail)
  rfl
theorem Zzs:∀(n:Nat) (f:Fm),f.full<=n->n<1099511627776->PC E 117 [.agg f.view,.agg f.view] (.bool true):=by
 intro n;induction n with
 |zero=>intro f h;have:=f.Aa;omega
 |succ n ih=>
 intro f hsz hn;have hsz':=f.Ag;have hlen:=zd Fm.full Fm.Aa f.args;have h1:=VQ f.ty (by omega);have h2:=Wb f.terms (by omega);refine M.F Tryz.func117 ?_;(repeat' first|refine M.gw ?_|refine M.c2 (h1) ?_|refine M.c2 (h2) ?_|refine M.gs ?_ ?_<;>intro h|refine M.cs ?_ ?_<;>intro h|fail);all_goals first
  |(exfalso;simp at h;done)
  |skip
 refine AW.range f.args.length (fun m=>True) (fun m=>([(2,.ptr 0 0),(3,.ptr 1 0),(37,.s .fm f.args),(38,.i f.args.length),(39,.i m)],⟨2,[(0,.var f.view),(1,.var f.view)]⟩))
  (by omega) (fun m=>rfl) (fun m=>rfl) rfl trivial (M.W [some 0,some 1]) ?_ ?_
 ·intro m hm _;have hs2:=zc Fm.full (List.getElem_mem hm);have hc:=ih f.args[m] (by omega) (by omega);(repeat' first|refine M.gw ?_|refine M.c2 (hc) ?_|fail);exact⟨rfl,trivial,(M.W [some 0,some 1])⟩
 ·intro _;(repeat' first|refine M.gw ?_|fail)
  rfl
def Wu(b:Bool)(l:List (Int×Int)):Bool:=b&&l.all fun p=>decide (p.1<=268435456)
theorem Yfb(b:Bool)(t:Tm)(bl:Int)(ht:t.full<1099511627776):AC E 191 [.agg t.view,.i bl,.ptr 0 0] ⟨1,[(0,.var [.bool b])]⟩ (.Az []) ⟨1,[(0,.var [.bool (Fl Tm.near b [(t,bl)])])]⟩:=by
 have hc:=M7 t ht;refine M.F Tryz.func191 ?_;(repeat' first|refine M.gw ?_|refine M.c2 (hc) ?_|refine M.gs ?_ ?_<;>intro h|fail)
 ·(exact M.n2 [some 0] (h6:=(by(repeat'(first|exact trivial|refine And.intro ?_ ?_|refine⟨_,U,_,U,_,U,?_⟩|exact An.of_eq (by simp[Ao.Ax,Nh,h])));done)) (h8:=(by simp[zj,V.wk,V.Ap,za,Ty.view,Tm.view,Nh,h])))
 ·(exact M.n2 [some 0] (h6:=(by(repeat'(first|exact trivial|refine And.intro ?_ ?_|refine⟨_,U,_,U,_,U,?_⟩|exact An.of_eq (by simp[Ao.Ax,Nh,h])));done)) (h8:=(by simp[zj,V.wk,V.Ap,za,Ty.view,Tm.view,Nh,h])))
theorem Zz8(at_ c:Int)(t:Tm)(bl:Int)(ht:t.full<549755813888)(hc0:0<=c/\c<549755813888)(ha:0<=at_/\at_<549755813888)(hb:0<=bl/\bl<549755813888)(hix:∀p∈t.vars 0,0<=p.1/\p.1<1099511627776):
 AC E 153 [.agg t.view,.i bl,.ptr 0 0,.ptr 1 0] ⟨2,[(0,.var [.i c]),(1,.var [.i at_])]⟩ (.Az []) ⟨2,[(0,.var [.i (c+ve at_ [(t,bl)])]),(1,.var [.i at_])]⟩:=by
 have hc:=Xd t (at_+bl) ht hix;have h1:=MV (at_+bl) (t.vars 0);have h2:=t.CH 0;have h3:=t.Aj;refine M.F Tryz.func153 ?_;(repeat' first|refine M.gw ?_|refine M.c2 (hc) ?_|fail)
 (exact M.n2 [some 0,some 1] (h8:=(by simp[zj,V.wk,V.Ap,za,Ty.view,Tm.view,ve])))
theorem Ztu:∀(n:Nat) (f:Fm) (b:Bool) (bl:Int),f.full<=n->n<549755813888->0<=bl->bl+n<549755813888->AC E 152 [.agg f.view,.i bl,.fn (.func 191) [] [.ptr 0 0]] ⟨1,[(0,.var [.bool b])]⟩ (.Az []) ⟨1,[(0,.var [.bool (Fl Tm.near b (f.A2 bl))])]⟩:=by
 intro n;induction n with
 |zero=>intro f;intros;have:=f.Aa;omega
 |succ n ih=>
 intro f b bl hsz hn hbl hbn;have hsz':=f.Ag;have hlen:=zd Fm.full Fm.Aa f.args;have hlen2:=zd Tm.full Tm.Aa f.terms;have htm:=f.A5 bl;have hq:=uq f.kind;refine M.F Tryz.func152 ?_;(repeat' first|refine M.gw ?_|fail);refine AW.range f.terms.length (fun m=>True)
  (fun m=>([(1,.i bl),(2,.fn (.func 191) [] [.ptr 0 0]),(3,.ptr 1 0),(11,.s .tm f.terms),(12,.i f.terms.length),(13,.i m)],⟨2,[(0,.var [.bool (Fl Tm.near b ((f.terms.take m).map (fun t=>(t,bl))))]),(1,.var f.view)]⟩))
  (by omega) (fun m=>rfl) (fun m=>rfl) rfl trivial ?_ ?_ ?_
 ·exact (M.W [some 0,some 1] (he:=(by(repeat'(first|exact trivial|refine And.intro ?_ ?_|refine⟨_,U,_,U,_,U,?_⟩|exact An.refl _|exact An.of_eq (by simp[Ao.Ax,RJ])));done)))
 ·intro m hm _;have hs2:=zc Tm.full (List.getElem_mem hm);have hc:=Yfb (Fl Tm.near b ((f.terms.take m).map (fun t=>(t,bl)))) f.terms[m] bl (by omega);(repeat' first|refine M.gw ?_|refine M.cv (hc) [0] 0 ?_|fail);refine⟨rfl,trivial,?_⟩;exact(M.W [some 0,some 1] (he:=(by(repeat'(first|exact trivial|refine And.intro ?_ ?_|refine⟨_,U,_,U,_,U,?_⟩|exact An.refl _|exact An.of_eq (by simp[Ao.Ax,Ub,z8 _ _ _ hm])));done)))
 ·intro _;simp only[List.take_length];(repeat' first|refine M.gw ?_|refine M.c2 (hq) ?_|refine M.cs ?_ ?_<;>intro h|fail);all_goals
   have hup:A3 f.kind bl<=bl+1:=by simp only[A3];split<;>omega
   have hup0:0<=A3 f.kind bl:=by simp only[A3];split<;>omega
   refine AW.range f.args.length (fun m=>True)
    (fun m=>([(1,.i (A3 f.kind bl)),(2,.fn (.func 191) [] [.ptr 0 0]),(3,.ptr 1 0),(28,.s .fm f.args),(29,.i f.args.length),(30,.i m)],⟨2,[(0,.var [.bool (Fl Tm.near b (f.terms.map (fun t=>(t,bl))++(f.args.take m).flatMap (Fm.A2 (A3 f.kind bl))))]),(1,.var f.view)]⟩))
    (by omega) (fun m=>rfl) (fun m=>rfl) rfl trivial ?_ ?_ ?_
   ·exact (M.W [some 0,some 1] (hf:=(by(repeat'(first|exact trivial|refine And.intro ?_ ?_|refine⟨_,U,_,U,?_⟩|exact An.refl _|exact An.of_eq (by simp[Ao.Ax,A3,h,RJ])));done)) (he:=(by(repeat'(first|exact trivial|refine And.intro ?_ ?_|refine⟨_,U,_,U,_,U,?_⟩|exact An.refl _|exact An.of_eq (by simp[Ao.Ax,A3,h,RJ])));done)))
   ·intro m hm _;have hs2:=zc Fm.full (List.getElem_mem hm);have hc:=ih f.args[m] (Fl Tm.near b (f.terms.map (fun t=>(t,bl))++(f.args.take m).flatMap (Fm.A2 (A3 f.kind bl)))) (A3 f.kind bl) (by omega) (by omega) hup0 (by omega);(repeat' first|refine M.gw ?_|refine M.cv (hc) [0] 0 ?_|fail);refine⟨rfl,trivial,?_⟩;exact(M.W [some 0,some 1] (he:=(by(repeat'(first|exact trivial|refine And.intro ?_ ?_|refine⟨_,U,_,U,_,U,?_⟩|exact An.refl _|exact An.of_eq (by simp[Ao.Ax,Ub,Ky _ _ _ hm])));done)))
   ·intro _;skip
    (exact M.n2 [some 0] (h6:=(by(repeat'(first|exact trivial|refine And.intro ?_ ?_|refine⟨_,U,_,U,_,U,?_⟩|exact An.of_eq (by simp[Ao.Ax,htm])));done)) (h8:=(by simp[zj,V.wk,V.Ap,za,Ty.view,Tm.view,htm])))
theorem Zpq(at_ C:Int)(ha:0<=at_/\at_<549755813888)(hC:C<549755813888):∀(n:Nat) (f:Fm) (c:Int) (bl:Int),f.full<=n->n<549755813888->0<=bl->bl+n<549755813888->0<=c->c+f.size<=C->(∀p∈f.A2 bl,∀q∈p.1.vars 0,0<=q.1/\q.1<1099511627776)->AC E 152 [.agg f.view,.i bl,.fn (.func 153) [] [.ptr 0 0,.ptr 1 0]] ⟨2,[(0,.var [.i c]),(1,.var [.i at_])]⟩ (.Az []) ⟨2,[(0,.var [.i (c+ve at_ (f.A2 bl))]),(1,.var [.i at_])]⟩:=by
 intro n;induction n with
 |zero=>intro f;intros;have:=f.Aa;omega
 |succ n ih=>
 intro f c bl hsz hn hbl hbn hc0 hcC hix;have hsz':=f.Ag;have hlen:=zd Fm.full Fm.Aa f.args;have hlen2:=zd Tm.full Tm.Aa f.terms;have htm:=f.A5 bl;have hq:=uq f.kind;refine M.F Tryz.func152 ?_;(repeat' first|refine M.gw ?_|fail);refine AW.range f.terms.length (fun m=>True)
  (fun m=>([(1,.i bl),(2,.fn (.func 153) [] [.ptr 0 0,.ptr 1 0]),(3,.ptr 2 0),(11,.s .tm f.terms),(12,.i f.terms.length),(13,.i m)],⟨3,[(0,.var [.i (c+ve at_ ((f.terms.take m).map (fun t=>(t,bl))))]),(1,.var [.i at_]),(2,.var f.view)]⟩))
  (by omega) (fun m=>rfl) (fun m=>rfl) rfl trivial ?_ ?_ ?_
 ·exact (M.W [some 0,some 1,some 2] (he:=(by(repeat'(first|exact trivial|refine And.intro ?_ ?_|refine⟨_,U,_,U,_,U,?_⟩|exact An.refl _|exact An.of_eq (by simp[Ao.Ax,ve])));done)))
 ·intro m hm _;have hs2:=zc Tm.full (List.getElem_mem hm);have hle1:=Kf at_ ((f.terms.take m).map (fun t=>(t,bl)));have hle2:(((f.terms.take m).map (fun t=>(t,bl))).map fun p:Tm×Int=>p.1.size).sum<=f.size:=Yf8 f bl m;have hc:=Zz8 at_ (c+ve at_ ((f.terms.take m).map (fun t=>(t,bl)))) f.terms[m] bl (by omega) (by omega) ha (by omega) (fun p hp=>hix _ (by rw[htm];exact List.mem_append_left _ (List.mem_map.2 ⟨_,List.getElem_mem hm,rfl⟩)) p hp);(repeat' first|refine M.gw ?_|refine M.cv (hc) [0,1] 0 ?_|fail);refine⟨rfl,trivial,?_⟩;exact(M.W [some 0,some 1,some 2] (he:=(by(repeat'(first|exact trivial|refine And.intro ?_ ?_|refine⟨_,U,_,U,_,U,?_⟩|exact An.refl _|exact An.of_eq (by simp[Ao.Ax,yv,Int.natCast_add,Int.add_assoc,z8 _ _ _ hm])));done)))
 ·intro _;simp only[List.take_length];(repeat' first|refine M.gw ?_|refine M.c2 (hq) ?_|refine M.cs ?_ ?_<;>intro h|fail);all_goals
   have hup:A3 f.kind bl<=bl+1:=by simp only[A3];split<;>omega
   have hup0:0<=A3 f.kind bl:=by simp only[A3];split<;>omega
   refine AW.range f.args.length (fun m=>True)
    (fun m=>([(1,.i (A3 f.kind bl)),(2,.fn (.func 153) [] [.ptr 0 0,.ptr 1 0]),(3,.ptr 2 0),(28,.s .fm f.args),(29,.i f.args.length),(30,.i m)],⟨3,[(0,.var [.i (c+ve at_ (f.terms.map (fun t=>(t,bl))++(f.args.take m).flatMap (Fm.A2 (A3 f.kind bl))))]),(1,.var [.i at_]),(2,.var f.view)]⟩))
    (by omega) (fun m=>rfl) (fun m=>rfl) rfl trivial ?_ ?_ ?_
   ·exact (M.W [some 0,some 1,some 2] (hf:=(by(repeat'(first|exact trivial|refine And.intro ?_ ?_|refine⟨_,U,_,U,?_⟩|exact An.refl _|exact An.of_eq (by simp[Ao.Ax,A3,h,ve])));done)) (he:=(by(repeat'(first|exact trivial|refine And.intro ?_ ?_|refine⟨_,U,_,U,_,U,?_⟩|exact An.refl _|exact An.of_eq (by simp[Ao.Ax,A3,h,ve])));done)))
   ·intro m hm _;have hs2:=zc Fm.full (List.getElem_mem hm);have hle1:=Kf at_ (f.terms.map (fun t=>(t,bl))++(f.args.take m).flatMap (Fm.A2 (A3 f.kind bl)));have hle2:((f.terms.map (fun t=>(t,bl))++(f.args.take m).flatMap (Fm.A2 (A3 f.kind bl))).map fun p:Tm×Int=>p.1.size).sum+(f.args[m]).size<=f.size:=Ygk f bl m hm;have hc:=ih f.args[m] (c+ve at_ (f.terms.map (fun t=>(t,bl))++(f.args.take m).flatMap (Fm.A2 (A3 f.kind bl)))) (A3 f.kind bl) (by omega) (by omega) hup0 (by omega) (by omega) (by omega) (fun p hp=>hix p (by rw[htm];exact List.mem_append_right _ (List.mem_flatMap.2 ⟨_,List.getElem_mem hm,hp⟩)));(repeat' first|refine M.gw ?_|refine M.cv (hc) [0,1] 0 ?_|fail);refine⟨rfl,trivial,?_⟩;exact(M.W [some 0,some 1,some 2] (he:=(by(repeat'(first|exact trivial|refine And.intro ?_ ?_|refine⟨_,U,_,U,_,U,?_⟩|exact An.refl _|exact An.of_eq (by simp[Ao.Ax,yv,Int.natCast_add,Int.add_assoc,Ky _ _ _ hm])));done)))
   ·intro _;skip
    (exact M.n2 [some 0,some 1] (h6:=(by(repeat'(first|exact trivial|refine And.intro ?_ ?_|refine⟨_,U,_,U,_,U,?_⟩|exact An.refl _|exact An.of_eq (by simp[Ao.Ax,htm])));done)) (h8:=(by simp[zj,V.wk,V.Ap,za,Ty.view,Tm.view,htm])))
theorem Ybo(f:Fm)(hf:f.full<274877906944):PC E 140 [.agg f.view] (.bool f.near):=by
 have hc:=Ztu _ f true 0 (Nat.le_refl _) (by omega) (by omega) (by omega);refine M.F Tryz.func140 ?_;(repeat' first|refine M.gw ?_|refine M.cv (hc) [1] 0 ?_|fail);simp[zj,V.wk,V.Ap,Fl,Fm.near]
theorem Zxi(f:Fm)(at_:Int)(ha:0<=at_/\at_<549755813888)(hf:f.full<274877906944)(hix:∀p∈f.A2 0,∀q∈p.1.vars 0,0<=q.1/\q.1<1099511627776):PC E 91 [.agg f.view,.i at_] (.i (ve at_ (f.A2 0))):=by
 have hle:=f.Aj;have hc:=Zpq at_ (f.size) ha (by omega) _ f 0 0 (Nat.le_refl _) (by omega) (by omega) (by omega) (by omega) (by omega) hix;refine M.F Tryz.func91 ?_;(repeat' first|refine M.gw ?_|refine M.cv (hc) [2,1] 0 ?_|fail);simp[zj,V.wk,V.Ap]
theorem Yge(at_:Int)(s:Tm)(hat:0<=at_/\at_<274877906944)(hs:s.full<274877906944)(hsi:∀p∈s.vars 0,0<=p.1/\p.1<549755813888)(t:Tm)(bl:Int)(ht:t.full<274877906944)(hb:0<=bl/\bl<274877906944)(hix:∀p∈t.vars 0,0<=p.1/\p.1<549755813888):
 AC E 205 [.agg t.view,.i bl,.ptr 0 0,.ptr 1 0] ⟨2,[(0,.var [.i at_]),(1,.var s.view)]⟩ (.agg (t.re (xd (at_+bl) s) 0).view) ⟨2,[(0,.var [.i at_]),(1,.var s.view)]⟩:=by
 have hc:=VX t (at_+bl) s (by omega) hs hsi ht hix;refine M.F Tryz.func205 ?_;(repeat' first|refine M.gw ?_|refine M.c2 (hc) ?_|fail)
 (exact M.n2 [some 0,some 1] (h8:=(by simp[zj,V.wk,V.Ap,za,Ty.view,Tm.view,hc])))
theorem Yfi(at_:Int)(s:Tm)(hat:0<=at_/\at_<274877906944)(hs:s.full<274877906944)(hsi:∀p∈s.vars 0,0<=p.1/\p.1<549755813888):∀(n:Nat) (f:Fm) (bl:Int),f.full<=n->n<274877906944->0<=bl->bl+n<274877906944->(∀p∈f.A2 bl,∀q∈p.1.vars 0,0<=q.1/\q.1<549755813888)->
 AC E 195 [.agg f.view,.i bl,.fn (.func 205) [] [.ptr 0 0,.ptr 1 0]] ⟨2,[(0,.var [.i at_]),(1,.var s.view)]⟩ (.agg (f.re (fun b t=>t.re (xd (at_+b) s) 0) bl).view) ⟨2,[(0,.var [.i at_]),(1,.var s.view)]⟩:=by
 intro n;induction n with
 |zero=>intro f bl h;intros;have:=f.Aa;omega
 |succ n ih=>
 intro f bl hsz hb hbl hbn hix;have hsz':=f.Ag;have hlen:=zd Fm.full Fm.Aa f.args;have hlen2:=zd Tm.full Tm.Aa f.terms;have hty:=GB _ f.ty (Nat.le_refl _) (by omega);have hq:=uq f.kind;have hre:=Fm.Bj (fun b t=>t.re (xd (at_+b) s) 0) bl f;have htm:=f.A5 bl;refine M.F Tryz.func195 ?_;(repeat' first|refine M.gw ?_|refine M.c2 (hty) ?_|fail);refine AW.range f.terms.length (fun m=>True)
  (fun m=>([(1,.i bl),(2,.fn (.func 205) [] [.ptr 0 0,.ptr 1 0]),(3,.ptr 2 0),(6,.ptr 3 0),(7,.ptr 4 0),(19,.s .tm f.terms),(20,.i f.terms.length),(21,.i m)],⟨6,[(0,.var [.i at_]),(1,.var s.view),(2,.var f.view),(3,.var [.i 0,.i 0,.slice .nil (.t .ty []),.slice .nil (.t .tm []),.slice .nil (.t .fm [])]),(4,.var [.i f.kind,.i f.ty.kind,.s .ty f.ty.args,.slice (.own 5) (.t .tm ((f.terms.take m).map ((fun b t=>t.re (xd (at_+b) s) 0) bl))),.slice .nil (.t .fm [])]),(5,.row)]⟩))
  (by omega) (fun m=>rfl) (fun m=>rfl) rfl trivial (M.W [some 0,some 1,some 2,some 3,some 4,none]) ?_ ?_
 ·intro m hm _;have hs2:=zc Tm.full (List.getElem_mem hm);have hc:=Yge at_ s hat hs hsi f.terms[m] bl (by omega) (by omega) (fun p hp=>hix _ (by rw[htm];exact List.mem_append_left _ (List.mem_map.2 ⟨_,List.getElem_mem hm,rfl⟩)) p hp);(repeat' first|refine M.gw ?_|refine M.cv (hc) [0,1] 0 ?_|fail);exact⟨rfl,trivial,(M.W [some 0,some 1,some 2,some 3,some 4,some 7] (he:=(by(repeat'(first|exact trivial|exact Or.inr ⟨_,U,rfl⟩|refine And.intro ?_ ?_|refine⟨_,U,_,U,_,U,?_⟩|exact An.refl _|exact An.of_eq (by simp[Ao.Ax,z8 _ _ _ hm])));done)))⟩
 ·intro _;simp only[List.take_length];cases hqk:xp f.kind with
  |true=>
   rw[hqk] at hq;have hu:A3 f.kind bl=bl+1:=by simp[A3,hqk]
   rw[hu] at hre htm;(repeat' first|refine M.gw ?_|refine M.c2 (hq) ?_|fail);refine AW.range f.args.length (fun m=>True)
    (fun m=>([(1,.i (bl+1)),(2,.fn (.func 205) [] [.ptr 0 0,.ptr 1 0]),(3,.ptr 2 0),(6,.ptr 3 0),(7,.ptr 4 0),(41,.s .fm f.args),(42,.i f.args.length),(43,.i m)],⟨7,[(0,.var [.i at_]),(1,.var s.view),(2,.var f.view),(3,.var [.i 0,.i 0,.slice .nil (.t .ty []),.slice .nil (.t .tm []),.slice .nil (.t .fm [])]),(4,.var [.i f.kind,.i f.ty.kind,.s .ty f.ty.args,.slice (.own 5) (.t .tm (f.terms.map ((fun b t=>t.re (xd (at_+b) s) 0) bl))),.slice (.own 6) (.t .fm ((f.args.take m).map (Fm.re (fun b t=>t.re (xd (at_+b) s) 0) (bl+1))))]),(5,.row),(6,.row)]⟩))
    (by omega) (fun m=>rfl) (fun m=>rfl) rfl trivial (M.W [some 0,some 1,some 2,some 3,some 4,some 5,none]) ?_ ?_
   ·intro m hm _;have hs2:=zc Fm.full (List.getElem_mem hm);have hc:=ih f.args[m] (bl+1) (by omega) (by omega) (by omega) (by omega) (fun p hp=>hix p (by rw[htm];exact List.mem_append_right _ (List.mem_flatMap.2 ⟨_,List.getElem_mem hm,hp⟩)));(repeat' first|refine M.gw ?_|refine M.cv (hc) [0,1] 0 ?_|fail);exact⟨rfl,trivial,(M.W [some 0,some 1,some 2,some 3,some 4,some 5,some 8] (he:=(by(repeat'(first|exact trivial|exact Or.inr ⟨_,U,rfl⟩|refine And.intro ?_ ?_|refine⟨_,U,_,U,_,U,?_⟩|exact An.refl _|exact An.of_eq (by simp[Ao.Ax,z8 _ _ _ hm])));done)))⟩
   ·intro _;simp only[List.take_length];(repeat' first|refine M.gw ?_|fail)
    (exact M.n2 [some 0,some 1] (h8:=(by simp[zj,V.wk,V.Ap,za,Ty.view,Tm.view,hre])))
  |false=>
   rw[hqk] at hq;have hu:A3 f.kind bl=bl:=by simp[A3,hqk]
   rw[hu] at hre htm;(repeat' first|refine M.gw ?_|refine M.c2 (hq) ?_|fail);refine AW.range f.args.length (fun m=>True)
    (fun m=>([(1,.i bl),(2,.fn (.func 205) [] [.ptr 0 0,.ptr 1 0]),(3,.ptr 2 0),(6,.ptr 3 0),(7,.ptr 4 0),(41,.s .fm f.args),(42,.i f.args.length),(43,.i m)],⟨7,[(0,.var [.i at_]),(1,.var s.view),(2,.var f.view),(3,.var [.i 0,.i 0,.slice .nil (.t .ty []),.slice .nil (.t .tm []),.slice .nil (.t .fm [])]),(4,.var [.i f.kind,.i f.ty.kind,.s .ty f.ty.args,.slice (.own 5) (.t .tm (f.terms.map ((fun b t=>t.re (xd (at_+b) s) 0) bl))),.slice (.own 6) (.t .fm ((f.args.take m).map (Fm.re (fun b t=>t.re (xd (at_+b) s) 0) bl)))]),(5,.row),(6,.row)]⟩))
    (by omega) (fun m=>rfl) (fun m=>rfl) rfl trivial (M.W [some 0,some 1,some 2,some 3,some 4,some 5,none]) ?_ ?_
   ·intro m hm _;have hs2:=zc Fm.full (List.getElem_mem hm);have hc:=ih f.args[m] bl (by omega) (by omega) (by omega) (by omega) (fun p hp=>hix p (by rw[htm];exact List.mem_append_right _ (List.mem_flatMap.2 ⟨_,List.getElem_mem hm,hp⟩)));(repeat' first|refine M.gw ?_|refine M.cv (hc) [0,1] 0 ?_|fail);exact⟨rfl,trivial,(M.W [some 0,some 1,some 2,some 3,some 4,some 5,some 8] (he:=(by(repeat'(first|exact trivial|exact Or.inr ⟨_,U,rfl⟩|refine And.intro ?_ ?_|refine⟨_,U,_,U,_,U,?_⟩|exact An.refl _|exact An.of_eq (by simp[Ao.Ax,z8 _ _ _ hm])));done)))⟩
   ·intro _;simp only[List.take_length];(repeat' first|refine M.gw ?_|fail)
    (exact M.n2 [some 0,some 1] (h8:=(by simp[zj,V.wk,V.Ap,za,Ty.view,Tm.view,hre])))
theorem Ydm(f:Fm)(at_:Int)(s:Tm)(hat:0<=at_/\at_<274877906944)(hs:s.full<274877906944)(hsi:∀p∈s.vars 0,0<=p.1/\p.1<549755813888)(hf:f.full<137438953472)(hix:∀p∈f.A2 0,∀q∈p.1.vars 0,0<=q.1/\q.1<549755813888):PC E 157 [.agg f.view,.i at_,.agg s.view] (.agg (f.put at_ s).view):=by
 have hc:=Yfi at_ s hat hs hsi _ f 0 (Nat.le_refl _) (by omega) (by omega) (by omega) hix;refine M.F Tryz.func157 ?_;(repeat' first|refine M.gw ?_|refine M.cv (hc) [1,2] 0 ?_|fail)
 rfl
theorem LS(t:Tm):PC E 166 [.agg t.view] (.i (up t.kind 0)):=by
 refine M.F Tryz.func166 ?_;(repeat' first|refine M.gw ?_|refine M.cs ?_ ?_<;>intro h|fail)
 ·have e:up t.kind 0=1:=by simp only[beq_iff_eq] at h;rw[h];rfl
  rw[e];rfl
 ·have e:up t.kind 0=0:=by simp only[beq_eq_false_iff_ne,ne_eq] at h;exact if_neg h
  rw[e];rfl
theorem LN(k b:Int):b<=up k b/\up k b<=b+1:=by simp only[up];split<;>omega
theorem LY(k b:Int):b+up k 0=up k b:=by simp only[up];split<;>omega
theorem Rf(most:Int)(h0:0<=most):∀(n:Nat) (t:Tm),t.full<=n->n<549755813888->t.shape=true->PC E 187 [.agg t.view,.i most] (.bool (xx most t)):=by
 intro n;induction n with
 |zero=>intro t h;have:=t.Aa;omega
 |succ n ih=>
 intro t hsz hn hs;have hsz':=Tm.Ag t;have hlen:=zd Tm.full Tm.Aa t.args;have he:=Zwc h0 hs;refine M.F Tryz.func187 ?_;(repeat' first|refine M.gw ?_|refine M.cs ?_ ?_<;>intro h|fail)
 ·have h1:¬t.index<=most:=by simp at h;omega
  rw[he,decide_eq_false h1];rfl
 have h1:t.index<=most:=by simp at h;omega
 rw[decide_eq_true h1,Bool.true_and] at he;refine AW.range t.args.length (fun m=>∀j (hj:j<t.args.length),j<m->xx most t.args[j]=true)
  (fun m=>([(1,.i most),(2,.ptr 0 0),(12,.s .tm t.args),(13,.i t.args.length),(14,.i m)],⟨1,[(0,.var t.view)]⟩))
  (by omega) (fun m=>rfl) (fun m=>rfl) rfl (fun j hj h=>by omega) (M.W [some 0]) ?_ ?_
 ·intro m hm hP;have hs2:=zc Tm.full (List.getElem_mem hm);have hc:=ih t.args[m] (by omega) (by omega) (ze hs _ (List.getElem_mem hm));(repeat' first|refine M.gw ?_|refine M.c2 (hc) ?_|refine M.cs ?_ ?_<;>intro h|fail)
  ·have hx:xx most t.args[m]=false:=by simpa using h
   rw[he,vh (xx most) hm hx];rfl
  ·have hx:xx most t.args[m]=true:=by simpa using h
   exact⟨rfl,yc (p:=fun t=>xx most t=true) hm hP hx,(M.W [some 0])⟩
 ·intro hP;rw[he,Fk (xx most) t.args fun j hj=>hP j hj hj];(repeat' first|refine M.gw ?_|fail)
  rfl
theorem Yix:∀(n:Nat) (t:Tm) (at_:Int),t.full<=n->n<274877906944->-274877906944<=at_->at_+n<549755813888->t.shape=true->PC E 260 [.agg t.view,.i at_] (.bool (decide (yr at_ t≠0))):=by
 intro n;induction n with
 |zero=>intro t at_ h;have:=t.Aa;omega
 |succ n ih=>
 intro t at_ hsz hn h1 h2 hs;have hsz':=Tm.Ag t;have hlen:=zd Tm.full Tm.Aa t.args;have he:=NK at_ t;have hup:=LN t.kind at_;have hpl:=LY t.kind at_;have hb:=LS t;by_cases hv:t.kind=1/\t.index=at_
 ·rw[if_pos hv] at he;rw[he];refine M.F Tryz.func260 ?_;(repeat' first|refine M.go ?_|refine M.gs ?_ ?_<;>intro h|refine M.z1 4 ?_|refine M.cs ?_ ?_<;>intro h|refine M.gk ?_|fail);all_goals first
   |rfl
   |(exfalso;simp[hv.1,hv.2] at*;done)
   |(exfalso;simp_all;done)
 rw[if_neg hv] at he;refine M.F Tryz.func260 ?_;(repeat' first|refine M.gw ?_|refine M.gs ?_ ?_<;>intro h|refine M.cs ?_ ?_<;>intro h|fail);all_goals first
  |(exfalso;simp_all;done)
  |skip
 all_goals
  refine AW.range t.args.length (fun m=>∀j (hj:j<t.args.length),j<m->yr (up t.kind at_) t.args[j]=0)
   (fun m=>([(1,.i at_),(2,.ptr 0 0),(17,.s .tm t.args),(18,.i t.args.length),(19,.i m)],⟨1,[(0,.var t.view)]⟩))
   (by omega) (fun m=>rfl) (fun m=>rfl) rfl (fun j hj h=>by omega) (M.W [some 0]) ?_ ?_
  ·intro m hm hP;have hs2:=zc Tm.full (List.getElem_mem hm);have hc:=ih t.args[m] (up t.kind at_) (by omega) (by omega) (by omega) (by omega) (ze hs _ (List.getElem_mem hm));rw[<-hpl] at hc;rw[<-hpl] at hP he;(repeat' first|refine M.gw ?_|refine M.c2 (hb) ?_|refine M.c2 (hc) ?_|refine M.cs ?_ ?_<;>intro h|fail)
   ·have hx:yr (at_+up t.kind 0) t.args[m]≠0:=by simpa using h
    rw[he,decide_eq_true (PX hm hx)];rfl
   ·have hx:yr (at_+up t.kind 0) t.args[m]=0:=by simpa using h
    exact⟨rfl,by rw[<-hpl];exact yc (p:=fun t'=>yr (at_+up t.kind 0) t'=0) hm hP hx,(M.W [some 0])⟩
  ·intro hP;rw[he,S3 fun j hj=>hP j hj hj];(repeat' first|refine M.gw ?_|fail)
   rfl
theorem Xa:∀(n:Nat) (t:Tm) (at_:Int),t.full<=n->n<274877906944->-274877906944<=at_->at_+n<549755813888->t.shape=true->PC E 266 [.agg t.view,.i at_] (.i (yr at_ t)):=by
 intro n;induction n with
 |zero=>intro t at_ h;have:=t.Aa;omega
 |succ n ih=>
 intro t at_ hsz hn h1 h2 hs;have hsz':=Tm.Ag t;have hlen:=zd Tm.full Tm.Aa t.args;have he:=NK at_ t;have hup:=LN t.kind at_;have hpl:=LY t.kind at_;have hb:=LS t;by_cases hv:t.kind=1/\t.index=at_
 ·rw[if_pos hv] at he;rw[he];have ha:=HP hs hv.1;obtain⟨k,i,th,xs⟩:=t;simp only[Tm.Ad] at ha;subst ha;obtain⟨hv1,hv2⟩:=hv;simp only[Tm.Ah,Tm.Ay] at hv1 hv2;subst hv1;subst hv2;refine M.F Tryz.func266 ?_;(repeat' first|refine M.gw ?_|refine M.cs ?_ ?_<;>intro h|fail);all_goals first
   |(exfalso;simp at h;done)
   |skip
  all_goals
   refine AW.range 0 (fun m=>True) (fun m=>([(1,.i i),(2,.ptr 0 0),(5,.i 1),(20,.s .tm []),(21,.i 0),(22,.i m)],⟨1,[(0,.var (Tm.mk 1 i th []).view)]⟩))
    (by omega) (fun m=>rfl) (fun m=>rfl) rfl trivial (M.W [some 0]) ?_ ?_
   ·intro m hm;omega
   ·intro _;(repeat' first|refine M.gw ?_|fail)
    rfl
 rw[if_neg hv] at he;refine M.F Tryz.func266 ?_;(repeat' first|refine M.gw ?_|refine M.gs ?_ ?_<;>intro h|refine M.cs ?_ ?_<;>intro h|fail);all_goals first
  |(exfalso;simp_all;done)
  |skip
 all_goals
  refine AW.range t.args.length (fun m=>True)
   (fun m=>([(1,.i at_),(2,.ptr 0 0),(5,.i (((t.args.take m).map (yr (up t.kind at_))).sum:Nat)),(20,.s .tm t.args),(21,.i t.args.length),(22,.i m)],⟨1,[(0,.var t.view)]⟩))
   (by omega) (fun m=>rfl) (fun m=>rfl) rfl trivial (M.W [some 0]) ?_ ?_
  ·intro m hm _;have hs1:=yl (yr (up t.kind at_)) t.args m hm;have hs2:=zc Tm.full (List.getElem_mem hm);have hs3:((t.args.take m).map (yr (up t.kind at_))).sum<=(t.args.map Tm.full).sum:=by
    have a1:=zn Tm.full t.args m;have a2:=y0 (f:=yr (up t.kind at_)) (g:=Tm.full) (t.args.take m) fun x _=>Nat.le_trans (Li x _) x.Aj;omega
   have hs4:=Li t.args[m] (up t.kind at_);have hs5:=t.args[m].Aj;have hc:=ih t.args[m] (up t.kind at_) (by omega) (by omega) (by omega) (by omega) (ze hs _ (List.getElem_mem hm));rw[<-hpl] at hc hs1 hs3 hs4;simp only[<-hpl];(repeat' first|refine M.gw ?_|refine M.c2 (hb) ?_|refine M.c2 (hc) ?_|fail);refine⟨rfl,trivial,?_⟩;simp only[hs1];exact(M.W [some 0])
  ·intro _;(repeat' first|refine M.gw ?_|fail);rw[he];simp[zj,V.wk,V.Ap,za]
theorem Ylx(by_:Int)(hby: -549755813888<=by_/\by_<=549755813888):∀(n:Nat) (t:Tm) (fr:Int),t.full<=n->n<274877906944->-274877906944<=fr->fr+n<549755813888->t.shape=true->(∀p∈t.vars 0,0<=p.1/\p.1<9223372036854775808/\p.1+by_<9223372036854775808)->
 PC E 108 [.agg t.view,.i fr,.i by_] (.agg (t.re (zl fr by_) 0).view):=by
 intro n;induction n with
 |zero=>intro t fr h;have:=t.Aa;omega
 |succ n ih=>
 intro t fr hsz hn h1 h2 hs hix;have hsz':=Tm.Ag t;have hlen:=zd Tm.full Tm.Aa t.args;have hup:=LN t.kind fr;have hpl:=LY t.kind fr;have hb:=LS t;by_cases hv:t.kind=1
 ·have ht:=J0 hs hv;have hi:=hix (t.index,0) (by rw[uk hs hv];simp);rw[ht];generalize t.index=i at hi;simp only at hi;rw[E9,yz];have hvi:(vT i).index=i:=rfl;refine M.F Tryz.func108 ?_;(repeat' first|refine M.gw ?_|refine M.cs ?_ ?_<;>intro h|fail);all_goals first
   |(exfalso;simp at h;done)
   |skip
  ·have h3:i-0>=fr:=by simp at h;omega
   rw[if_pos h3];refine AW.range 0 (fun m=>True) (fun m=>([(1,.i fr),(2,.i by_),(3,.ptr 0 0),(6,.ptr 1 0),(7,.ptr 2 0),(32,.s .tm []),(33,.i 0),(34,.i m)],⟨3,[(0,.var (vT i).view),(1,.var [.i 0,.i 0,.i 0,.slice .nil (.t .ty []),.slice .nil (.t .tm [])]),(2,.var [.i 1,.i (i+by_),.i 0,.s .ty [],.slice .nil (.t .tm [])])]⟩))
    (by omega) (fun m=>rfl) (fun m=>rfl) rfl trivial (M.W [some 0,some 1,some 2]) ?_ ?_
   ·intro m hm;omega
   ·intro _;(repeat' first|refine M.gw ?_|fail)
    rfl
  ·have h3:¬i-0>=fr:=by simp at h;omega
   rw[if_neg h3];refine AW.range 0 (fun m=>True) (fun m=>([(1,.i fr),(2,.i by_),(3,.ptr 0 0),(6,.ptr 1 0),(7,.ptr 2 0),(32,.s .tm []),(33,.i 0),(34,.i m)],⟨3,[(0,.var (vT i).view),(1,.var [.i 0,.i 0,.i 0,.slice .nil (.t .ty []),.slice .nil (.t .tm [])]),(2,.var [.i 1,.i i,.i 0,.s .ty [],.slice .nil (.t .tm [])])]⟩))
    (by omega) (fun m=>rfl) (fun m=>rfl) rfl trivial (M.W [some 0,some 1,some 2]) ?_ ?_
   ·intro m hm;omega
   ·intro _;(repeat' first|refine M.gw ?_|fail)
    rfl
 have he:=Zwd (fr:=fr) (by_:=by_) hv;refine M.F Tryz.func108 ?_;(repeat' first|refine M.gw ?_|refine M.gs ?_ ?_<;>intro h|refine M.cs ?_ ?_<;>intro h|fail);all_goals first
  |(exfalso;simp_all;done)
  |skip
 all_goals
  refine AW.range t.args.length (fun m=>True) (fun m=>([(1,.i fr),(2,.i by_),(3,.ptr 0 0),(6,.ptr 1 0),(7,.ptr 2 0),(32,.s .tm t.args),(33,.i t.args.length),(34,.i m)],⟨4,[(0,.var t.view),(1,.var [.i 0,.i 0,.i 0,.slice .nil (.t .ty []),.slice .nil (.t .tm [])]),(2,.var [.i t.kind,.i t.index,.i t.ty.kind,.s .ty t.ty.args,.slice (.own 3) (.t .tm ((t.args.take m).map fun x=>x.re (zl (up t.kind fr) by_) 0))]),(3,.row)]⟩))
   (by omega) (fun m=>rfl) (fun m=>rfl) rfl trivial (M.W [some 0,some 1,some 2,none]) ?_ ?_
  ·intro m hm _;have hs2:=zc Tm.full (List.getElem_mem hm);have hc:=ih t.args[m] (up t.kind fr) (by omega) (by omega) (by omega) (by omega) (ze hs _ (List.getElem_mem hm)) (fun p hp=>by
    obtain⟨q,hq,hqe⟩:=OX (b':=up t.kind 0) p hp;have:=hix q (LZ hv (List.getElem_mem hm) hq);rw[<-hqe];exact this)
   rw[<-hpl] at hc;simp only[<-hpl];(repeat' first|refine M.gw ?_|refine M.c2 (hb) ?_|refine M.c2 (hc) ?_|fail);exact⟨rfl,trivial,(M.W [some 0,some 1,some 2,some 5] (he:=(by(repeat'(first|exact trivial|exact Or.inr ⟨_,U,rfl⟩|refine And.intro ?_ ?_|refine⟨_,U,_,U,_,U,?_⟩|exact An.refl _|exact An.of_eq (by simp[Ao.Ax,z8 _ _ _ hm])));done)))⟩
  ·intro _;simp only[List.take_length];(repeat' first|refine M.gw ?_|fail);rw[he];simp[zj,V.wk,V.Ap,za,Ty.view,Tm.view]
theorem PU(by_:Int)(hby: -549755813888<=by_/\by_<=549755813888):∀(n:Nat) (t:Tm) (fr:Int),t.full<=n->n<274877906944->-274877906944<=fr->fr+n<549755813888->t.shape=true->(∀p∈t.vars 0,0<=p.1/\p.1<549755813888)->
 PC E 108 [.agg t.view,.i fr,.i by_] (.agg (t.re (zl fr by_) 0).view):=
 fun n t fr h1 h2 h3 h4 h5 h6=>Ylx by_ hby n t fr h1 h2 h3 h4 h5 fun p hp=>by have:=h6 p hp;omega
theorem QF(k:Int):PC E 167 [.i k] (.bool (xp k)):=by
 have e:xp k=decide (k=4\/k=5\/k=6\/k=7):=by rw[Bool.eq_iff_iff,Bp,decide_eq_true_iff];omega
 rw[e];refine M.F Tryz.func167 ?_;(repeat' first|refine M.gw ?_|refine M.gs ?_ ?_<;>intro h|fail);all_goals(simp_all[zj,V.wk,V.Ap,za];try(first|omega|(rw[Bool.eq_iff_iff];simp)))
theorem OG(f:Fm):PC E 109 [.agg f.view] (.i (A3 f.kind 0)):=by
 have h1:=QF f.kind;cases hq:xp f.kind with
 |true=>
  have e:A3 f.kind 0=1:=by simp[A3,hq]
  rw[hq] at h1;rw[e];refine M.F Tryz.func109 ?_;(repeat' first|refine M.gw ?_|refine M.c2 (h1) ?_|fail)
  rfl
 |false=>
  have e:A3 f.kind 0=0:=by simp[A3,hq]
  rw[hq] at h1;rw[e];refine M.F Tryz.func109 ?_;(repeat' first|refine M.gw ?_|refine M.c2 (h1) ?_|fail)
  rfl
theorem Nz(k b:Int):b+A3 k 0=A3 k b:=by simp only[A3];split<;>omega
theorem Rw(t:Ty):t.ok=(t.err==0):=Ty.EB t
theorem Yb3{f:Fm}(hk:f.kind=1):f.shape=(decide (f.args.length=0)&&f.ty.BI&&decide (f.terms.length=2)&&f.terms.all Tm.shape):=by
 rw[Fm.Ak];simp only[Fm.head,hk,if_true];by_cases h:f.args.length=0
 ·have ha:f.args=[]:=List.length_eq_zero_iff.1 h;rw[ha];cases f.ty.BI<;>simp;rw[Bool.eq_iff_iff];simp
 ·simp[h]
theorem Zu8{f:Fm}(hk:f.kind=2\/f.kind=3):f.shape=(decide (f.terms.length=0)&&f.ty.BI&&decide (f.args.length=2)&&f.args.all Fm.shape):=by
 rw[Fm.Ak];have h1:¬f.kind=1:=by omega
 simp only[Fm.head,if_neg h1,if_pos hk];by_cases h:f.terms.length=0
 ·have ha:f.terms=[]:=List.length_eq_zero_iff.1 h;rw[ha];cases f.ty.BI<;>simp;rw[Bool.eq_iff_iff];simp
 ·simp[h]
theorem Uk{f:Fm}(hk:xp f.kind=true):f.shape=(decide (f.terms.length=0)&&f.ty.ok&&decide (f.args.length=1)&&f.args.all Fm.shape):=by
 rw[Fm.Ak];rw[Bp] at hk;have h1:¬f.kind=1:=by omega
 have h2:¬(f.kind=2\/f.kind=3):=by omega
 have h3:f.kind=4\/f.kind=5\/f.kind=6\/f.kind=7:=by omega
 simp only[Fm.head,if_neg h1,if_neg h2,if_pos h3];by_cases h:f.terms.length=0
 ·have ha:f.terms=[]:=List.length_eq_zero_iff.1 h;rw[ha];cases f.ty.ok<;>simp;rw[Bool.eq_iff_iff];simp
 ·simp[h]
theorem Zzu{f:Fm}(h1:f.kind≠1)(h2:¬(f.kind=2\/f.kind=3))(h3:xp f.kind=false):f.shape=false:=by
 rw[Fm.Ak];have h4:¬(f.kind=4\/f.kind=5\/f.kind=6\/f.kind=7):=by
  intro hc;have:xp f.kind=true:=by rw[Bp];omega
  rw[h3] at this;cases this
 simp only[Fm.head,if_neg h1,if_neg h2,if_neg h4,Bool.false_and]
theorem UZ:∀(n:Nat) (f:Fm),f.full<=n->n<549755813888->PC E 184 [.agg f.view] (.bool f.shape):=by
 intro n;induction n with
 |zero=>intro f h;have:=f.Aa;omega
 |succ n ih=>
 intro f hsz hn;have hsz':=f.Ag;have hlen:=zd Fm.full Fm.Aa f.args;have hlen2:=zd Tm.full Tm.Aa f.terms;have hz:=RA f.ty;have hty:=KB f.ty (by omega);have hq:=QF f.kind;have ht:∀x∈f.terms,PC E 52 [.agg x.view] (.bool x.shape):=fun x hx=>SK _ x (Nat.le_refl _) (by have:=zc Tm.full hx;omega);have ha:∀x∈f.args,PC E 184 [.agg x.view] (.bool x.shape):=fun x hx=>ih x (by have:=zc Fm.full hx;omega) (by omega);clear ih;by_cases k1:f.kind=1
 ·have e:=Yb3 k1;obtain⟨k,ty,ts,fs⟩:=f;simp only[Fm.Ah,Fm.AL,Fm.Ai,Fm.Ad] at*;subst k1;by_cases hl:ts.length=2
  ·obtain ⟨a,b,rfl⟩:=NR hl;have t1:=ht a (by simp);have t2:=ht b (by simp);rw[e];refine M.F Tryz.func184 ?_;(repeat' first|refine M.gw ?_|refine M.c2 (hz) ?_|refine M.c2 (t1) ?_|refine M.c2 (t2) ?_|refine M.gs ?_ ?_<;>intro h|refine M.zb ?_|fail);all_goals(simp at*;simp_all[zj,V.wk,V.Ap,za];done)
  ·have e2:(Fm.mk 1 ty ts fs).shape=false:=by rw[e];simp[hl]
   rw[e2];refine M.F Tryz.func184 ?_;(repeat' first|refine M.gw ?_|refine M.c2 (hz) ?_|refine M.gs ?_ ?_<;>intro h|refine M.zb ?_|fail);all_goals first|simp at*;simp_all[zj,V.wk,V.Ap,za];done|exfalso;simp at*;omega
 by_cases k2:f.kind=2\/f.kind=3
 ·have e:=Zu8 k2;obtain⟨k,ty,ts,fs⟩:=f;simp only[Fm.Ah,Fm.AL,Fm.Ai,Fm.Ad] at*;by_cases hl:fs.length=2
  ·obtain ⟨a,b,rfl⟩:=NR hl;have t1:=ha a (by simp);have t2:=ha b (by simp);rw[e];rcases k2 with rfl|rfl;all_goals
    refine M.F Tryz.func184 ?_;(repeat' first|refine M.gw ?_|refine M.c2 (hz) ?_|refine M.c2 (t1) ?_|refine M.c2 (t2) ?_|refine M.gs ?_ ?_<;>intro h|refine M.zb ?_|fail);all_goals(simp at*;simp_all[zj,V.wk,V.Ap,za];done)
  ·have e2:(Fm.mk k ty ts fs).shape=false:=by rw[e];simp[hl]
   rw[e2];rcases k2 with rfl|rfl;all_goals
    refine M.F Tryz.func184 ?_;(repeat' first|refine M.gw ?_|refine M.c2 (hz) ?_|refine M.gs ?_ ?_<;>intro h|refine M.zb ?_|fail);all_goals first|simp at*;simp_all[zj,V.wk,V.Ap,za];done|exfalso;simp at*;omega
 cases k3:xp f.kind with
 |true=>
  have e:=Uk k3;rw[k3] at hq;have hk:f.kind=4\/f.kind=5\/f.kind=6\/f.kind=7:=by rw[Bp] at k3;omega
  obtain⟨k,ty,ts,fs⟩:=f;simp only[Fm.Ah,Fm.AL,Fm.Ai,Fm.Ad] at*;rw[Rw] at e;by_cases hl:fs.length=1
  ·obtain ⟨a,rfl⟩:=Qo hl;have t1:=ha a (by simp);rw[e];rcases hk with rfl|rfl|rfl|rfl;all_goals
    refine M.F Tryz.func184 ?_;(repeat' first|refine M.gw ?_|refine M.c2 (hty) ?_|refine M.c2 (hq) ?_|refine M.c2 (t1) ?_|refine M.gs ?_ ?_<;>intro h|refine M.zb ?_|fail);all_goals(simp at*;simp_all[zj,V.wk,V.Ap,za];done)
  ·have e2:(Fm.mk k ty ts fs).shape=false:=by rw[e];simp[hl]
   rw[e2];rcases hk with rfl|rfl|rfl|rfl;all_goals
    refine M.F Tryz.func184 ?_;(repeat' first|refine M.gw ?_|refine M.c2 (hty) ?_|refine M.c2 (hq) ?_|refine M.gs ?_ ?_<;>intro h|refine M.zb ?_|fail);all_goals first|simp at*;simp_all[zj,V.wk,V.Ap,za];done|exfalso;simp at*;omega
 |false=>
  have e:=Zzu k1 k2 k3;rw[k3] at hq;rw[e];refine M.F Tryz.func184 ?_;(repeat' first|refine M.gw ?_|refine M.c2 (hq) ?_|refine M.gs ?_ ?_<;>intro h|refine M.zb ?_|refine M.cs ?_ ?_<;>intro h|fail);all_goals first
   |rfl
   |(exfalso;simp at*;omega)
theorem NP:∀(n:Nat) (f:Fm),f.full<=n->n<549755813888->PC E 227 [.agg f.view] (.i f.size):=by
 intro n;induction n with
 |zero=>intro f h;have:=f.Aa;omega
 |succ n ih=>
 intro f hsz hn;have hsz':=f.Ag;have hse:=f.size_eq;have hlen:=zd Fm.full Fm.Aa f.args;have hlen2:=zd Tm.full Tm.Aa f.terms;have hle1:=y0 (f:=Tm.size) (g:=Tm.full) f.terms fun x _=>x.Aj;have hle2:=y0 (f:=Fm.size) (g:=Fm.full) f.args fun x _=>x.Aj;refine M.F Tryz.func227 ?_;(repeat' first|refine M.gw ?_|fail);refine AW.range f.terms.length (fun m=>True)
  (fun m=>([(1,.ptr 0 0),(3,.i (1+((f.terms.take m).map Tm.size).sum:Nat)),(9,.s .tm f.terms),(10,.i f.terms.length),(11,.i m)],⟨1,[(0,.var f.view)]⟩))
  (by omega) (fun m=>rfl) (fun m=>rfl) rfl trivial (M.W [some 0]) ?_ ?_
 ·intro m hm _;have hs1:=yl Tm.size f.terms m hm;have hs2:=zc Tm.full (List.getElem_mem hm);have hs3:=zn Tm.size f.terms (m+1);have hc:=yu _ f.terms[m] (Nat.le_refl _) (by omega);(repeat' first|refine M.gw ?_|refine M.c2 (hc) ?_|fail);refine⟨rfl,trivial,?_⟩;simp only[hs1];exact(M.W [some 0] (hf:=(by(repeat'(first|exact trivial|refine And.intro ?_ ?_|refine⟨_,U,_,U,?_⟩|exact An.refl _|exact An.of_eq (by simp[Ao.Ax,Int.natCast_add,Int.add_assoc])));done)))
 ·intro _;simp only[List.take_length];(repeat' first|refine M.gw ?_|fail);refine AW.range f.args.length (fun m=>True)
   (fun m=>([(1,.ptr 0 0),(3,.i (1+(f.terms.map Tm.size).sum+((f.args.take m).map Fm.size).sum:Nat)),(21,.s .fm f.args),(22,.i f.args.length),(23,.i m)],⟨1,[(0,.var f.view)]⟩))
   (by omega) (fun m=>rfl) (fun m=>rfl) rfl trivial (M.W [some 0]) ?_ ?_
  ·intro m hm _;have hs1:=yl Fm.size f.args m hm;have hs2:=zc Fm.full (List.getElem_mem hm);have hs3:=zn Fm.size f.args (m+1);have hc:=ih f.args[m] (by omega) (by omega);(repeat' first|refine M.gw ?_|refine M.c2 (hc) ?_|fail);refine⟨rfl,trivial,?_⟩;simp only[hs1];exact(M.W [some 0] (hf:=(by(repeat'(first|exact trivial|refine And.intro ?_ ?_|refine⟨_,U,_,U,?_⟩|exact An.refl _|exact An.of_eq (by simp[Ao.Ax,Int.natCast_add,Int.add_assoc])));done)))
  ·intro _;simp only[List.take_length];(repeat' first|refine M.gw ?_|fail);rw[hse]
   rfl
theorem KI(f:Fm)(hf:f.full<549755813888):PC E 181 [.agg f.view] (.i f.err):=by
 have h1:=UZ _ f (Nat.le_refl _) hf;have h2:=NP _ f (Nat.le_refl _) hf;have hle:=f.Aj;cases hs:f.shape with
 |false=>
  have e:f.err=2:=by simp[Fm.err,hs]
  rw[hs] at h1;rw[e];refine M.F Tryz.func181 ?_;(repeat' first|refine M.gw ?_|refine M.c2 (h1) ?_|fail)
  rfl
 |true=>
  rw[hs] at h1;by_cases hz:f.size>4096
  ·have e:f.err=4:=by simp[Fm.err,hs,hz]
   rw[e];refine M.F Tryz.func181 ?_;(repeat' first|refine M.gw ?_|refine M.c2 (h1) ?_|refine M.c2 (h2) ?_|refine M.cs ?_ ?_<;>intro h|fail)
   ·rfl
   ·exfalso;simp at h;omega
  ·have e:f.err=0:=by simp[Fm.err,hs,hz]
   rw[e];refine M.F Tryz.func181 ?_;(repeat' first|refine M.gw ?_|refine M.c2 (h1) ?_|refine M.c2 (h2) ?_|refine M.cs ?_ ?_<;>intro h|fail)
   ·exfalso;simp at h;omega
   ·rfl
theorem Xl:∀(n:Nat) (f:Fm) (at_:Int),f.full<=n->n<274877906944->-274877906944<=at_->at_+n<549755813888->f.shape=true->PC E 247 [.agg f.view,.i at_] (.bool (decide (y8 at_ f≠0))):=by
 intro n;induction n with
 |zero=>intro f at_ h;have:=f.Aa;omega
 |succ n ih=>
 intro f at_ hsz hn h1 h2 hs;have hsz':=f.Ag;have hlen:=zd Fm.full Fm.Aa f.args;have hlen2:=zd Tm.full Tm.Aa f.terms;have he:=Vr (at_:=at_) hs;have hup:=Ke f.kind at_;have hpl:=Nz f.kind at_;have hb:=OG f;refine M.F Tryz.func247 ?_;(repeat' first|refine M.gw ?_|fail);refine AW.range f.terms.length (fun m=>∀j (hj:j<f.terms.length),j<m->yr at_ f.terms[j]=0)
  (fun m=>([(1,.i at_),(2,.ptr 0 0),(10,.s .tm f.terms),(11,.i f.terms.length),(12,.i m)],⟨1,[(0,.var f.view)]⟩))
  (by omega) (fun m=>rfl) (fun m=>rfl) rfl (fun j hj h=>by omega) (M.W [some 0]) ?_ ?_
 ·intro m hm hP;have hs2:=zc Tm.full (List.getElem_mem hm);have hc:=Yix _ f.terms[m] at_ (Nat.le_refl _) (by omega) (by omega) (by omega) (ye hs (List.getElem_mem hm));(repeat' first|refine M.gw ?_|refine M.c2 (hc) ?_|refine M.cs ?_ ?_<;>intro h|fail)
  ·have hx:yr at_ f.terms[m]≠0:=by simpa using h
   have:=PX hm hx;rw[he,decide_eq_true (show _≠0 by omega)];rfl
  ·have hx:yr at_ f.terms[m]=0:=by simpa using h
   exact⟨rfl,yc (p:=fun t'=>yr at_ t'=0) hm hP hx,(M.W [some 0])⟩
 ·intro hP;rw[S3 (f:=yr at_) fun j hj=>hP j hj hj,Nat.zero_add] at he;(repeat' first|refine M.gw ?_|fail);refine AW.range f.args.length (fun m=>∀j (hj:j<f.args.length),j<m->y8 (A3 f.kind at_) f.args[j]=0)
   (fun m=>([(1,.i at_),(2,.ptr 0 0),(21,.s .fm f.args),(22,.i f.args.length),(23,.i m)],⟨1,[(0,.var f.view)]⟩))
   (by omega) (fun m=>rfl) (fun m=>rfl) rfl (fun j hj h=>by omega) (M.W [some 0]) ?_ ?_
  ·intro m hm hP;have hs2:=zc Fm.full (List.getElem_mem hm);have hc:=ih f.args[m] (A3 f.kind at_) (by omega) (by omega) (by omega) (by omega) (zw hs (List.getElem_mem hm));rw[<-hpl] at hc;rw[<-hpl] at hP he;(repeat' first|refine M.gw ?_|refine M.c2 (hb) ?_|refine M.c2 (hc) ?_|refine M.cs ?_ ?_<;>intro h|fail)
   ·have hx:y8 (at_+A3 f.kind 0) f.args[m]≠0:=by simpa using h
    rw[he,decide_eq_true (PX hm hx)];rfl
   ·have hx:y8 (at_+A3 f.kind 0) f.args[m]=0:=by simpa using h
    exact⟨rfl,by rw[<-hpl];exact yc (p:=fun t'=>y8 (at_+A3 f.kind 0) t'=0) hm hP hx,(M.W [some 0])⟩
  ·intro hP;rw[he,S3 fun j hj=>hP j hj hj];(repeat' first|refine M.gw ?_|fail)
   rfl
end Go.Ab
