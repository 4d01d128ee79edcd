/- A part of this seat's proofs. No conditions. -/
import Derived.Test.YtmhcohcihajegaaGreatDoorCS8
import Derived.Test.YtmhcohcihajegaaGreatDoorCS9
namespace Go.Ab
open Go Go.Proofs
set_option maxRecDepth 100000
set_option maxHeartbeats 4000000
set_option linter.all false
theorem Yl8(d:Dk)(h:d.ok):AC E 54 [.ptr 0 0,.i 0] ⟨1,[(0,.var d.cells)]⟩ (.agg (d.type 0).1.view) ⟨1,[(0,.var (d.type 0).2.cells)]⟩:=Ni 0 0 d kn kn kn h
theorem Wo:∀(n:Nat) (d:Dk) (g:List Ty) (k:Int),n<=3->k=n->d.ok->Aj g->g.length+n<=5000->
 AC E 31 [.ptr 0 0,.s .ty g,.i k] ⟨1,[(0,.var d.cells)]⟩ (.agg (Dk.fm n d g).1.view) ⟨1,[(0,.var (Dk.fm n d g).2.cells)]⟩:=by
 have bd:∀(n:Nat) (d:Dk) (g:List Ty),n<=3->Aj g->(Dk.fm n d g).1.full<=10000:=fun n d g hn hg=>by
  have h1:=(Dk.Cw n d g hg).2.2;have h2:2^n<=2^3:=i9 kn hn;omega
 have eqc:∀(d:Dk) (g:List Ty),d.ok->Aj g->g.length<=5000->∃(x:Tm) (d1:Dk) (y:Tm) (d2:Dk),d.HM g=(AV x y,d2)/\x.full<=1000/\y.full<=1000/\
  AC E 58 [.ptr 0 0,.s .ty g,.agg Ac.view,.i 1] ⟨1,[(0,.var d.cells)]⟩ (.agg x.view) ⟨1,[(0,.var d1.cells)]⟩/\
  AC E 58 [.ptr 0 0,.s .ty g,.agg Ac.view,.i 1] ⟨1,[(0,.var d1.cells)]⟩ (.agg y.view) ⟨1,[(0,.var d2.cells)]⟩:=fun d g hd hg hl=>by
  have d1:=Dk.Dd 3 d g Ac hd;have m1:=(Dk.C8 3 d g Ac hg zj kn kn).full hg zj;have m2:=(Dk.C8 3 (Dk.tm 3 d g Ac).2 g Ac hg zj kn kn).full hg zj;exact⟨_,_,_,_,rfl,kn,kn,LF 3 kn d g Ac 1 kn hd hg zj kn kn kn,
   LF 3 kn (Dk.tm 3 d g Ac).2 g Ac 1 kn d1 hg zj kn kn kn⟩
 intro n;induction n with
 |zero=>
  intro d g k _ hk hd hg hl;obtain⟨x,d1,y,d2,e,fx,fy,h1,h2⟩:=eqc d g hd hg kn;have he:=JY x y kn kn;rw[show Dk.fm 0 d g=(AV x y,d2) from e];obtain rfl:k=0:=hk;refine M.F Tryz.func31 ?_;refine M.w4 @DR @h1 @h2 @he ?_
  (exact M.n2 AJ (h8:=nK))
 |succ n ih=>
 intro d g k hn hk hd hg hl;have h9:=FX d 9 hd kn;have hbd:=Dk.BC d 9 kn;have d9:=Dk.AQ hd 9;have hkp:k>0:=kn
 have efm:Dk.fm (n+1) d g=Dk.fm (n+1) d g:=rfl
 conv at efm=>rhs;rw[Dk.fm]
 generalize hr:(d.next 9).1=r at*;generalize (d.next 9).2=e1 at*;have hr9:r=0\/r=1\/r=2\/r=3\/r=4\/r=5\/r=6\/r=7\/r=8:=kn
 rcases hr9 with rfl|rfl|rfl|rfl|rfl|rfl|rfl|rfl|rfl
 .simp only[show((0:Int)=1)=False by simp,show((0:Int)=2)=False by simp,show((0:Int)=3)=False by simp,show((0:Int)=4)=False by simp,show((0:Int)=5)=False by simp,show((0:Int)=6)=False by simp,if_false,if_true,or_self,or_true,true_or,or_false,false_or] at efm;rw[efm];have a1:=ih e1 g (k-1) kn kn d9 hg kn;have f1:=bd n e1 g kn hg;have k1:=Dk.Gj n e1 g d9;generalize (Dk.fm n e1 g).1=x at*;generalize (Dk.fm n e1 g).2=e2 at*;have a2:=ih e2 g (k-1) kn kn k1 hg kn;have f2:=bd n e2 g kn hg;generalize (Dk.fm n e2 g).1=y at*;generalize (Dk.fm n e2 g).2=e3 at*;have hw:=Pm 2 x y kn kn;refine M.F Tryz.func31 ?_;(repeat' first|refine M.v4 @h9 @a1 @a2 @hw ?_|refine M.cs ?_ ?_<;>intro h|fail);all_goals first
   |(exfalso;simp at h;omega)
   |skip
  (exact M.n2 AJ (h8:=nL))
 .simp only[show((1:Int)=0)=False by simp,show((1:Int)=2)=False by simp,show((1:Int)=3)=False by simp,show((1:Int)=4)=False by simp,show((1:Int)=5)=False by simp,show((1:Int)=6)=False by simp,if_false,if_true,or_self,or_true,true_or,or_false,false_or] at efm;rw[efm];have a1:=ih e1 g (k-1) kn kn d9 hg kn;have f1:=bd n e1 g kn hg;have k1:=Dk.Gj n e1 g d9;generalize (Dk.fm n e1 g).1=x at*;generalize (Dk.fm n e1 g).2=e2 at*;have a2:=ih e2 g (k-1) kn kn k1 hg kn;have f2:=bd n e2 g kn hg;generalize (Dk.fm n e2 g).1=y at*;generalize (Dk.fm n e2 g).2=e3 at*;have hw:=Pm 3 x y kn kn;refine M.F Tryz.func31 ?_;(repeat' first|refine M.v4 @h9 @a1 @a2 @hw ?_|refine M.cs ?_ ?_<;>intro h|fail);all_goals first
   |(exfalso;simp at h;omega)
   |skip
  (exact M.n2 AJ (h8:=nL))
 .simp only[show((2:Int)=0)=False by simp,show((2:Int)=1)=False by simp,show((2:Int)=3)=False by simp,show((2:Int)=4)=False by simp,show((2:Int)=5)=False by simp,show((2:Int)=6)=False by simp,if_false,if_true,or_self,or_true,true_or,or_false,false_or] at efm;rw[efm];have a1:=ih e1 g (k-1) kn kn d9 hg kn;have f1:=bd n e1 g kn hg;have k1:=Dk.Gj n e1 g d9;generalize (Dk.fm n e1 g).1=x at*;generalize (Dk.fm n e1 g).2=e2 at*;have a2:=ih e2 g (k-1) kn kn k1 hg kn;have f2:=bd n e2 g kn hg;generalize (Dk.fm n e2 g).1=y at*;generalize (Dk.fm n e2 g).2=e3 at*;have hw:=Pm 3 x y kn kn;refine M.F Tryz.func31 ?_;(repeat' first|refine M.v4 @h9 @a1 @a2 @hw ?_|refine M.cs ?_ ?_<;>intro h|fail);all_goals first
   |(exfalso;simp at h;omega)
   |skip
  (exact M.n2 AJ (h8:=nL))
 .simp only[show((3:Int)=0)=False by simp,show((3:Int)=1)=False by simp,show((3:Int)=2)=False by simp,show((3:Int)=4)=False by simp,show((3:Int)=5)=False by simp,show((3:Int)=6)=False by simp,if_false,if_true,or_self,or_true,true_or,or_false,false_or] at efm;rw[efm];have ts:=UW e1 d9;have ss:=Dk.type1 e1;have k1:=Dk.BG 1 e1 d9;generalize (e1.type 1).1=s at*;generalize (e1.type 1).2=e2 at*;have gs:=zm hg (zg ss zk);have hlg:=Kt g [s] kC;have a1:=ih e2 (g++[s]) (k-1) kn kn k1 gs kC;have f1:=bd n e2 (g++[s]) kn gs;generalize (Dk.fm n e2 (g++[s])).1=x at*;generalize (Dk.fm n e2 (g++[s])).2=e3 at*;have hw:=HS 4 s x ng kn;refine M.F Tryz.func31 ?_;(repeat' first|refine M.v5 @h9 @ts @hlg @a1 @hw ?_|refine M.cs ?_ ?_<;>intro h|fail);all_goals first
   |(exfalso;simp at h;omega)
   |skip
  (exact M.n2 AJ (h8:=mH))
 .simp only[show((4:Int)=0)=False by simp,show((4:Int)=1)=False by simp,show((4:Int)=2)=False by simp,show((4:Int)=3)=False by simp,show((4:Int)=5)=False by simp,show((4:Int)=6)=False by simp,if_false,if_true,or_self,or_true,true_or,or_false,false_or] at efm;rw[efm];have ts:=UW e1 d9;have ss:=Dk.type1 e1;have k1:=Dk.BG 1 e1 d9;generalize (e1.type 1).1=s at*;generalize (e1.type 1).2=e2 at*;have gs:=zm hg (zg ss zk);have hlg:=Kt g [s] kC;have a1:=ih e2 (g++[s]) (k-1) kn kn k1 gs kC;have f1:=bd n e2 (g++[s]) kn gs;generalize (Dk.fm n e2 (g++[s])).1=x at*;generalize (Dk.fm n e2 (g++[s])).2=e3 at*;have hw:=HS 4 s x ng kn;refine M.F Tryz.func31 ?_;(repeat' first|refine M.v5 @h9 @ts @hlg @a1 @hw ?_|refine M.cs ?_ ?_<;>intro h|fail);all_goals first
   |(exfalso;simp at h;omega)
   |skip
  (exact M.n2 AJ (h8:=mH))
 .simp only[show((5:Int)=0)=False by simp,show((5:Int)=1)=False by simp,show((5:Int)=2)=False by simp,show((5:Int)=3)=False by simp,show((5:Int)=4)=False by simp,show((5:Int)=6)=False by simp,if_false,if_true,or_self,or_true,true_or,or_false,false_or] at efm;rw[efm];have ts:=UW e1 d9;have ss:=Dk.type1 e1;have k1:=Dk.BG 1 e1 d9;generalize (e1.type 1).1=s at*;generalize (e1.type 1).2=e2 at*;have gs:=zm hg (zg ss zk);have hlg:=Kt g [s] kC;have a1:=ih e2 (g++[s]) (k-1) kn kn k1 gs kC;have f1:=bd n e2 (g++[s]) kn gs;generalize (Dk.fm n e2 (g++[s])).1=x at*;generalize (Dk.fm n e2 (g++[s])).2=e3 at*;have hw:=HS 5 s x ng kn;refine M.F Tryz.func31 ?_;(repeat' first|refine M.v5 @h9 @ts @hlg @a1 @hw ?_|refine M.cs ?_ ?_<;>intro h|fail);all_goals first
   |(exfalso;simp at h;omega)
   |skip
  (exact M.n2 AJ (h8:=mH))
 .simp only[show((6:Int)=0)=False by simp,show((6:Int)=1)=False by simp,show((6:Int)=2)=False by simp,show((6:Int)=3)=False by simp,show((6:Int)=4)=False by simp,show((6:Int)=5)=False by simp,if_false,if_true,or_self,or_true,true_or,or_false,false_or] at efm;rw[efm];have ts:=Yl8 e1 d9;have ss0:=Dk.type0 e1;have ss:=z4 ss0.1 ss0.2;have k1:=Dk.BG 0 e1 d9;generalize (e1.type 0).1=s at*;generalize (e1.type 0).2=e2 at*;have h2:=FX e2 2 k1 kn;have hb2:=Dk.BC e2 2 kn;have k2:=Dk.AQ k1 2;generalize (e2.next 2).1=u at*;generalize (e2.next 2).2=e3 at*;have gs:=zm hg (zg ss zk);have hlg:=Kt g [s] kC;have a1:=ih e3 (g++[s]) (k-1) kn kn k2 gs kC;have f1:=bd n e3 (g++[s]) kn gs;generalize (Dk.fm n e3 (g++[s])).1=x at*;generalize (Dk.fm n e3 (g++[s])).2=e4 at*;have hw:=HS (6+u) s x ng kn;refine M.F Tryz.func31 ?_;(repeat' first|refine M.v6 @h9 @ts @h2 @hlg @a1 @hw ?_|refine M.cs ?_ ?_<;>intro h|fail);all_goals first
   |(exfalso;simp at h;omega)
   |skip
  (exact M.n2 AJ (h8:=mH))
 .simp only[show((7:Int)=0)=False by simp,show((7:Int)=1)=False by simp,show((7:Int)=2)=False by simp,show((7:Int)=3)=False by simp,show((7:Int)=4)=False by simp,show((7:Int)=5)=False by simp,show((7:Int)=6)=False by simp,if_false,if_true,or_self,or_true,true_or,or_false,false_or] at efm;rw[efm];obtain⟨x,d1,y,d2,e,fx,fy,h1,h2⟩:=eqc e1 g d9 hg kn;rw[e];have he:=JY x y kn kn;refine M.F Tryz.func31 ?_;(repeat' first|refine M.v5 @h9 @DR @h1 @h2 @he ?_|refine M.cs ?_ ?_<;>intro h|fail);all_goals first
   |(exfalso;simp at h;omega)
   |skip
  (exact M.n2 AJ (h8:=nK))
 .simp only[show((8:Int)=0)=False by simp,show((8:Int)=1)=False by simp,show((8:Int)=2)=False by simp,show((8:Int)=3)=False by simp,show((8:Int)=4)=False by simp,show((8:Int)=5)=False by simp,show((8:Int)=6)=False by simp,if_false,if_true,or_self,or_true,true_or,or_false,false_or] at efm;rw[efm];obtain⟨x,d1,y,d2,e,fx,fy,h1,h2⟩:=eqc e1 g d9 hg kn;rw[e];have he:=JY x y kn kn;refine M.F Tryz.func31 ?_;(repeat' first|refine M.v5 @h9 @DR @h1 @h2 @he ?_|refine M.cs ?_ ?_<;>intro h|fail);all_goals first
   |(exfalso;simp at h;omega)
   |skip
  (exact M.n2 AJ (h8:=nK))
theorem Ynn(d:Dk)(hd:d.ok):AC E 10 [.ptr 0 0] ⟨1,[(0,.var d.cells)]⟩ (.agg [.s .ty d.ctx.1,.s .fm d.KS]) ⟨1,[(0,.var d.Nx.cells)]⟩:=by
 have h1:=Ydz d hd;have h2:=FX d.ctx.2 3 (Dk.GH hd) kn;have hb:=Dk.BC d.ctx.2 3 kn;have hg:=d.CD;have hgl:=d.Hv;obtain⟨c,hc⟩:∃c:Nat,(d.ctx.2.next 3).1=c:=⟨(d.ctx.2.next 3).1.toNat,kn⟩;have hcn:d.M9=c:=by unfold Dk.M9;omega
 have hdo:=Dk.AQ (Dk.GH hd) 3;rw[hc] at h2 hb;have eH:d.KS=(Dk.DP c (d.ctx.2.next 3).2 d.ctx.1).1:=by unfold Dk.KS;rw[hcn]
 have eD:d.Nx=(Dk.DP c (d.ctx.2.next 3).2 d.ctx.1).2:=by unfold Dk.Nx;rw[hcn]
 rw[eH,eD];generalize d.ctx.1=g at*;generalize (d.ctx.2.next 3).2=d2 at*;refine M.F Tryz.func10 ?_;refine M.w2 @h1 @h2 ?_;refine AW.down c (fun m=>m<=c)
  (fun m=>([(0,.ptr 0 0),(2,.ptr 1 0),(3,.ptr 2 0),(4,.i m)],⟨4,[(0,.var (Dk.DP (c-m) d2 g).2.cells),(1,.var [.slice .nil (.t .ty []),.slice .nil (.t .fm [])]),(2,.var [.s .ty g,.slice (.own 3) (.t .fm (Dk.DP (c-m) d2 g).1)]),(3,.row)]⟩))
  kn (fun m=>rfl) rfl (fB _) ?_ ?_ ?_
 .simp only[jd];exact(M.W JU)
 .intro m hm hP;have e:=Dk.EA (c-(m+1)) d2 g;rw[show c-(m+1)+1=c-m by omega] at e;have h3:=Wo 2 (Dk.DP (c-(m+1)) d2 g).2 g 2 kn rfl (Dk.EF _ _ _ hdo) hg kn;have hl:=Dk.DD (c-(m+1)) d2 g;refine M.w1 @h3 ?_;refine⟨rfl,kn,?_⟩;simp only[e];exact(M.W [some 0,some 1,some 2,some 4])
 .intro _;simp only[jZ];refine M.w0 ?_
  (exact M.n2 AJ (h8:=kR))
theorem Qx(i:Int):PC E 127 [.i i] (.agg (vd i).view):=by
 refine AC.mk Tryz.func127 rfl rfl rfl rfl rfl (fP rfl) ?_;repeat'(first|((with_reducible refine D.nil ?_);refine AX.Bh ?_)|((with_reducible refine D.move ?_);refine L.mv U U U ?_)|((with_reducible refine D.alloc ?_);refine L.al U U U ?_)|((with_reducible refine D.store ?_);refine L.st U U U U U U U U U ?_)|((with_reducible refine D.ax ?_);refine L.bd U U U U U ?_)|((with_reducible refine D.aw ?_);first|refine K.sq (AW.A5 ?_)|refine AW.ret ?_)|with_reducible refine K.tN ?_|with_reducible refine K.r1 kF kF ?_)
 rfl
end Go.Ab
