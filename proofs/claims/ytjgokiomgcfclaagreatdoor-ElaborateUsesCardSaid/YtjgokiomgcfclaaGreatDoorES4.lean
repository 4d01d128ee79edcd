/- A part of the proofs of this seat. No conditions. -/
import Derived.Test.YtjgokiomgcfclaaGreatDoorES3
namespace Go.Ab
open Go Go.Proofs
set_option maxRecDepth 100000
set_option maxHeartbeats 4000000
set_option linter.all false
theorem So(d:Dk)(h:d.ok):AC E 56 [.ptr 0 0,.i 0] ⟨1,[(0,.var d.cells)]⟩ (.agg (d.type 0).1.view) ⟨1,[(0,.var (d.type 0).2.cells)]⟩:=J2 0 0 d (by omega) (by omega) (by omega) h
theorem LY:∀(n:Nat) (d:Dk) (g:List Ty) (k:Int),n<=3->k=n->d.ok->Ai g->g.length+n<=5000->
 AC E 52 [.ptr 0 0,.s .ty g,.i k] ⟨1,[(0,.var d.cells)]⟩ (.agg (Dk.fm n d g).1.view) ⟨1,[(0,.var (Dk.fm n d g).2.cells)]⟩:=by
 have bd:∀(n:Nat) (d:Dk) (g:List Ty),n<=3->Ai g->(Dk.fm n d g).1.full<=10000:=fun n d g hn hg=>by
  have h1:=(Dk.CC n d g hg).2.2;have h2:2^n<=2^3:=Nat.pow_le_pow_right (by omega) hn;omega
 have eqc:∀(d:Dk) (g:List Ty),d.ok->Ai g->g.length<=5000->∃(x:Tm) (d1:Dk) (y:Tm) (d2:Dk),d.Jj g=(AM x y,d2)/\x.full<=1000/\y.full<=1000/\
  AC E 57 [.ptr 0 0,.s .ty g,.agg Aa.view,.i 1] ⟨1,[(0,.var d.cells)]⟩ (.agg x.view) ⟨1,[(0,.var d1.cells)]⟩/\
  AC E 57 [.ptr 0 0,.s .ty g,.agg Aa.view,.i 1] ⟨1,[(0,.var d1.cells)]⟩ (.agg y.view) ⟨1,[(0,.var d2.cells)]⟩:=fun d g hd hg hl=>by
  have d1:=Dk.B3 3 d g Aa hd;have m1:=(Dk.Cc 3 d g Aa hg zi (by omega) (by omega)).full hg zi;have m2:=(Dk.Cc 3 (Dk.tm 3 d g Aa).2 g Aa hg zi (by omega) (by omega)).full hg zi;exact⟨_,_,_,_,rfl,by omega,by omega,HF 3 (by omega) d g Aa 1 (by omega) hd hg zi (by omega) (by omega) (by omega),
   HF 3 (by omega) (Dk.tm 3 d g Aa).2 g Aa 1 (by omega) d1 hg zi (by omega) (by omega) (by omega)⟩
 intro n;induction n with
 |zero=>
  intro d g k _ hk hd hg hl;obtain⟨x,d1,y,d2,e,fx,fy,h1,h2⟩:=eqc d g hd hg (by omega);have he:=FL x y (by omega) (by omega);rw[show Dk.fm 0 d g=(AM x y,d2) from e];obtain rfl:k=0:=hk;refine M.F Tryz.func52 ?_;(repeat' first|refine M.gw ?_|refine M.c2 (vz) ?_|refine M.cb (h1) [0] 0 ?_|refine M.cb (h2) [0] 0 ?_|refine M.c2 (he) ?_|fail)
  (exact M.n2 [some 0] (h8:=(by simp[zk,V.wk,V.Ak,zd,Ty.view,Tm.view,AM,Fm.view])))
 |succ n ih=>
 intro d g k hn hk hd hg hl;have h9:=vt d 9 hd (by omega);have hbd:=Dk.Bb d 9 (by omega);have d9:=Dk.AA hd 9;have hkp:k>0:=by omega
 have efm:Dk.fm (n+1) d g=Dk.fm (n+1) d g:=rfl
 conv at efm=>rhs;rw[Dk.fm]
 generalize hr:(d.next 9).1=r at*;generalize (d.next 9).2=e1 at*;have hr9:r=0\/r=1\/r=2\/r=3\/r=4\/r=5\/r=6\/r=7\/r=8:=by omega
 rcases hr9 with rfl|rfl|rfl|rfl|rfl|rfl|rfl|rfl|rfl
 ·simp only[show((0:Int)=1)=False by simp,show((0:Int)=2)=False by simp,show((0:Int)=3)=False by simp,show((0:Int)=4)=False by simp,show((0:Int)=5)=False by simp,show((0:Int)=6)=False by simp,if_false,if_true,or_self,or_true,true_or,or_false,false_or] at efm;rw[efm];have a1:=ih e1 g (k-1) (by omega) (by omega) d9 hg (by omega);have f1:=bd n e1 g (by omega) hg;have k1:=Dk.DC n e1 g d9;generalize (Dk.fm n e1 g).1=x at*;generalize (Dk.fm n e1 g).2=e2 at*;have a2:=ih e2 g (k-1) (by omega) (by omega) k1 hg (by omega);have f2:=bd n e2 g (by omega) hg;generalize (Dk.fm n e2 g).1=y at*;generalize (Dk.fm n e2 g).2=e3 at*;have hw:=LS 2 x y (by omega) (by omega);refine M.F Tryz.func52 ?_;(repeat' first|refine M.gw ?_|refine M.cb (h9) [0] 0 ?_|refine M.cb (a1) [0] 0 ?_|refine M.cb (a2) [0] 0 ?_|refine M.c2 (hw) ?_|refine M.bl ?_|refine M.cs ?_ ?_<;>intro h|fail);all_goals first
   |(exfalso;simp at h;omega)
   |skip
  (exact M.n2 [some 0] (h8:=(by simp[zk,V.wk,V.Ak,zd,Ty.view,Tm.view,vy,Fm.view])))
 ·simp only[show((1:Int)=0)=False by simp,show((1:Int)=2)=False by simp,show((1:Int)=3)=False by simp,show((1:Int)=4)=False by simp,show((1:Int)=5)=False by simp,show((1:Int)=6)=False by simp,if_false,if_true,or_self,or_true,true_or,or_false,false_or] at efm;rw[efm];have a1:=ih e1 g (k-1) (by omega) (by omega) d9 hg (by omega);have f1:=bd n e1 g (by omega) hg;have k1:=Dk.DC n e1 g d9;generalize (Dk.fm n e1 g).1=x at*;generalize (Dk.fm n e1 g).2=e2 at*;have a2:=ih e2 g (k-1) (by omega) (by omega) k1 hg (by omega);have f2:=bd n e2 g (by omega) hg;generalize (Dk.fm n e2 g).1=y at*;generalize (Dk.fm n e2 g).2=e3 at*;have hw:=LS 3 x y (by omega) (by omega);refine M.F Tryz.func52 ?_;(repeat' first|refine M.gw ?_|refine M.cb (h9) [0] 0 ?_|refine M.cb (a1) [0] 0 ?_|refine M.cb (a2) [0] 0 ?_|refine M.c2 (hw) ?_|refine M.bl ?_|refine M.cs ?_ ?_<;>intro h|fail);all_goals first
   |(exfalso;simp at h;omega)
   |skip
  (exact M.n2 [some 0] (h8:=(by simp[zk,V.wk,V.Ak,zd,Ty.view,Tm.view,vy,Fm.view])))
 ·simp only[show((2:Int)=0)=False by simp,show((2:Int)=1)=False by simp,show((2:Int)=3)=False by simp,show((2:Int)=4)=False by simp,show((2:Int)=5)=False by simp,show((2:Int)=6)=False by simp,if_false,if_true,or_self,or_true,true_or,or_false,false_or] at efm;rw[efm];have a1:=ih e1 g (k-1) (by omega) (by omega) d9 hg (by omega);have f1:=bd n e1 g (by omega) hg;have k1:=Dk.DC n e1 g d9;generalize (Dk.fm n e1 g).1=x at*;generalize (Dk.fm n e1 g).2=e2 at*;have a2:=ih e2 g (k-1) (by omega) (by omega) k1 hg (by omega);have f2:=bd n e2 g (by omega) hg;generalize (Dk.fm n e2 g).1=y at*;generalize (Dk.fm n e2 g).2=e3 at*;have hw:=LS 3 x y (by omega) (by omega);refine M.F Tryz.func52 ?_;(repeat' first|refine M.gw ?_|refine M.cb (h9) [0] 0 ?_|refine M.cb (a1) [0] 0 ?_|refine M.cb (a2) [0] 0 ?_|refine M.c2 (hw) ?_|refine M.bl ?_|refine M.cs ?_ ?_<;>intro h|fail);all_goals first
   |(exfalso;simp at h;omega)
   |skip
  (exact M.n2 [some 0] (h8:=(by simp[zk,V.wk,V.Ak,zd,Ty.view,Tm.view,vy,Fm.view])))
 ·simp only[show((3:Int)=0)=False by simp,show((3:Int)=1)=False by simp,show((3:Int)=2)=False by simp,show((3:Int)=4)=False by simp,show((3:Int)=5)=False by simp,show((3:Int)=6)=False by simp,if_false,if_true,or_self,or_true,true_or,or_false,false_or] at efm;rw[efm];have ts:=Oj e1 d9;have ss:=Dk.type1 e1;have k1:=Dk.Bd 1 e1 d9;generalize (e1.type 1).1=s at*;generalize (e1.type 1).2=e2 at*;have gs:=zp hg (zj ss zo);have hlg:=HA g [s] (by simp;omega);have a1:=ih e2 (g++[s]) (k-1) (by omega) (by omega) k1 gs (by simp;omega);have f1:=bd n e2 (g++[s]) (by omega) gs;generalize (Dk.fm n e2 (g++[s])).1=x at*;generalize (Dk.fm n e2 (g++[s])).2=e3 at*;have hw:=Fy 4 s x (by have:=ss.2;omega) (by omega);refine M.F Tryz.func52 ?_;(repeat' first|refine M.gw ?_|refine M.cb (h9) [0] 0 ?_|refine M.cb (ts) [0] 0 ?_|refine M.c2 (hlg) ?_|refine M.cb (a1) [0] 0 ?_|refine M.c2 (hw) ?_|refine M.bl ?_|refine M.cs ?_ ?_<;>intro h|fail);all_goals first
   |(exfalso;simp at h;omega)
   |skip
  (exact M.n2 [some 0] (h8:=(by simp[zk,V.wk,V.Ak,zd,Ty.view,Tm.view,Be,Fm.view])))
 ·simp only[show((4:Int)=0)=False by simp,show((4:Int)=1)=False by simp,show((4:Int)=2)=False by simp,show((4:Int)=3)=False by simp,show((4:Int)=5)=False by simp,show((4:Int)=6)=False by simp,if_false,if_true,or_self,or_true,true_or,or_false,false_or] at efm;rw[efm];have ts:=Oj e1 d9;have ss:=Dk.type1 e1;have k1:=Dk.Bd 1 e1 d9;generalize (e1.type 1).1=s at*;generalize (e1.type 1).2=e2 at*;have gs:=zp hg (zj ss zo);have hlg:=HA g [s] (by simp;omega);have a1:=ih e2 (g++[s]) (k-1) (by omega) (by omega) k1 gs (by simp;omega);have f1:=bd n e2 (g++[s]) (by omega) gs;generalize (Dk.fm n e2 (g++[s])).1=x at*;generalize (Dk.fm n e2 (g++[s])).2=e3 at*;have hw:=Fy 4 s x (by have:=ss.2;omega) (by omega);refine M.F Tryz.func52 ?_;(repeat' first|refine M.gw ?_|refine M.cb (h9) [0] 0 ?_|refine M.cb (ts) [0] 0 ?_|refine M.c2 (hlg) ?_|refine M.cb (a1) [0] 0 ?_|refine M.c2 (hw) ?_|refine M.bl ?_|refine M.cs ?_ ?_<;>intro h|fail);all_goals first
   |(exfalso;simp at h;omega)
   |skip
  (exact M.n2 [some 0] (h8:=(by simp[zk,V.wk,V.Ak,zd,Ty.view,Tm.view,Be,Fm.view])))
 ·simp only[show((5:Int)=0)=False by simp,show((5:Int)=1)=False by simp,show((5:Int)=2)=False by simp,show((5:Int)=3)=False by simp,show((5:Int)=4)=False by simp,show((5:Int)=6)=False by simp,if_false,if_true,or_self,or_true,true_or,or_false,false_or] at efm;rw[efm];have ts:=Oj e1 d9;have ss:=Dk.type1 e1;have k1:=Dk.Bd 1 e1 d9;generalize (e1.type 1).1=s at*;generalize (e1.type 1).2=e2 at*;have gs:=zp hg (zj ss zo);have hlg:=HA g [s] (by simp;omega);have a1:=ih e2 (g++[s]) (k-1) (by omega) (by omega) k1 gs (by simp;omega);have f1:=bd n e2 (g++[s]) (by omega) gs;generalize (Dk.fm n e2 (g++[s])).1=x at*;generalize (Dk.fm n e2 (g++[s])).2=e3 at*;have hw:=Fy 5 s x (by have:=ss.2;omega) (by omega);refine M.F Tryz.func52 ?_;(repeat' first|refine M.gw ?_|refine M.cb (h9) [0] 0 ?_|refine M.cb (ts) [0] 0 ?_|refine M.c2 (hlg) ?_|refine M.cb (a1) [0] 0 ?_|refine M.c2 (hw) ?_|refine M.bl ?_|refine M.cs ?_ ?_<;>intro h|fail);all_goals first
   |(exfalso;simp at h;omega)
   |skip
  (exact M.n2 [some 0] (h8:=(by simp[zk,V.wk,V.Ak,zd,Ty.view,Tm.view,Be,Fm.view])))
 ·simp only[show((6:Int)=0)=False by simp,show((6:Int)=1)=False by simp,show((6:Int)=2)=False by simp,show((6:Int)=3)=False by simp,show((6:Int)=4)=False by simp,show((6:Int)=5)=False by simp,if_false,if_true,or_self,or_true,true_or,or_false,false_or] at efm;rw[efm];have ts:=So e1 d9;have ss0:=Dk.type0 e1;have ss:=zy ss0.1 ss0.2;have k1:=Dk.Bd 0 e1 d9;generalize (e1.type 0).1=s at*;generalize (e1.type 0).2=e2 at*;have h2:=vt e2 2 k1 (by omega);have hb2:=Dk.Bb e2 2 (by omega);have k2:=Dk.AA k1 2;generalize (e2.next 2).1=u at*;generalize (e2.next 2).2=e3 at*;have gs:=zp hg (zj ss zo);have hlg:=HA g [s] (by simp;omega);have a1:=ih e3 (g++[s]) (k-1) (by omega) (by omega) k2 gs (by simp;omega);have f1:=bd n e3 (g++[s]) (by omega) gs;generalize (Dk.fm n e3 (g++[s])).1=x at*;generalize (Dk.fm n e3 (g++[s])).2=e4 at*;have hw:=Fy (6+u) s x (by have:=ss.2;omega) (by omega);refine M.F Tryz.func52 ?_;(repeat' first|refine M.gw ?_|refine M.cb (h9) [0] 0 ?_|refine M.cb (ts) [0] 0 ?_|refine M.cb (h2) [0] 0 ?_|refine M.c2 (hlg) ?_|refine M.cb (a1) [0] 0 ?_|refine M.c2 (hw) ?_|refine M.bl ?_|refine M.cs ?_ ?_<;>intro h|fail);all_goals first
   |(exfalso;simp at h;omega)
   |skip
  (exact M.n2 [some 0] (h8:=(by simp[zk,V.wk,V.Ak,zd,Ty.view,Tm.view,Be,Fm.view])))
 ·simp only[show((7:Int)=0)=False by simp,show((7:Int)=1)=False by simp,show((7:Int)=2)=False by simp,show((7:Int)=3)=False by simp,show((7:Int)=4)=False by simp,show((7:Int)=5)=False by simp,show((7:Int)=6)=False by simp,if_false,if_true,or_self,or_true,true_or,or_false,false_or] at efm;rw[efm];obtain⟨x,d1,y,d2,e,fx,fy,h1,h2⟩:=eqc e1 g d9 hg (by omega);rw[e];have he:=FL x y (by omega) (by omega);refine M.F Tryz.func52 ?_;(repeat' first|refine M.gw ?_|refine M.cb (h9) [0] 0 ?_|refine M.c2 (vz) ?_|refine M.cb (h1) [0] 0 ?_|refine M.cb (h2) [0] 0 ?_|refine M.c2 (he) ?_|refine M.bl ?_|refine M.cs ?_ ?_<;>intro h|fail);all_goals first
   |(exfalso;simp at h;omega)
   |skip
  (exact M.n2 [some 0] (h8:=(by simp[zk,V.wk,V.Ak,zd,Ty.view,Tm.view,AM,Fm.view])))
 ·simp only[show((8:Int)=0)=False by simp,show((8:Int)=1)=False by simp,show((8:Int)=2)=False by simp,show((8:Int)=3)=False by simp,show((8:Int)=4)=False by simp,show((8:Int)=5)=False by simp,show((8:Int)=6)=False by simp,if_false,if_true,or_self,or_true,true_or,or_false,false_or] at efm;rw[efm];obtain⟨x,d1,y,d2,e,fx,fy,h1,h2⟩:=eqc e1 g d9 hg (by omega);rw[e];have he:=FL x y (by omega) (by omega);refine M.F Tryz.func52 ?_;(repeat' first|refine M.gw ?_|refine M.cb (h9) [0] 0 ?_|refine M.c2 (vz) ?_|refine M.cb (h1) [0] 0 ?_|refine M.cb (h2) [0] 0 ?_|refine M.c2 (he) ?_|refine M.bl ?_|refine M.cs ?_ ?_<;>intro h|fail);all_goals first
   |(exfalso;simp at h;omega)
   |skip
  (exact M.n2 [some 0] (h8:=(by simp[zk,V.wk,V.Ak,zd,Ty.view,Tm.view,AM,Fm.view])))
theorem SP(l:List Tm)(h:(l.map Tm.full).sum<1099511627776):PC E 73 [.s .tm l,.s .tm l] (.bool true):=by
 have hlen:=zh Tm.full Tm.Ac l;refine M.F Tryz.func73 ?_;(repeat' first|refine M.gw ?_|refine M.cs ?_ ?_<;>intro h|fail)
 ·exfalso;simp at h
 refine AW.range l.length (fun m=>True) (fun m=>([(0,.s .tm l),(1,.s .tm l),(11,.s .tm l),(12,.i l.length),(13,.i m)],⟨0,[]⟩))
  (by omega) (fun m=>rfl) (fun m=>rfl) rfl trivial (M.W []) ?_ ?_
 ·intro m hm _;have hs2:=ze Tm.full (List.getElem_mem hm);have hc:=Zzb l[m] (by omega);(repeat' first|refine M.gw ?_|refine M.c2 (hc) ?_|fail);exact⟨rfl,trivial,(M.W [])⟩
 ·intro _;(repeat' first|refine M.gw ?_|fail)
  rfl
theorem Zze:∀(n:Nat) (f:Fm),f.full<=n->n<1099511627776->PC E 70 [.agg f.view,.agg f.view] (.bool true):=by
 intro n;induction n with
 |zero=>intro f h;have:=f.Ac;omega
 |succ n ih=>
 intro f hsz hn;have hsz':=f.Af;have hlen:=zh Fm.full Fm.Ac f.args;have h1:=Zz8 f.ty (by omega);have h2:=SP f.terms (by omega);refine M.F Tryz.func70 ?_;(repeat' first|refine M.gw ?_|refine M.c2 (h1) ?_|refine M.c2 (h2) ?_|refine M.gs ?_ ?_<;>intro h|refine M.cs ?_ ?_<;>intro h|fail);all_goals first
  |(exfalso;simp at h;done)
  |skip
 refine AW.range f.args.length (fun m=>True) (fun m=>([(2,.ptr 0 0),(3,.ptr 1 0),(37,.s .fm f.args),(38,.i f.args.length),(39,.i m)],⟨2,[(0,.var f.view),(1,.var f.view)]⟩))
  (by omega) (fun m=>rfl) (fun m=>rfl) rfl trivial (M.W [some 0,some 1]) ?_ ?_
 ·intro m hm _;have hs2:=ze Fm.full (List.getElem_mem hm);have hc:=ih f.args[m] (by omega) (by omega);(repeat' first|refine M.gw ?_|refine M.c2 (hc) ?_|fail);exact⟨rfl,trivial,(M.W [some 0,some 1])⟩
 ·intro _;(repeat' first|refine M.gw ?_|fail)
  rfl
theorem Zwj(qs:List (Int×Ty))(ps:List Fm)(c:Fm)(hq:∀q∈qs,q.1=4\/q.1=6)(hb:(B9 ps c).kind≠4/\(B9 ps c).kind≠6)(h3:c.kind≠3)(hf:(DU qs (B9 ps c)).full<137438953472):
 PC E 62 [.agg (DU qs (B9 ps c)).view] (.Ax [.s .ty (qs.map (·.2)),.s .fm ps,.agg c.view]):=by
 have hl:=Vo qs (B9 ps c);have hl2:=RM ps c;have hcf:=LA ps c;have hco:=Pk c (by omega);refine M.F Tryz.func62 ?_;(repeat' first|refine M.gw ?_|fail);refine K.sq (AW.block (AW.loop (ι:={m:Nat // m<=qs.length})
  (fun m=>([(1,.ptr 0 0),(4,.ptr 1 0),(5,.slice (.own 2) (.t .ty ((qs.take m.1).map (·.2))))],⟨3,[(0,.var (DU (qs.drop m.1) (B9 ps c)).view),(1,.var [.i 0,.i 0,.slice .nil (.t .ty []),.slice .nil (.t .tm []),.slice .nil (.t .fm [])]),(2,.row)]⟩))
  (fun m=>qs.length-m.1) ⟨0,Nat.zero_le _⟩ (M.W [some 0,some 1,none]) fun⟨m,hm⟩=> ?_))
 by_cases hlt:m<qs.length
 ·have e:=RO (b:=B9 ps c) hlt;have hx:=Uj (b:=B9 ps c) hlt;have hcx:=JR _ qs[m].2 (Nat.le_refl _) (by omega);have et:(qs.take (m+1)).map (·.2)=(qs.take m).map (·.2)++[qs[m].2]:=yn (fun q:Int×Ty=>q.2) qs m hlt;have hln:((qs.take m).map (·.2)).length<=qs.length:=by simp;omega
  rcases hq _ (List.getElem_mem hlt) with h4|h4
  ·rw[h4] at e;simp only[e];(repeat' first|refine M.gw ?_|fail);refine AW.block ?_;(repeat' first|refine M.gw ?_|refine M.c2 (hcx) ?_|fail);refine⟨⟨m+1,by omega⟩,by show qs.length-(m+1)<qs.length-m;omega,?_⟩;simp only[et];exact(M.W [some 0,some 1,some 3])
  ·rw[h4] at e;simp only[e];(repeat' first|refine M.gw ?_|fail);refine AW.block ?_;(repeat' first|refine M.gw ?_|refine M.c2 (hcx) ?_|fail);refine⟨⟨m+1,by omega⟩,by show qs.length-(m+1)<qs.length-m;omega,?_⟩;simp only[et];exact(M.W [some 0,some 1,some 3])
 ·obtain rfl:m=qs.length:=by omega
  simp only[List.drop_length,List.take_length,show DU [] (B9 ps c)=B9 ps c from rfl];(repeat' first|refine M.gw ?_|refine M.gs ?_ ?_<;>intro h|refine M.cs ?_ ?_<;>intro h|fail);all_goals first
   |(exfalso;simp at h;first|exact hb.1 h|exact hb.2 h)
   |skip
  refine K.sq (AW.block (AW.loop (ι:={m:Nat // m<=ps.length})
   (fun m=>([(1,.ptr 0 0),(4,.ptr 1 0),(5,.slice (.own 2) (.t .ty (qs.map (·.2)))),(6,.slice (.own 3) (.t .fm (ps.take m.1)))],⟨4,[(0,.var (B9 (ps.drop m.1) c).view),(1,.var [.i 0,.i 0,.slice .nil (.t .ty []),.slice .nil (.t .tm []),.slice .nil (.t .fm [])]),(2,.row),(3,.row)]⟩))
   (fun m=>ps.length-m.1) ⟨0,Nat.zero_le _⟩ (M.W [some 0,some 1,some 2,none]) fun⟨m,hm⟩=> ?_))
  by_cases hlt:m<ps.length
  ·have e:=V3 (c:=c) hlt;have hx:=RL (c:=c) hlt;have hcx:=Pk ps[m] (by omega);simp only[e];(repeat' first|refine M.gw ?_|fail);refine AW.block ?_;(repeat' first|refine M.gw ?_|refine M.c2 (hcx) ?_|fail);refine⟨⟨m+1,by omega⟩,by show ps.length-(m+1)<ps.length-m;omega,?_⟩;exact(M.W [some 0,some 1,some 2,some 4] (hf:=(by(repeat'(first|exact trivial|refine And.intro ?_ ?_|refine⟨_,U,_,U,?_⟩|exact An.refl _|exact An.of_eq (by simp[Al.Aw,List.take_append_getElem])));done)))
  ·obtain rfl:m=ps.length:=by omega
   simp only[List.drop_length,List.take_length,show B9 [] c=c from rfl];(repeat' first|refine M.gw ?_|refine M.c2 (hco) ?_|refine M.cs ?_ ?_<;>intro h|fail)
   ·exfalso;simp at h;exact h3 h
   ·rfl
def D7(b:Bool)(l:List (Int×Int)):Bool:=b&&l.all fun p=>decide (p.1<=268435456)
theorem Zk6(b:Bool)(l l':List (Int×Int)):D7 (D7 b l) l'=D7 b (l++l'):=by simp[D7,Bool.and_assoc]
theorem UH(b:Bool):D7 b []=b:=by simp[D7]
theorem Yea(b:Bool)(i bl:Int):AC E 166 [.i i,.i bl,.ptr 0 0] ⟨1,[(0,.var [.bool b])]⟩ (.Ax []) ⟨1,[(0,.var [.bool (D7 b [(i,bl)])])]⟩:=by
 refine M.F Tryz.func166 ?_;(repeat' first|refine M.gw ?_|refine M.gs ?_ ?_<;>intro h|fail)
 ·(exact M.n2 [some 0] (h6:=(by(repeat'(first|exact trivial|refine And.intro ?_ ?_|refine⟨_,U,_,U,_,U,?_⟩|exact An.of_eq (by simp[Al.Aw,D7,h])));done)) (h8:=(by simp[zk,V.wk,V.Ak,zd,Ty.view,Tm.view,D7,h])))
 ·(exact M.n2 [some 0] (h6:=(by(repeat'(first|exact trivial|refine And.intro ?_ ?_|refine⟨_,U,_,U,_,U,?_⟩|exact An.of_eq (by simp[Al.Aw,D7,h])));done)) (h8:=(by simp[zk,V.wk,V.Ak,zd,Ty.view,Tm.view,D7,h])))
theorem Zrs:∀(n:Nat) (t:Tm) (b:Bool) (bl:Int),t.full<=n->n<1099511627776->0<=bl->bl+n<1099511627776->AC E 226 [.agg t.view,.i bl,.ptr 0 0,.ptr 1 0] ⟨3,[(0,.var [.fn (.func 166) [] [.ptr 2 0]]),(1,.var [.fn (.func 226) [] [.ptr 0 0,.ptr 1 0]]),(2,.var [.bool b])]⟩ (.Ax [])
 ⟨3,[(0,.var [.fn (.func 166) [] [.ptr 2 0]]),(1,.var [.fn (.func 226) [] [.ptr 0 0,.ptr 1 0]]),(2,.var [.bool (D7 b (t.vars bl))])]⟩:=by
 intro n;induction n with
 |zero=>intro t b bl h;have:=t.Ac;omega
 |succ n ih=>
 intro t b bl hsz hb hbl hbn;have hsz':=Tm.Af t;have hlen:=zh Tm.full Tm.Ac t.args;have hv:=Tm.AG bl t;refine M.F Tryz.func226 ?_;(repeat' first|refine M.gw ?_|refine M.cv (Yea _ _ _) [2] 0 ?_|refine M.cs ?_ ?_<;>intro h|fail);all_goals
  have hup:up t.kind bl<=bl+1:=by simp only[up];split<;>omega
  have hup0:0<=up t.kind bl:=by simp only[up];split<;>omega
  refine AW.range t.args.length (fun m=>True)
   (fun m=>([(1,.i (up t.kind bl)),(3,.ptr 1 0),(22,.s .tm t.args),(23,.i t.args.length),(24,.i m)],⟨4,[(0,.var [.fn (.func 166) [] [.ptr 2 0]]),(1,.var [.fn (.func 226) [] [.ptr 0 0,.ptr 1 0]]),(2,.var [.bool (D7 b ((if t.kind=1 then [(t.index,bl)] else [])++(t.args.take m).flatMap (Tm.vars (up t.kind bl))))]),(3,.var t.view)]⟩))
   (by omega) (fun m=>rfl) (fun m=>rfl) rfl trivial ?_ ?_ ?_
  ·simp_all only[beq_iff_eq,beq_eq_false_iff_ne,ne_eq];exact(M.W [some 0,some 1,some 2,some 3] (hf:=(by(repeat'(first|exact trivial|refine And.intro ?_ ?_|refine⟨_,U,_,U,?_⟩|exact An.refl _|exact An.of_eq (by simp[Al.Aw,up, *,UH])));done)) (he:=(by(repeat'(first|exact trivial|refine And.intro ?_ ?_|refine⟨_,U,_,U,_,U,?_⟩|exact An.refl _|exact An.of_eq (by simp[Al.Aw,up, *,UH])));done)))
  ·intro m hm hP;have hs2:=ze Tm.full (List.getElem_mem hm);have hc:=ih t.args[m] (D7 b ((if t.kind=1 then [(t.index,bl)] else [])++(t.args.take m).flatMap (Tm.vars (up t.kind bl)))) (up t.kind bl) (by omega) (by omega) hup0 (by omega);(repeat' first|refine M.gw ?_|refine M.cv (hc) [0,1,2] 0 ?_|fail);refine⟨rfl,trivial,?_⟩;exact(M.W [some 0,some 1,some 2,some 3] (he:=(by(repeat'(first|exact trivial|refine And.intro ?_ ?_|refine⟨_,U,_,U,_,U,?_⟩|exact An.refl _|exact An.of_eq (by simp[Al.Aw,Zk6,uq _ _ _ hm])));done)))
  ·intro hP;skip
   (exact M.n2 [some 0,some 1,some 2] (h6:=(by(repeat'(first|exact trivial|refine And.intro ?_ ?_|refine⟨_,U,_,U,_,U,?_⟩|exact An.refl _|exact An.of_eq (by simp[Al.Aw,hv])));done)) (h8:=(by simp[zk,V.wk,V.Ak,zd,Ty.view,Tm.view,hv])))
theorem Zur(t:Tm)(b:Bool)(ht:t.full<1099511627776):AC E 165 [.agg t.view,.fn (.func 166) [] [.ptr 0 0]] ⟨1,[(0,.var [.bool b])]⟩ (.Ax []) ⟨1,[(0,.var [.bool (D7 b (t.vars 0))])]⟩:=by
 have hc:=Zrs _ t b 0 (Nat.le_refl _) (by omega) (by omega) (by omega);refine M.F Tryz.func165 ?_;(repeat' first|refine M.gw ?_|refine M.cv (hc) [2,3,0] 0 ?_|fail)
 (exact M.n2 [some 0] (h8:=(by simp[zk,V.wk,V.Ak,zd,Ty.view,Tm.view,D7])))
theorem Ycc(b:Bool)(t:Tm)(bl:Int)(ht:t.full<1099511627776):AC E 164 [.agg t.view,.i bl,.ptr 0 0] ⟨1,[(0,.var [.bool b])]⟩ (.Ax []) ⟨1,[(0,.var [.bool (Dp Tm.AK b [(t,bl)])])]⟩:=by
 have hc:=Zur t b ht;refine M.F Tryz.func164 ?_;(repeat' first|refine M.gw ?_|refine M.cv (hc) [0] 0 ?_|fail)
 (exact M.n2 [some 0] (h6:=(by(repeat'(first|exact trivial|refine And.intro ?_ ?_|refine⟨_,U,_,U,_,U,?_⟩|exact An.of_eq (by simp[Al.Aw,J5,D7,Tm.AK])));done)) (h8:=(by simp[zk,V.wk,V.Ak,zd,Ty.view,Tm.view,J5,D7,Tm.AK])))
theorem Ydx(b:Bool)(t:Tm)(bl:Int)(ht:t.full<1099511627776):AC E 205 [.agg t.view,.i bl,.ptr 0 0] ⟨1,[(0,.var [.bool b])]⟩ (.Ax []) ⟨1,[(0,.var [.bool (Dp Tm.near b [(t,bl)])])]⟩:=by
 have hc:=ON t ht;refine M.F Tryz.func205 ?_;(repeat' first|refine M.gw ?_|refine M.c2 (hc) ?_|refine M.gs ?_ ?_<;>intro h|fail)
 ·(exact M.n2 [some 0] (h6:=(by(repeat'(first|exact trivial|refine And.intro ?_ ?_|refine⟨_,U,_,U,_,U,?_⟩|exact An.of_eq (by simp[Al.Aw,J5,h])));done)) (h8:=(by simp[zk,V.wk,V.Ak,zd,Ty.view,Tm.view,J5,h])))
 ·(exact M.n2 [some 0] (h6:=(by(repeat'(first|exact trivial|refine And.intro ?_ ?_|refine⟨_,U,_,U,_,U,?_⟩|exact An.of_eq (by simp[Al.Aw,J5,h])));done)) (h8:=(by simp[zk,V.wk,V.Ak,zd,Ty.view,Tm.view,J5,h])))
theorem Zxv(at_ c:Int)(t:Tm)(bl:Int)(ht:t.full<549755813888)(hc0:0<=c/\c<549755813888)(ha:0<=at_/\at_<549755813888)(hb:0<=bl/\bl<549755813888)(hix:∀p∈t.vars 0,0<=p.1/\p.1<1099511627776):
 AC E 236 [.agg t.view,.i bl,.ptr 0 0,.ptr 1 0] ⟨2,[(0,.var [.i c]),(1,.var [.i at_])]⟩ (.Ax []) ⟨2,[(0,.var [.i (c+wc at_ [(t,bl)])]),(1,.var [.i at_])]⟩:=by
 have hc:=UI t (at_+bl) ht hix;have h1:=QU (at_+bl) (t.vars 0);have h2:=t.CE 0;have h3:=t.Aj;refine M.F Tryz.func236 ?_;(repeat' first|refine M.gw ?_|refine M.c2 (hc) ?_|fail)
 (exact M.n2 [some 0,some 1] (h8:=(by simp[zk,V.wk,V.Ak,zd,Ty.view,Tm.view,wc])))
theorem Zr7:∀(n:Nat) (f:Fm) (b:Bool) (bl:Int),f.full<=n->n<549755813888->0<=bl->bl+n<549755813888->AC E 163 [.agg f.view,.i bl,.fn (.func 164) [] [.ptr 0 0]] ⟨1,[(0,.var [.bool b])]⟩ (.Ax []) ⟨1,[(0,.var [.bool (Dp Tm.AK b (f.AU bl))])]⟩:=by
 intro n;induction n with
 |zero=>intro f;intros;have:=f.Ac;omega
 |succ n ih=>
 intro f b bl hsz hn hbl hbn;have hsz':=f.Af;have hlen:=zh Fm.full Fm.Ac f.args;have hlen2:=zh Tm.full Tm.Ac f.terms;have htm:=f.AR bl;have hq:=vj f.kind;refine M.F Tryz.func163 ?_;(repeat' first|refine M.gw ?_|fail);refine AW.range f.terms.length (fun m=>True)
  (fun m=>([(1,.i bl),(2,.fn (.func 164) [] [.ptr 0 0]),(3,.ptr 1 0),(11,.s .tm f.terms),(12,.i f.terms.length),(13,.i m)],⟨2,[(0,.var [.bool (Dp Tm.AK b ((f.terms.take m).map (fun t=>(t,bl))))]),(1,.var f.view)]⟩))
  (by omega) (fun m=>rfl) (fun m=>rfl) rfl trivial ?_ ?_ ?_
 ·exact (M.W [some 0,some 1] (he:=(by(repeat'(first|exact trivial|refine And.intro ?_ ?_|refine⟨_,U,_,U,_,U,?_⟩|exact An.refl _|exact An.of_eq (by simp[Al.Aw,JO])));done)))
 ·intro m hm _;have hs2:=ze Tm.full (List.getElem_mem hm);have hc:=Ycc (Dp Tm.AK b ((f.terms.take m).map (fun t=>(t,bl)))) f.terms[m] bl (by omega);(repeat' first|refine M.gw ?_|refine M.cv (hc) [0] 0 ?_|fail);refine⟨rfl,trivial,?_⟩;exact(M.W [some 0,some 1] (he:=(by(repeat'(first|exact trivial|refine And.intro ?_ ?_|refine⟨_,U,_,U,_,U,?_⟩|exact An.refl _|exact An.of_eq (by simp[Al.Aw,N1,yn _ _ _ hm])));done)))
 ·intro _;simp only[List.take_length];(repeat' first|refine M.gw ?_|refine M.c2 (hq) ?_|refine M.cs ?_ ?_<;>intro h|fail);all_goals
   have hup:AB f.kind bl<=bl+1:=by simp only[AB];split<;>omega
   have hup0:0<=AB f.kind bl:=by simp only[AB];split<;>omega
   refine AW.range f.args.length (fun m=>True)
    (fun m=>([(1,.i (AB f.kind bl)),(2,.fn (.func 164) [] [.ptr 0 0]),(3,.ptr 1 0),(28,.s .fm f.args),(29,.i f.args.length),(30,.i m)],⟨2,[(0,.var [.bool (Dp Tm.AK b (f.terms.map (fun t=>(t,bl))++(f.args.take m).flatMap (Fm.AU (AB f.kind bl))))]),(1,.var f.view)]⟩))
    (by omega) (fun m=>rfl) (fun m=>rfl) rfl trivial ?_ ?_ ?_
   ·exact (M.W [some 0,some 1] (hf:=(by(repeat'(first|exact trivial|refine And.intro ?_ ?_|refine⟨_,U,_,U,?_⟩|exact An.refl _|exact An.of_eq (by simp[Al.Aw,AB,h,JO])));done)) (he:=(by(repeat'(first|exact trivial|refine And.intro ?_ ?_|refine⟨_,U,_,U,_,U,?_⟩|exact An.refl _|exact An.of_eq (by simp[Al.Aw,AB,h,JO])));done)))
   ·intro m hm _;have hs2:=ze Fm.full (List.getElem_mem hm);have hc:=ih f.args[m] (Dp Tm.AK b (f.terms.map (fun t=>(t,bl))++(f.args.take m).flatMap (Fm.AU (AB f.kind bl)))) (AB f.kind bl) (by omega) (by omega) hup0 (by omega);(repeat' first|refine M.gw ?_|refine M.cv (hc) [0] 0 ?_|fail);refine⟨rfl,trivial,?_⟩;exact(M.W [some 0,some 1] (he:=(by(repeat'(first|exact trivial|refine And.intro ?_ ?_|refine⟨_,U,_,U,_,U,?_⟩|exact An.refl _|exact An.of_eq (by simp[Al.Aw,N1,uq _ _ _ hm])));done)))
   ·intro _;skip
    (exact M.n2 [some 0] (h6:=(by(repeat'(first|exact trivial|refine And.intro ?_ ?_|refine⟨_,U,_,U,_,U,?_⟩|exact An.of_eq (by simp[Al.Aw,htm])));done)) (h8:=(by simp[zk,V.wk,V.Ak,zd,Ty.view,Tm.view,htm])))
theorem Zst:∀(n:Nat) (f:Fm) (b:Bool) (bl:Int),f.full<=n->n<549755813888->0<=bl->bl+n<549755813888->AC E 163 [.agg f.view,.i bl,.fn (.func 205) [] [.ptr 0 0]] ⟨1,[(0,.var [.bool b])]⟩ (.Ax []) ⟨1,[(0,.var [.bool (Dp Tm.near b (f.AU bl))])]⟩:=by
 intro n;induction n with
 |zero=>intro f;intros;have:=f.Ac;omega
 |succ n ih=>
 intro f b bl hsz hn hbl hbn;have hsz':=f.Af;have hlen:=zh Fm.full Fm.Ac f.args;have hlen2:=zh Tm.full Tm.Ac f.terms;have htm:=f.AR bl;have hq:=vj f.kind;refine M.F Tryz.func163 ?_;(repeat' first|refine M.gw ?_|fail);refine AW.range f.terms.length (fun m=>True)
  (fun m=>([(1,.i bl),(2,.fn (.func 205) [] [.ptr 0 0]),(3,.ptr 1 0),(11,.s .tm f.terms),(12,.i f.terms.length),(13,.i m)],⟨2,[(0,.var [.bool (Dp Tm.near b ((f.terms.take m).map (fun t=>(t,bl))))]),(1,.var f.view)]⟩))
  (by omega) (fun m=>rfl) (fun m=>rfl) rfl trivial ?_ ?_ ?_
 ·exact (M.W [some 0,some 1] (he:=(by(repeat'(first|exact trivial|refine And.intro ?_ ?_|refine⟨_,U,_,U,_,U,?_⟩|exact An.refl _|exact An.of_eq (by simp[Al.Aw,JO])));done)))
 ·intro m hm _;have hs2:=ze Tm.full (List.getElem_mem hm);have hc:=Ydx (Dp Tm.near b ((f.terms.take m).map (fun t=>(t,bl)))) f.terms[m] bl (by omega);(repeat' first|refine M.gw ?_|refine M.cv (hc) [0] 0 ?_|fail);refine⟨rfl,trivial,?_⟩;exact(M.W [some 0,some 1] (he:=(by(repeat'(first|exact trivial|refine And.intro ?_ ?_|refine⟨_,U,_,U,_,U,?_⟩|exact An.refl _|exact An.of_eq (by simp[Al.Aw,N1,yn _ _ _ hm])));done)))
 ·intro _;simp only[List.take_length];(repeat' first|refine M.gw ?_|refine M.c2 (hq) ?_|refine M.cs ?_ ?_<;>intro h|fail);all_goals
   have hup:AB f.kind bl<=bl+1:=by simp only[AB];split<;>omega
   have hup0:0<=AB f.kind bl:=by simp only[AB];split<;>omega
   refine AW.range f.args.length (fun m=>True)
    (fun m=>([(1,.i (AB f.kind bl)),(2,.fn (.func 205) [] [.ptr 0 0]),(3,.ptr 1 0),(28,.s .fm f.args),(29,.i f.args.length),(30,.i m)],⟨2,[(0,.var [.bool (Dp Tm.near b (f.terms.map (fun t=>(t,bl))++(f.args.take m).flatMap (Fm.AU (AB f.kind bl))))]),(1,.var f.view)]⟩))
    (by omega) (fun m=>rfl) (fun m=>rfl) rfl trivial ?_ ?_ ?_
   ·exact (M.W [some 0,some 1] (hf:=(by(repeat'(first|exact trivial|refine And.intro ?_ ?_|refine⟨_,U,_,U,?_⟩|exact An.refl _|exact An.of_eq (by simp[Al.Aw,AB,h,JO])));done)) (he:=(by(repeat'(first|exact trivial|refine And.intro ?_ ?_|refine⟨_,U,_,U,_,U,?_⟩|exact An.refl _|exact An.of_eq (by simp[Al.Aw,AB,h,JO])));done)))
   ·intro m hm _;have hs2:=ze Fm.full (List.getElem_mem hm);have hc:=ih f.args[m] (Dp Tm.near b (f.terms.map (fun t=>(t,bl))++(f.args.take m).flatMap (Fm.AU (AB f.kind bl)))) (AB f.kind bl) (by omega) (by omega) hup0 (by omega);(repeat' first|refine M.gw ?_|refine M.cv (hc) [0] 0 ?_|fail);refine⟨rfl,trivial,?_⟩;exact(M.W [some 0,some 1] (he:=(by(repeat'(first|exact trivial|refine And.intro ?_ ?_|refine⟨_,U,_,U,_,U,?_⟩|exact An.refl _|exact An.of_eq (by simp[Al.Aw,N1,uq _ _ _ hm])));done)))
   ·intro _;skip
    (exact M.n2 [some 0] (h6:=(by(repeat'(first|exact trivial|refine And.intro ?_ ?_|refine⟨_,U,_,U,_,U,?_⟩|exact An.of_eq (by simp[Al.Aw,htm])));done)) (h8:=(by simp[zk,V.wk,V.Ak,zd,Ty.view,Tm.view,htm])))
theorem Zol(at_ C:Int)(ha:0<=at_/\at_<549755813888)(hC:C<549755813888):∀(n:Nat) (f:Fm) (c:Int) (bl:Int),f.full<=n->n<549755813888->0<=bl->bl+n<549755813888->0<=c->c+f.size<=C->(∀p∈f.AU bl,∀q∈p.1.vars 0,0<=q.1/\q.1<1099511627776)->AC E 163 [.agg f.view,.i bl,.fn (.func 236) [] [.ptr 0 0,.ptr 1 0]] ⟨2,[(0,.var [.i c]),(1,.var [.i at_])]⟩ (.Ax []) ⟨2,[(0,.var [.i (c+wc at_ (f.AU bl))]),(1,.var [.i at_])]⟩:=by
 intro n;induction n with
 |zero=>intro f;intros;have:=f.Ac;omega
 |succ n ih=>
 intro f c bl hsz hn hbl hbn hc0 hcC hix;have hsz':=f.Af;have hlen:=zh Fm.full Fm.Ac f.args;have hlen2:=zh Tm.full Tm.Ac f.terms;have htm:=f.AR bl;have hq:=vj f.kind;refine M.F Tryz.func163 ?_;(repeat' first|refine M.gw ?_|fail);refine AW.range f.terms.length (fun m=>True)
  (fun m=>([(1,.i bl),(2,.fn (.func 236) [] [.ptr 0 0,.ptr 1 0]),(3,.ptr 2 0),(11,.s .tm f.terms),(12,.i f.terms.length),(13,.i m)],⟨3,[(0,.var [.i (c+wc at_ ((f.terms.take m).map (fun t=>(t,bl))))]),(1,.var [.i at_]),(2,.var f.view)]⟩))
  (by omega) (fun m=>rfl) (fun m=>rfl) rfl trivial ?_ ?_ ?_
 ·exact (M.W [some 0,some 1,some 2] (he:=(by(repeat'(first|exact trivial|refine And.intro ?_ ?_|refine⟨_,U,_,U,_,U,?_⟩|exact An.refl _|exact An.of_eq (by simp[Al.Aw,wc])));done)))
 ·intro m hm _;have hs2:=ze Tm.full (List.getElem_mem hm);have hle1:=Je at_ ((f.terms.take m).map (fun t=>(t,bl)));have hle2:(((f.terms.take m).map (fun t=>(t,bl))).map fun p:Tm×Int=>p.1.size).sum<=f.size:=Yce f bl m;have hc:=Zxv at_ (c+wc at_ ((f.terms.take m).map (fun t=>(t,bl)))) f.terms[m] bl (by omega) (by omega) ha (by omega) (fun p hp=>hix _ (by rw[htm];exact List.mem_append_left _ (List.mem_map.2 ⟨_,List.getElem_mem hm,rfl⟩)) p hp);(repeat' first|refine M.gw ?_|refine M.cv (hc) [0,1] 0 ?_|fail);refine⟨rfl,trivial,?_⟩;exact(M.W [some 0,some 1,some 2] (he:=(by(repeat'(first|exact trivial|refine And.intro ?_ ?_|refine⟨_,U,_,U,_,U,?_⟩|exact An.refl _|exact An.of_eq (by simp[Al.Aw,yz,Int.natCast_add,Int.add_assoc,yn _ _ _ hm])));done)))
 ·intro _;simp only[List.take_length];(repeat' first|refine M.gw ?_|refine M.c2 (hq) ?_|refine M.cs ?_ ?_<;>intro h|fail);all_goals
   have hup:AB f.kind bl<=bl+1:=by simp only[AB];split<;>omega
   have hup0:0<=AB f.kind bl:=by simp only[AB];split<;>omega
   refine AW.range f.args.length (fun m=>True)
    (fun m=>([(1,.i (AB f.kind bl)),(2,.fn (.func 236) [] [.ptr 0 0,.ptr 1 0]),(3,.ptr 2 0),(28,.s .fm f.args),(29,.i f.args.length),(30,.i m)],⟨3,[(0,.var [.i (c+wc at_ (f.terms.map (fun t=>(t,bl))++(f.args.take m).flatMap (Fm.AU (AB f.kind bl))))]),(1,.var [.i at_]),(2,.var f.view)]⟩))
    (by omega) (fun m=>rfl) (fun m=>rfl) rfl trivial ?_ ?_ ?_
   ·exact (M.W [some 0,some 1,some 2] (hf:=(by(repeat'(first|exact trivial|refine And.intro ?_ ?_|refine⟨_,U,_,U,?_⟩|exact An.refl _|exact An.of_eq (by simp[Al.Aw,AB,h,wc])));done)) (he:=(by(repeat'(first|exact trivial|refine And.intro ?_ ?_|refine⟨_,U,_,U,_,U,?_⟩|exact An.refl _|exact An.of_eq (by simp[Al.Aw,AB,h,wc])));done)))
   ·intro m hm _;have hs2:=ze Fm.full (List.getElem_mem hm);have hle1:=Je at_ (f.terms.map (fun t=>(t,bl))++(f.args.take m).flatMap (Fm.AU (AB f.kind bl)));have hle2:((f.terms.map (fun t=>(t,bl))++(f.args.take m).flatMap (Fm.AU (AB f.kind bl))).map fun p:Tm×Int=>p.1.size).sum+(f.args[m]).size<=f.size:=Yd0 f bl m hm;have hc:=ih f.args[m] (c+wc at_ (f.terms.map (fun t=>(t,bl))++(f.args.take m).flatMap (Fm.AU (AB f.kind bl)))) (AB f.kind bl) (by omega) (by omega) hup0 (by omega) (by omega) (by omega) (fun p hp=>hix p (by rw[htm];exact List.mem_append_right _ (List.mem_flatMap.2 ⟨_,List.getElem_mem hm,hp⟩)));(repeat' first|refine M.gw ?_|refine M.cv (hc) [0,1] 0 ?_|fail);refine⟨rfl,trivial,?_⟩;exact(M.W [some 0,some 1,some 2] (he:=(by(repeat'(first|exact trivial|refine And.intro ?_ ?_|refine⟨_,U,_,U,_,U,?_⟩|exact An.refl _|exact An.of_eq (by simp[Al.Aw,yz,Int.natCast_add,Int.add_assoc,uq _ _ _ hm])));done)))
   ·intro _;skip
    (exact M.n2 [some 0,some 1] (h6:=(by(repeat'(first|exact trivial|refine And.intro ?_ ?_|refine⟨_,U,_,U,_,U,?_⟩|exact An.refl _|exact An.of_eq (by simp[Al.Aw,htm])));done)) (h8:=(by simp[zk,V.wk,V.Ak,zd,Ty.view,Tm.view,htm])))
theorem U5(f:Fm)(hf:f.full<274877906944):PC E 99 [.agg f.view] (.bool f.AK):=by
 have hc:=Zr7 _ f true 0 (Nat.le_refl _) (by omega) (by omega) (by omega);refine M.F Tryz.func99 ?_;(repeat' first|refine M.gw ?_|refine M.cv (hc) [1] 0 ?_|fail);simp[zk,V.wk,V.Ak,Dp,Fm.AK]
theorem Zzy(f:Fm)(hf:f.full<274877906944):PC E 133 [.agg f.view] (.bool f.near):=by
 have hc:=Zst _ f true 0 (Nat.le_refl _) (by omega) (by omega) (by omega);refine M.F Tryz.func133 ?_;(repeat' first|refine M.gw ?_|refine M.cv (hc) [1] 0 ?_|fail);simp[zk,V.wk,V.Ak,Dp,Fm.near]
theorem Zvh(f:Fm)(at_:Int)(ha:0<=at_/\at_<549755813888)(hf:f.full<274877906944)(hix:∀p∈f.AU 0,∀q∈p.1.vars 0,0<=q.1/\q.1<1099511627776):PC E 197 [.agg f.view,.i at_] (.i (wc at_ (f.AU 0))):=by
 have hle:=f.Aj;have hc:=Zol at_ (f.size) ha (by omega) _ f 0 0 (Nat.le_refl _) (by omega) (by omega) (by omega) (by omega) (by omega) hix;refine M.F Tryz.func197 ?_;(repeat' first|refine M.gw ?_|refine M.cv (hc) [2,1] 0 ?_|fail);simp[zk,V.wk,V.Ak]
theorem Yee(at_:Int)(s:Tm)(hat:0<=at_/\at_<274877906944)(hs:s.full<274877906944)(hsi:∀p∈s.vars 0,0<=p.1/\p.1<549755813888)(t:Tm)(bl:Int)(ht:t.full<274877906944)(hb:0<=bl/\bl<274877906944)(hix:∀p∈t.vars 0,0<=p.1/\p.1<549755813888):
 AC E 238 [.agg t.view,.i bl,.ptr 0 0,.ptr 1 0] ⟨2,[(0,.var [.i at_]),(1,.var s.view)]⟩ (.agg (t.re (xm (at_+bl) s) 0).view) ⟨2,[(0,.var [.i at_]),(1,.var s.view)]⟩:=by
 have hc:=SE t (at_+bl) s (by omega) hs hsi ht hix;refine M.F Tryz.func238 ?_;(repeat' first|refine M.gw ?_|refine M.c2 (hc) ?_|fail)
 (exact M.n2 [some 0,some 1] (h8:=(by simp[zk,V.wk,V.Ak,zd,Ty.view,Tm.view,hc])))
theorem Ydr(at_:Int)(s:Tm)(hat:0<=at_/\at_<274877906944)(hs:s.full<274877906944)(hsi:∀p∈s.vars 0,0<=p.1/\p.1<549755813888):∀(n:Nat) (f:Fm) (bl:Int),f.full<=n->n<274877906944->0<=bl->bl+n<274877906944->(∀p∈f.AU bl,∀q∈p.1.vars 0,0<=q.1/\q.1<549755813888)->
 AC E 189 [.agg f.view,.i bl,.fn (.func 238) [] [.ptr 0 0,.ptr 1 0]] ⟨2,[(0,.var [.i at_]),(1,.var s.view)]⟩ (.agg (f.re (fun b t=>t.re (xm (at_+b) s) 0) bl).view) ⟨2,[(0,.var [.i at_]),(1,.var s.view)]⟩:=by
 intro n;induction n with
 |zero=>intro f bl h;intros;have:=f.Ac;omega
 |succ n ih=>
 intro f bl hsz hb hbl hbn hix;have hsz':=f.Af;have hlen:=zh Fm.full Fm.Ac f.args;have hlen2:=zh Tm.full Tm.Ac f.terms;have hty:=JR _ f.ty (Nat.le_refl _) (by omega);have hq:=vj f.kind;have hre:=Fm.Bn (fun b t=>t.re (xm (at_+b) s) 0) bl f;have htm:=f.AR bl;refine M.F Tryz.func189 ?_;(repeat' first|refine M.gw ?_|refine M.c2 (hty) ?_|fail);refine AW.range f.terms.length (fun m=>True)
  (fun m=>([(1,.i bl),(2,.fn (.func 238) [] [.ptr 0 0,.ptr 1 0]),(3,.ptr 2 0),(6,.ptr 3 0),(7,.ptr 4 0),(19,.s .tm f.terms),(20,.i f.terms.length),(21,.i m)],⟨6,[(0,.var [.i at_]),(1,.var s.view),(2,.var f.view),(3,.var [.i 0,.i 0,.slice .nil (.t .ty []),.slice .nil (.t .tm []),.slice .nil (.t .fm [])]),(4,.var [.i f.kind,.i f.ty.kind,.s .ty f.ty.args,.slice (.own 5) (.t .tm ((f.terms.take m).map ((fun b t=>t.re (xm (at_+b) s) 0) bl))),.slice .nil (.t .fm [])]),(5,.row)]⟩))
  (by omega) (fun m=>rfl) (fun m=>rfl) rfl trivial (M.W [some 0,some 1,some 2,some 3,some 4,none]) ?_ ?_
 ·intro m hm _;have hs2:=ze Tm.full (List.getElem_mem hm);have hc:=Yee at_ s hat hs hsi f.terms[m] bl (by omega) (by omega) (fun p hp=>hix _ (by rw[htm];exact List.mem_append_left _ (List.mem_map.2 ⟨_,List.getElem_mem hm,rfl⟩)) p hp);(repeat' first|refine M.gw ?_|refine M.cv (hc) [0,1] 0 ?_|fail);exact⟨rfl,trivial,(M.W [some 0,some 1,some 2,some 3,some 4,some 7] (he:=(by(repeat'(first|exact trivial|exact Or.inr ⟨_,U,rfl⟩|refine And.intro ?_ ?_|refine⟨_,U,_,U,_,U,?_⟩|exact An.refl _|exact An.of_eq (by simp[Al.Aw,yn _ _ _ hm])));done)))⟩
 ·intro _;simp only[List.take_length];cases hqk:y7 f.kind with
  |true=>
   rw[hqk] at hq;have hu:AB f.kind bl=bl+1:=by simp[AB,hqk]
   rw[hu] at hre htm;(repeat' first|refine M.gw ?_|refine M.c2 (hq) ?_|fail);refine AW.range f.args.length (fun m=>True)
    (fun m=>([(1,.i (bl+1)),(2,.fn (.func 238) [] [.ptr 0 0,.ptr 1 0]),(3,.ptr 2 0),(6,.ptr 3 0),(7,.ptr 4 0),(41,.s .fm f.args),(42,.i f.args.length),(43,.i m)],⟨7,[(0,.var [.i at_]),(1,.var s.view),(2,.var f.view),(3,.var [.i 0,.i 0,.slice .nil (.t .ty []),.slice .nil (.t .tm []),.slice .nil (.t .fm [])]),(4,.var [.i f.kind,.i f.ty.kind,.s .ty f.ty.args,.slice (.own 5) (.t .tm (f.terms.map ((fun b t=>t.re (xm (at_+b) s) 0) bl))),.slice (.own 6) (.t .fm ((f.args.take m).map (Fm.re (fun b t=>t.re (xm (at_+b) s) 0) (bl+1))))]),(5,.row),(6,.row)]⟩))
    (by omega) (fun m=>rfl) (fun m=>rfl) rfl trivial (M.W [some 0,some 1,some 2,some 3,some 4,some 5,none]) ?_ ?_
   ·intro m hm _;have hs2:=ze Fm.full (List.getElem_mem hm);have hc:=ih f.args[m] (bl+1) (by omega) (by omega) (by omega) (by omega) (fun p hp=>hix p (by rw[htm];exact List.mem_append_right _ (List.mem_flatMap.2 ⟨_,List.getElem_mem hm,hp⟩)));(repeat' first|refine M.gw ?_|refine M.cv (hc) [0,1] 0 ?_|fail);exact⟨rfl,trivial,(M.W [some 0,some 1,some 2,some 3,some 4,some 5,some 8] (he:=(by(repeat'(first|exact trivial|exact Or.inr ⟨_,U,rfl⟩|refine And.intro ?_ ?_|refine⟨_,U,_,U,_,U,?_⟩|exact An.refl _|exact An.of_eq (by simp[Al.Aw,yn _ _ _ hm])));done)))⟩
   ·intro _;simp only[List.take_length];(repeat' first|refine M.gw ?_|fail)
    (exact M.n2 [some 0,some 1] (h8:=(by simp[zk,V.wk,V.Ak,zd,Ty.view,Tm.view,hre])))
  |false=>
   rw[hqk] at hq;have hu:AB f.kind bl=bl:=by simp[AB,hqk]
   rw[hu] at hre htm;(repeat' first|refine M.gw ?_|refine M.c2 (hq) ?_|fail);refine AW.range f.args.length (fun m=>True)
    (fun m=>([(1,.i bl),(2,.fn (.func 238) [] [.ptr 0 0,.ptr 1 0]),(3,.ptr 2 0),(6,.ptr 3 0),(7,.ptr 4 0),(41,.s .fm f.args),(42,.i f.args.length),(43,.i m)],⟨7,[(0,.var [.i at_]),(1,.var s.view),(2,.var f.view),(3,.var [.i 0,.i 0,.slice .nil (.t .ty []),.slice .nil (.t .tm []),.slice .nil (.t .fm [])]),(4,.var [.i f.kind,.i f.ty.kind,.s .ty f.ty.args,.slice (.own 5) (.t .tm (f.terms.map ((fun b t=>t.re (xm (at_+b) s) 0) bl))),.slice (.own 6) (.t .fm ((f.args.take m).map (Fm.re (fun b t=>t.re (xm (at_+b) s) 0) bl)))]),(5,.row),(6,.row)]⟩))
    (by omega) (fun m=>rfl) (fun m=>rfl) rfl trivial (M.W [some 0,some 1,some 2,some 3,some 4,some 5,none]) ?_ ?_
   ·intro m hm _;have hs2:=ze Fm.full (List.getElem_mem hm);have hc:=ih f.args[m] bl (by omega) (by omega) (by omega) (by omega) (fun p hp=>hix p (by rw[htm];exact List.mem_append_right _ (List.mem_flatMap.2 ⟨_,List.getElem_mem hm,hp⟩)));(repeat' first|refine M.gw ?_|refine M.cv (hc) [0,1] 0 ?_|fail);exact⟨rfl,trivial,(M.W [some 0,some 1,some 2,some 3,some 4,some 5,some 8] (he:=(by(repeat'(first|exact trivial|exact Or.inr ⟨_,U,rfl⟩|refine And.intro ?_ ?_|refine⟨_,U,_,U,_,U,?_⟩|exact An.refl _|exact An.of_eq (by simp[Al.Aw,yn _ _ _ hm])));done)))⟩
   ·intro _;simp only[List.take_length];(repeat' first|refine M.gw ?_|fail)
    (exact M.n2 [some 0,some 1] (h8:=(by simp[zk,V.wk,V.Ak,zd,Ty.view,Tm.view,hre])))
theorem Ybr(f:Fm)(at_:Int)(s:Tm)(hat:0<=at_/\at_<274877906944)(hs:s.full<274877906944)(hsi:∀p∈s.vars 0,0<=p.1/\p.1<549755813888)(hf:f.full<137438953472)(hix:∀p∈f.AU 0,∀q∈p.1.vars 0,0<=q.1/\q.1<549755813888):PC E 198 [.agg f.view,.i at_,.agg s.view] (.agg (f.put at_ s).view):=by
 have hc:=Ydr at_ s hat hs hsi _ f 0 (Nat.le_refl _) (by omega) (by omega) (by omega) hix;refine M.F Tryz.func198 ?_;(repeat' first|refine M.gw ?_|refine M.cv (hc) [1,2] 0 ?_|fail)
 rfl
theorem Yeh(f:Fm)(hf:f.full<1099511627776):PC E 194 [.agg f.view] (.Ax [.i f.num,.i f.err]):=by
 have h1:=VZ f hf;refine M.F Tryz.func194 ?_;(repeat' first|refine M.gw ?_|refine M.c2 (h1) ?_|fail)
 rfl
theorem Zs6(n:Int):PC E 195 [.i n] (.bool (decide (0<=n/\n<=4096))):=by
 refine M.F Tryz.func195 ?_;(repeat' first|refine M.gw ?_|refine M.gs ?_ ?_<;>intro h|fail);all_goals(simp_all[zk,V.wk,V.Ak,zd];try omega)
theorem Yfq(f:Fm)(at_:Int)(s:Tm)(hf:f.full<137438953472)(hs:s.full<274877906944):PC E 125 [.agg f.view,.i at_,.agg s.view] (.Ax [.agg (if ye f at_ s=0 then f.put at_ s else Az).view,.i (ye f at_ s)]):=by
 have h1:=Yeh f (by omega);have h2:=Ygm s (by omega);have h3:=Zs6 at_;have h4:=Zzy f (by omega);have h5:=ON s (by omega);have h6:f.err=0->f.near=true->0<=at_/\at_<=4096->_:=fun h hn ha=>Zvh f at_ (by omega) (by omega) fun p hp q hq=>by have:=Rq h hn p hp q hq;omega
 have h7:f.err=0->f.near=true->s.err=0->s.near=true->0<=at_/\at_<=4096->_:=fun h hn h' hn' ha=>Ybr f at_ s (by omega) hs (Vp h' hn') hf (Rq h hn);have hn1:=Yeq f;have hn2:=Yfc s;have hle:=f.Aj;have hcl:=Je at_ (f.AU 0);have hvl:=Lr f 0;have hm:=Py (wc at_ (f.AU 0)) (s.num-1) (by omega) (by omega);have hm': -9223372036854775808<=(wc at_ (f.AU 0):Int)*(s.num-1)/\(wc at_ (f.AU 0):Int)*(s.num-1)<=9223372036854775807:=by omega
 refine M.F Tryz.func125 ?_;(repeat' first|refine M.gw ?_|refine M.c2 (h1) ?_|refine M.c2 (h2) ?_|refine M.c2 (h3) ?_|refine M.c2 (h4) ?_|refine M.c2 (h5) ?_|refine M.c2 (h6 (by simp_all) (by simp_all) (by simp_all)) ?_|refine M.c2 (h7 (by simp_all) (by simp_all) (by simp_all) (by simp_all) (by simp_all)) ?_|refine M.gs ?_ ?_<;>intro h|refine M.cs ?_ ?_<;>intro h|fail);all_goals first
  |(simp_all[zk,V.wk,V.Ak,zd,Ty.view,Fm.view,ye,Az,Fm.num,Tm.num];done)
  |skip
 rename_i h0;have h':¬(0<=at_/\at_<=4096):=by intro hc;simp[hc] at h
 have h0':f.err=0:=by simpa using h0
 have e:ye f at_ s=1:=by simp only[ye,h0',ne_eq,not_true_eq_false,if_false,h',not_false_eq_true,if_true]
 simp[zk,V.wk,V.Ak,zd,Ty.view,Fm.view,e,Az]
theorem Zrr:∀(n:Nat) (x y:Fm),x.full<=n->n<1099511627776->PC E 170 [.agg x.view,.agg y.view] (.bool (decide (x=y))):=by
 intro n;induction n with
 |zero=>intro x y h;have:=x.Ac;omega
 |succ n ih=>
 intro x y hsz hb;have hsz':=x.Af;have hlen:=zh Fm.full Fm.Ac x.args;have hlen2:=zh Tm.full Tm.Ac x.terms;have heq:=Fm.eq_iff x y;have hty:=I1 _ x.ty y.ty (Nat.le_refl _) (by omega);refine M.F Tryz.func170 ?_;(repeat' first|refine M.gw ?_|refine M.c2 (hty) ?_|refine M.gs ?_ ?_<;>intro h|refine M.cs ?_ ?_<;>intro h|fail)
 ·have:¬x=y:=by rw[heq];simp_all
  simp[this,zk,zd,V.wk,V.Ak]
 ·have:¬x=y:=by rw[heq];simp_all
  simp[this,zk,zd,V.wk,V.Ak]
 ·have:¬x=y:=by rintro rfl;simp at h
  simp[this,zk,zd,V.wk,V.Ak]
 ·have:¬x=y:=by rintro rfl;simp at h
  simp[this,zk,zd,V.wk,V.Ak]
 ·rename_i h1 h2 h3;simp at h h1 h2 h3;have hl:x.args.length=y.args.length:=by omega
  have hl2:x.terms.length=y.terms.length:=by omega
  refine AW.range x.terms.length (fun m=>∀j (hj:j<x.terms.length),j<m->x.terms[j]=y.terms[j]'(by omega))
   (fun m=>([(2,.ptr 0 0),(3,.ptr 1 0),(41,.s .tm x.terms),(42,.i x.terms.length),(43,.i m)],⟨2,[(0,.var x.view),(1,.var y.view)]⟩))
   (by omega) (fun m=>rfl) (fun m=>rfl) rfl (by intro j hj h;omega) (M.W [some 0,some 1]) ?_ ?_
  ·intro m hm hP;have hm':m<y.terms.length:=by omega
   have hs2:=ze Tm.full (List.getElem_mem hm);have hc:=Zt8 _ x.terms[m] y.terms[m] (Nat.le_refl _) (by omega);(repeat' first|refine M.gw ?_|refine M.c2 (hc) ?_|refine M.cs ?_ ?_<;>intro h|fail)
   ·have:¬x=y:=by rw[heq];exact fun hc=>Ia hm hm' (by simpa using h) hc.2.2.1
    simp[this,zk,zd,V.wk,V.Ak]
   ·exact ⟨rfl,Ie hl2 hm hP (by simpa using h),(M.W [some 0,some 1])⟩
  ·intro hP2;have hterms:=HZ hl2 hP2;(repeat' first|refine M.gw ?_|fail);refine AW.range x.args.length (fun m=>∀j (hj:j<x.args.length),j<m->x.args[j]=y.args[j]'(by omega))
    (fun m=>([(2,.ptr 0 0),(3,.ptr 1 0),(58,.s .fm x.args),(59,.i x.args.length),(60,.i m)],⟨2,[(0,.var x.view),(1,.var y.view)]⟩))
    (by omega) (fun m=>rfl) (fun m=>rfl) rfl (by intro j hj h;omega) (M.W [some 0,some 1]) ?_ ?_
   ·intro m hm hP;have hm':m<y.args.length:=by omega
    have hs2:=ze Fm.full (List.getElem_mem hm);(repeat' first|refine M.gw ?_|refine M.c2 (ih _ _ ?_ ?_) ?_|refine M.cs ?_ ?_<;>intro h|exact M.le|exact M.lt|fail)
    ·have:¬x=y:=by rw[heq];exact fun hc=>Ia hm hm' (by simpa using h) hc.2.2.2
     simp[this,zk,zd,V.wk,V.Ak]
    ·exact ⟨rfl,Ie hl hm hP (by simpa using h),(M.W [some 0,some 1])⟩
   ·intro hP;have:x=y:=heq.2 ⟨h1,h2,hterms,HZ hl hP⟩;(repeat' first|refine M.gw ?_|fail);simp[this,zk,zd,V.wk,V.Ak]
theorem Ydk(x y:Fm)(h:x.full<1099511627776):PC E 102 [.agg x.view,.agg y.view] (.bool (decide (x=y))):=by
 have h1:=Zrr _ x y (Nat.le_refl _) h;refine M.F Tryz.func102 ?_;(repeat' first|refine M.gw ?_|refine M.c2 (h1) ?_|fail);simp[zk,V.wk,V.Ak,zd,Ty.view,Tm.view]
theorem La(t:Tm):PC E 182 [.agg t.view] (.i (up t.kind 0)):=by
 refine M.F Tryz.func182 ?_;(repeat' first|refine M.gw ?_|refine M.cs ?_ ?_<;>intro h|fail)
 ·have e:up t.kind 0=1:=by simp only[beq_iff_eq] at h;rw[h];rfl
  rw[e];rfl
 ·have e:up t.kind 0=0:=by simp only[beq_eq_false_iff_ne,ne_eq] at h;exact if_neg h
  rw[e];rfl
theorem JQ(k b:Int):b<=up k b/\up k b<=b+1:=by simp only[up];split<;>omega
theorem Mh(k b:Int):b+up k 0=up k b:=by simp only[up];split<;>omega
theorem MC(most:Int)(h0:0<=most):∀(n:Nat) (t:Tm),t.full<=n->n<549755813888->t.shape=true->PC E 114 [.agg t.view,.i most] (.bool (xu most t)):=by
 intro n;induction n with
 |zero=>intro t h;have:=t.Ac;omega
 |succ n ih=>
 intro t hsz hn hs;have hsz':=Tm.Af t;have hlen:=zh Tm.full Tm.Ac t.args;have he:=Zs9 h0 hs;refine M.F Tryz.func114 ?_;(repeat' first|refine M.gw ?_|refine M.cs ?_ ?_<;>intro h|fail)
 ·have h1:¬t.index<=most:=by simp at h;omega
  rw[he,decide_eq_false h1];rfl
 have h1:t.index<=most:=by simp at h;omega
 rw[decide_eq_true h1,Bool.true_and] at he;refine AW.range t.args.length (fun m=>∀j (hj:j<t.args.length),j<m->xu most t.args[j]=true)
  (fun m=>([(1,.i most),(2,.ptr 0 0),(12,.s .tm t.args),(13,.i t.args.length),(14,.i m)],⟨1,[(0,.var t.view)]⟩))
  (by omega) (fun m=>rfl) (fun m=>rfl) rfl (fun j hj h=>by omega) (M.W [some 0]) ?_ ?_
 ·intro m hm hP;have hs2:=ze Tm.full (List.getElem_mem hm);have hc:=ih t.args[m] (by omega) (by omega) (zg hs _ (List.getElem_mem hm));(repeat' first|refine M.gw ?_|refine M.c2 (hc) ?_|refine M.cs ?_ ?_<;>intro h|fail)
  ·have hx:xu most t.args[m]=false:=by simpa using h
   rw[he,ve (xu most) hm hx];rfl
  ·have hx:xu most t.args[m]=true:=by simpa using h
   exact⟨rfl,z4 (p:=fun t=>xu most t=true) hm hP hx,(M.W [some 0])⟩
 ·intro hP;rw[he,EA (xu most) t.args fun j hj=>hP j hj hj];(repeat' first|refine M.gw ?_|fail)
  rfl
theorem RE:∀(n:Nat) (t:Tm) (at_:Int),t.full<=n->n<274877906944->-274877906944<=at_->at_+n<549755813888->t.shape=true->PC E 253 [.agg t.view,.i at_] (.bool (decide (yq at_ t≠0))):=by
 intro n;induction n with
 |zero=>intro t at_ h;have:=t.Ac;omega
 |succ n ih=>
 intro t at_ hsz hn h1 h2 hs;have hsz':=Tm.Af t;have hlen:=zh Tm.full Tm.Ac t.args;have he:=N0 at_ t;have hup:=JQ t.kind at_;have hpl:=Mh t.kind at_;have hb:=La t;by_cases hv:t.kind=1/\t.index=at_
 ·rw[if_pos hv] at he;rw[he];refine M.F Tryz.func253 ?_;(repeat' first|refine M.go ?_|refine M.gs ?_ ?_<;>intro h|refine M.z1 4 ?_|refine M.cs ?_ ?_<;>intro h|refine M.gk ?_|fail);all_goals first
   |rfl
   |(exfalso;simp[hv.1,hv.2] at*;done)
   |(exfalso;simp_all;done)
 rw[if_neg hv] at he;refine M.F Tryz.func253 ?_;(repeat' first|refine M.gw ?_|refine M.gs ?_ ?_<;>intro h|refine M.cs ?_ ?_<;>intro h|fail);all_goals first
  |(exfalso;simp_all;done)
  |skip
 all_goals
  refine AW.range t.args.length (fun m=>∀j (hj:j<t.args.length),j<m->yq (up t.kind at_) t.args[j]=0)
   (fun m=>([(1,.i at_),(2,.ptr 0 0),(17,.s .tm t.args),(18,.i t.args.length),(19,.i m)],⟨1,[(0,.var t.view)]⟩))
   (by omega) (fun m=>rfl) (fun m=>rfl) rfl (fun j hj h=>by omega) (M.W [some 0]) ?_ ?_
  ·intro m hm hP;have hs2:=ze Tm.full (List.getElem_mem hm);have hc:=ih t.args[m] (up t.kind at_) (by omega) (by omega) (by omega) (by omega) (zg hs _ (List.getElem_mem hm));rw[<-hpl] at hc;rw[<-hpl] at hP he;(repeat' first|refine M.gw ?_|refine M.c2 (hb) ?_|refine M.c2 (hc) ?_|refine M.cs ?_ ?_<;>intro h|fail)
   ·have hx:yq (at_+up t.kind 0) t.args[m]≠0:=by simpa using h
    rw[he,decide_eq_true (RB hm hx)];rfl
   ·have hx:yq (at_+up t.kind 0) t.args[m]=0:=by simpa using h
    exact⟨rfl,by rw[<-hpl];exact z4 (p:=fun t'=>yq (at_+up t.kind 0) t'=0) hm hP hx,(M.W [some 0])⟩
  ·intro hP;rw[he,Qt fun j hj=>hP j hj hj];(repeat' first|refine M.gw ?_|fail)
   rfl
theorem R9:∀(n:Nat) (t:Tm) (at_:Int),t.full<=n->n<274877906944->-274877906944<=at_->at_+n<549755813888->t.shape=true->PC E 183 [.agg t.view,.i at_] (.i (yq at_ t)):=by
 intro n;induction n with
 |zero=>intro t at_ h;have:=t.Ac;omega
 |succ n ih=>
 intro t at_ hsz hn h1 h2 hs;have hsz':=Tm.Af t;have hlen:=zh Tm.full Tm.Ac t.args;have he:=N0 at_ t;have hup:=JQ t.kind at_;have hpl:=Mh t.kind at_;have hb:=La t;by_cases hv:t.kind=1/\t.index=at_
 ·rw[if_pos hv] at he;rw[he];have ha:=uh hs hv.1;obtain⟨k,i,th,xs⟩:=t;simp only[Tm.Ae] at ha;subst ha;obtain⟨hv1,hv2⟩:=hv;simp only[Tm.Am,Tm.AV] at hv1 hv2;subst hv1;subst hv2;refine M.F Tryz.func183 ?_;(repeat' first|refine M.gw ?_|refine M.cs ?_ ?_<;>intro h|fail);all_goals first
   |(exfalso;simp at h;done)
   |skip
  all_goals
   refine AW.range 0 (fun m=>True) (fun m=>([(1,.i i),(2,.ptr 0 0),(5,.i 1),(20,.s .tm []),(21,.i 0),(22,.i m)],⟨1,[(0,.var (Tm.mk 1 i th []).view)]⟩))
    (by omega) (fun m=>rfl) (fun m=>rfl) rfl trivial (M.W [some 0]) ?_ ?_
   ·intro m hm;omega
   ·intro _;(repeat' first|refine M.gw ?_|fail)
    rfl
 rw[if_neg hv] at he;refine M.F Tryz.func183 ?_;(repeat' first|refine M.gw ?_|refine M.gs ?_ ?_<;>intro h|refine M.cs ?_ ?_<;>intro h|fail);all_goals first
  |(exfalso;simp_all;done)
  |skip
 all_goals
  refine AW.range t.args.length (fun m=>True)
   (fun m=>([(1,.i at_),(2,.ptr 0 0),(5,.i (((t.args.take m).map (yq (up t.kind at_))).sum:Nat)),(20,.s .tm t.args),(21,.i t.args.length),(22,.i m)],⟨1,[(0,.var t.view)]⟩))
   (by omega) (fun m=>rfl) (fun m=>rfl) rfl trivial (M.W [some 0]) ?_ ?_
  ·intro m hm _;have hs1:=yv (yq (up t.kind at_)) t.args m hm;have hs2:=ze Tm.full (List.getElem_mem hm);have hs3:((t.args.take m).map (yq (up t.kind at_))).sum<=(t.args.map Tm.full).sum:=by
    have a1:=yc Tm.full t.args m;have a2:=xr (f:=yq (up t.kind at_)) (g:=Tm.full) (t.args.take m) fun x _=>Nat.le_trans (LC x _) x.Aj;omega
   have hs4:=LC t.args[m] (up t.kind at_);have hs5:=t.args[m].Aj;have hc:=ih t.args[m] (up t.kind at_) (by omega) (by omega) (by omega) (by omega) (zg hs _ (List.getElem_mem hm));rw[<-hpl] at hc hs1 hs3 hs4;simp only[<-hpl];(repeat' first|refine M.gw ?_|refine M.c2 (hb) ?_|refine M.c2 (hc) ?_|fail);refine⟨rfl,trivial,?_⟩;simp only[hs1];exact(M.W [some 0])
  ·intro _;(repeat' first|refine M.gw ?_|fail);rw[he];simp[zk,V.wk,V.Ak,zd]
theorem Yh5(by_:Int)(hby: -549755813888<=by_/\by_<=549755813888):∀(n:Nat) (t:Tm) (fr:Int),t.full<=n->n<274877906944->-274877906944<=fr->fr+n<549755813888->t.shape=true->(∀p∈t.vars 0,0<=p.1/\p.1<9223372036854775808/\p.1+by_<9223372036854775808)->
 PC E 115 [.agg t.view,.i fr,.i by_] (.agg (t.re (zn fr by_) 0).view):=by
 intro n;induction n with
 |zero=>intro t fr h;have:=t.Ac;omega
 |succ n ih=>
 intro t fr hsz hn h1 h2 hs hix;have hsz':=Tm.Af t;have hlen:=zh Tm.full Tm.Ac t.args;have hup:=JQ t.kind fr;have hpl:=Mh t.kind fr;have hb:=La t;by_cases hv:t.kind=1
 ·have ht:=JL hs hv;have hi:=hix (t.index,0) (by rw[w8 hs hv];simp);rw[ht];generalize t.index=i at hi;simp only at hi;rw[EX,xi];have hvi:(vT i).index=i:=rfl;refine M.F Tryz.func115 ?_;(repeat' first|refine M.gw ?_|refine M.cs ?_ ?_<;>intro h|fail);all_goals first
   |(exfalso;simp at h;done)
   |skip
  ·have h3:i-0>=fr:=by simp at h;omega
   rw[if_pos h3];refine AW.range 0 (fun m=>True) (fun m=>([(1,.i fr),(2,.i by_),(3,.ptr 0 0),(6,.ptr 1 0),(7,.ptr 2 0),(32,.s .tm []),(33,.i 0),(34,.i m)],⟨3,[(0,.var (vT i).view),(1,.var [.i 0,.i 0,.i 0,.slice .nil (.t .ty []),.slice .nil (.t .tm [])]),(2,.var [.i 1,.i (i+by_),.i 0,.s .ty [],.slice .nil (.t .tm [])])]⟩))
    (by omega) (fun m=>rfl) (fun m=>rfl) rfl trivial (M.W [some 0,some 1,some 2]) ?_ ?_
   ·intro m hm;omega
   ·intro _;(repeat' first|refine M.gw ?_|fail)
    rfl
  ·have h3:¬i-0>=fr:=by simp at h;omega
   rw[if_neg h3];refine AW.range 0 (fun m=>True) (fun m=>([(1,.i fr),(2,.i by_),(3,.ptr 0 0),(6,.ptr 1 0),(7,.ptr 2 0),(32,.s .tm []),(33,.i 0),(34,.i m)],⟨3,[(0,.var (vT i).view),(1,.var [.i 0,.i 0,.i 0,.slice .nil (.t .ty []),.slice .nil (.t .tm [])]),(2,.var [.i 1,.i i,.i 0,.s .ty [],.slice .nil (.t .tm [])])]⟩))
    (by omega) (fun m=>rfl) (fun m=>rfl) rfl trivial (M.W [some 0,some 1,some 2]) ?_ ?_
   ·intro m hm;omega
   ·intro _;(repeat' first|refine M.gw ?_|fail)
    rfl
 have he:=Zu1 (fr:=fr) (by_:=by_) hv;refine M.F Tryz.func115 ?_;(repeat' first|refine M.gw ?_|refine M.gs ?_ ?_<;>intro h|refine M.cs ?_ ?_<;>intro h|fail);all_goals first
  |(exfalso;simp_all;done)
  |skip
 all_goals
  refine AW.range t.args.length (fun m=>True) (fun m=>([(1,.i fr),(2,.i by_),(3,.ptr 0 0),(6,.ptr 1 0),(7,.ptr 2 0),(32,.s .tm t.args),(33,.i t.args.length),(34,.i m)],⟨4,[(0,.var t.view),(1,.var [.i 0,.i 0,.i 0,.slice .nil (.t .ty []),.slice .nil (.t .tm [])]),(2,.var [.i t.kind,.i t.index,.i t.ty.kind,.s .ty t.ty.args,.slice (.own 3) (.t .tm ((t.args.take m).map fun x=>x.re (zn (up t.kind fr) by_) 0))]),(3,.row)]⟩))
   (by omega) (fun m=>rfl) (fun m=>rfl) rfl trivial (M.W [some 0,some 1,some 2,none]) ?_ ?_
  ·intro m hm _;have hs2:=ze Tm.full (List.getElem_mem hm);have hc:=ih t.args[m] (up t.kind fr) (by omega) (by omega) (by omega) (by omega) (zg hs _ (List.getElem_mem hm)) (fun p hp=>by
    obtain⟨q,hq,hqe⟩:=PL (b':=up t.kind 0) p hp;have:=hix q (IF hv (List.getElem_mem hm) hq);rw[<-hqe];exact this)
   rw[<-hpl] at hc;simp only[<-hpl];(repeat' first|refine M.gw ?_|refine M.c2 (hb) ?_|refine M.c2 (hc) ?_|fail);exact⟨rfl,trivial,(M.W [some 0,some 1,some 2,some 5] (he:=(by(repeat'(first|exact trivial|exact Or.inr ⟨_,U,rfl⟩|refine And.intro ?_ ?_|refine⟨_,U,_,U,_,U,?_⟩|exact An.refl _|exact An.of_eq (by simp[Al.Aw,yn _ _ _ hm])));done)))⟩
  ·intro _;simp only[List.take_length];(repeat' first|refine M.gw ?_|fail);rw[he];simp[zk,V.wk,V.Ak,zd,Ty.view,Tm.view]
theorem K7(by_:Int)(hby: -549755813888<=by_/\by_<=549755813888):∀(n:Nat) (t:Tm) (fr:Int),t.full<=n->n<274877906944->-274877906944<=fr->fr+n<549755813888->t.shape=true->(∀p∈t.vars 0,0<=p.1/\p.1<549755813888)->
 PC E 115 [.agg t.view,.i fr,.i by_] (.agg (t.re (zn fr by_) 0).view):=
 fun n t fr h1 h2 h3 h4 h5 h6=>Yh5 by_ hby n t fr h1 h2 h3 h4 h5 fun p hp=>by have:=h6 p hp;omega
end Go.Ab
