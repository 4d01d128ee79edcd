/- A part of this seat's proofs. No conditions. -/
import Derived.Test.YtmhcohcihajegaaGreatDoorHS10
import Derived.Test.YtmhcohcihajegaaGreatDoorHS13
import Derived.Test.YtmhcohcihajegaaGreatDoorHS8
namespace Go.Ab
open Go Go.Proofs
set_option maxRecDepth 100000
set_option maxHeartbeats 4000000
set_option linter.all false
theorem Zr0(d:Dk)(h:d.ok):AC E 54 [.ptr 0 0,.i 1] ⟨1,[(0,.var d.cells)]⟩ (.agg (d.type 1).1.view) ⟨1,[(0,.var (d.type 1).2.cells)]⟩:=Zlg 1 1 d (by omega) (by omega) (by omega) h
theorem Yh9(d:Dk)(h:d.ok):AC E 54 [.ptr 0 0,.i 0] ⟨1,[(0,.var d.cells)]⟩ (.agg (d.type 0).1.view) ⟨1,[(0,.var (d.type 0).2.cells)]⟩:=Zlg 0 0 d (by omega) (by omega) (by omega) h
theorem Zx4:∀(n:Nat) (d:Dk) (g:List Ty) (k:Int),n<=3->k=n->d.ok->smalls g->g.length+n<=5000->
 AC E 31 [.ptr 0 0,.s .ty g,.i k] ⟨1,[(0,.var d.cells)]⟩ (.agg (Dk.fm n d g).1.view) ⟨1,[(0,.var (Dk.fm n d g).2.cells)]⟩:=by
 have bd:∀(n:Nat) (d:Dk) (g:List Ty),n<=3->smalls g->(Dk.fm n d g).1.full<=10000:=fun n d g hn hg=>by
  have h1:=(Dk.fm_good n d g hg).2.2;have h2:2^n<=2^3:=Nat.pow_le_pow_right (by omega) hn;omega
 have eqc:∀(d:Dk) (g:List Ty),d.ok->smalls g->g.length<=5000->∃(x:Tm) (d1:Dk) (y:Tm) (d2:Dk),d.eqf g=(eqF x y,d2)/\x.full<=1000/\y.full<=1000/\
  AC E 58 [.ptr 0 0,.s .ty g,.agg natT.view,.i 1] ⟨1,[(0,.var d.cells)]⟩ (.agg x.view) ⟨1,[(0,.var d1.cells)]⟩/\
  AC E 58 [.ptr 0 0,.s .ty g,.agg natT.view,.i 1] ⟨1,[(0,.var d1.cells)]⟩ (.agg y.view) ⟨1,[(0,.var d2.cells)]⟩:=fun d g hd hg hl=>by
  have d1:=Dk.tm_ok 3 d g natT hd;have m1:=(Dk.tm_mk 3 d g natT hg zh (by omega) (by omega)).full hg zh;have m2:=(Dk.tm_mk 3 (Dk.tm 3 d g natT).2 g natT hg zh (by omega) (by omega)).full hg zh;exact⟨_,_,_,_,rfl,by omega,by omega,Zja 3 (by omega) d g natT 1 (by omega) hd hg zh (by omega) (by omega) (by omega),
   Zja 3 (by omega) (Dk.tm 3 d g natT).2 g natT 1 (by omega) d1 hg zh (by omega) (by omega) (by omega)⟩
 intro n;induction n with
 |zero=>
  intro d g k _ hk hd hg hl;obtain⟨x,d1,y,d2,e,fx,fy,h1,h2⟩:=eqc d g hd hg (by omega);have he:=Zdw x y (by omega) (by omega);rw[show Dk.fm 0 d g=(eqF x y,d2) from e];obtain rfl:k=0:=hk;refine M.F Tryz.func31 ?_;refine M.w4 @u6 @h1 @h2 @he ?_
  (exact M.n2 rh1 (h8:=(by simp[zn,V.wk,V.wks,za,Ty.view,Tm.view,eqF,Fm.view])))
 |succ n ih=>
 intro d g k hn hk hd hg hl;have h9:=Za2 d 9 hd (by omega);have hbd:=Dk.next_bd d 9 (by omega);have d9:=Dk.next_ok hd 9;have hkp:k>0:=by omega
 have efm:Dk.fm (n+1) d g=Dk.fm (n+1) d g:=rfl
 conv at efm=>rhs;rw[Dk.fm]
 generalize hr:(d.next 9).1=r at*;generalize (d.next 9).2=e1 at*;have hr9:r=0\/r=1\/r=2\/r=3\/r=4\/r=5\/r=6\/r=7\/r=8:=by omega
 rcases hr9 with rfl|rfl|rfl|rfl|rfl|rfl|rfl|rfl|rfl
 ·simp only[show((0:Int)=1)=False by simp,show((0:Int)=2)=False by simp,show((0:Int)=3)=False by simp,show((0:Int)=4)=False by simp,show((0:Int)=5)=False by simp,show((0:Int)=6)=False by simp,if_false,if_true,or_self,or_true,true_or,or_false,false_or] at efm;rw[efm];have a1:=ih e1 g (k-1) (by omega) (by omega) d9 hg (by omega);have f1:=bd n e1 g (by omega) hg;have k1:=Dk.fm_ok n e1 g d9;generalize (Dk.fm n e1 g).1=x at*;generalize (Dk.fm n e1 g).2=e2 at*;have a2:=ih e2 g (k-1) (by omega) (by omega) k1 hg (by omega);have f2:=bd n e2 g (by omega) hg;generalize (Dk.fm n e2 g).1=y at*;generalize (Dk.fm n e2 g).2=e3 at*;have hw:=Zjs 2 x y (by omega) (by omega);refine M.F Tryz.func31 ?_;(repeat' first|refine M.v4 @h9 @a1 @a2 @hw ?_|refine M.cs ?_ ?_<;>intro h|fail);all_goals first
   |(exfalso;simp at h;omega)
   |skip
  (exact M.n2 rh1 (h8:=(by simp[zn,V.wk,V.wks,za,Ty.view,Tm.view,Zal,Fm.view])))
 ·simp only[show((1:Int)=0)=False by simp,show((1:Int)=2)=False by simp,show((1:Int)=3)=False by simp,show((1:Int)=4)=False by simp,show((1:Int)=5)=False by simp,show((1:Int)=6)=False by simp,if_false,if_true,or_self,or_true,true_or,or_false,false_or] at efm;rw[efm];have a1:=ih e1 g (k-1) (by omega) (by omega) d9 hg (by omega);have f1:=bd n e1 g (by omega) hg;have k1:=Dk.fm_ok n e1 g d9;generalize (Dk.fm n e1 g).1=x at*;generalize (Dk.fm n e1 g).2=e2 at*;have a2:=ih e2 g (k-1) (by omega) (by omega) k1 hg (by omega);have f2:=bd n e2 g (by omega) hg;generalize (Dk.fm n e2 g).1=y at*;generalize (Dk.fm n e2 g).2=e3 at*;have hw:=Zjs 3 x y (by omega) (by omega);refine M.F Tryz.func31 ?_;(repeat' first|refine M.v4 @h9 @a1 @a2 @hw ?_|refine M.cs ?_ ?_<;>intro h|fail);all_goals first
   |(exfalso;simp at h;omega)
   |skip
  (exact M.n2 rh1 (h8:=(by simp[zn,V.wk,V.wks,za,Ty.view,Tm.view,Zal,Fm.view])))
 ·simp only[show((2:Int)=0)=False by simp,show((2:Int)=1)=False by simp,show((2:Int)=3)=False by simp,show((2:Int)=4)=False by simp,show((2:Int)=5)=False by simp,show((2:Int)=6)=False by simp,if_false,if_true,or_self,or_true,true_or,or_false,false_or] at efm;rw[efm];have a1:=ih e1 g (k-1) (by omega) (by omega) d9 hg (by omega);have f1:=bd n e1 g (by omega) hg;have k1:=Dk.fm_ok n e1 g d9;generalize (Dk.fm n e1 g).1=x at*;generalize (Dk.fm n e1 g).2=e2 at*;have a2:=ih e2 g (k-1) (by omega) (by omega) k1 hg (by omega);have f2:=bd n e2 g (by omega) hg;generalize (Dk.fm n e2 g).1=y at*;generalize (Dk.fm n e2 g).2=e3 at*;have hw:=Zjs 3 x y (by omega) (by omega);refine M.F Tryz.func31 ?_;(repeat' first|refine M.v4 @h9 @a1 @a2 @hw ?_|refine M.cs ?_ ?_<;>intro h|fail);all_goals first
   |(exfalso;simp at h;omega)
   |skip
  (exact M.n2 rh1 (h8:=(by simp[zn,V.wk,V.wks,za,Ty.view,Tm.view,Zal,Fm.view])))
 ·simp only[show((3:Int)=0)=False by simp,show((3:Int)=1)=False by simp,show((3:Int)=2)=False by simp,show((3:Int)=4)=False by simp,show((3:Int)=5)=False by simp,show((3:Int)=6)=False by simp,if_false,if_true,or_self,or_true,true_or,or_false,false_or] at efm;rw[efm];have ts:=Zr0 e1 d9;have ss:=Dk.type1 e1;have k1:=Dk.type_ok 1 e1 d9;generalize (e1.type 1).1=s at*;generalize (e1.type 1).2=e2 at*;have gs:=zj hg (ze ss zi);have hlg:=Za5 g [s] (by simp;omega);have a1:=ih e2 (g++[s]) (k-1) (by omega) (by omega) k1 gs (by simp;omega);have f1:=bd n e2 (g++[s]) (by omega) gs;generalize (Dk.fm n e2 (g++[s])).1=x at*;generalize (Dk.fm n e2 (g++[s])).2=e3 at*;have hw:=Zhl 4 s x (by have:=ss.2;omega) (by omega);refine M.F Tryz.func31 ?_;(repeat' first|refine M.v5 @h9 @ts @hlg @a1 @hw ?_|refine M.cs ?_ ?_<;>intro h|fail);all_goals first
   |(exfalso;simp at h;omega)
   |skip
  (exact M.n2 rh1 (h8:=(by simp[zn,V.wk,V.wks,za,Ty.view,Tm.view,quF,Fm.view])))
 ·simp only[show((4:Int)=0)=False by simp,show((4:Int)=1)=False by simp,show((4:Int)=2)=False by simp,show((4:Int)=3)=False by simp,show((4:Int)=5)=False by simp,show((4:Int)=6)=False by simp,if_false,if_true,or_self,or_true,true_or,or_false,false_or] at efm;rw[efm];have ts:=Zr0 e1 d9;have ss:=Dk.type1 e1;have k1:=Dk.type_ok 1 e1 d9;generalize (e1.type 1).1=s at*;generalize (e1.type 1).2=e2 at*;have gs:=zj hg (ze ss zi);have hlg:=Za5 g [s] (by simp;omega);have a1:=ih e2 (g++[s]) (k-1) (by omega) (by omega) k1 gs (by simp;omega);have f1:=bd n e2 (g++[s]) (by omega) gs;generalize (Dk.fm n e2 (g++[s])).1=x at*;generalize (Dk.fm n e2 (g++[s])).2=e3 at*;have hw:=Zhl 4 s x (by have:=ss.2;omega) (by omega);refine M.F Tryz.func31 ?_;(repeat' first|refine M.v5 @h9 @ts @hlg @a1 @hw ?_|refine M.cs ?_ ?_<;>intro h|fail);all_goals first
   |(exfalso;simp at h;omega)
   |skip
  (exact M.n2 rh1 (h8:=(by simp[zn,V.wk,V.wks,za,Ty.view,Tm.view,quF,Fm.view])))
 ·simp only[show((5:Int)=0)=False by simp,show((5:Int)=1)=False by simp,show((5:Int)=2)=False by simp,show((5:Int)=3)=False by simp,show((5:Int)=4)=False by simp,show((5:Int)=6)=False by simp,if_false,if_true,or_self,or_true,true_or,or_false,false_or] at efm;rw[efm];have ts:=Zr0 e1 d9;have ss:=Dk.type1 e1;have k1:=Dk.type_ok 1 e1 d9;generalize (e1.type 1).1=s at*;generalize (e1.type 1).2=e2 at*;have gs:=zj hg (ze ss zi);have hlg:=Za5 g [s] (by simp;omega);have a1:=ih e2 (g++[s]) (k-1) (by omega) (by omega) k1 gs (by simp;omega);have f1:=bd n e2 (g++[s]) (by omega) gs;generalize (Dk.fm n e2 (g++[s])).1=x at*;generalize (Dk.fm n e2 (g++[s])).2=e3 at*;have hw:=Zhl 5 s x (by have:=ss.2;omega) (by omega);refine M.F Tryz.func31 ?_;(repeat' first|refine M.v5 @h9 @ts @hlg @a1 @hw ?_|refine M.cs ?_ ?_<;>intro h|fail);all_goals first
   |(exfalso;simp at h;omega)
   |skip
  (exact M.n2 rh1 (h8:=(by simp[zn,V.wk,V.wks,za,Ty.view,Tm.view,quF,Fm.view])))
 ·simp only[show((6:Int)=0)=False by simp,show((6:Int)=1)=False by simp,show((6:Int)=2)=False by simp,show((6:Int)=3)=False by simp,show((6:Int)=4)=False by simp,show((6:Int)=5)=False by simp,if_false,if_true,or_self,or_true,true_or,or_false,false_or] at efm;rw[efm];have ts:=Yh9 e1 d9;have ss0:=Dk.type0 e1;have ss:=z8 ss0.1 ss0.2;have k1:=Dk.type_ok 0 e1 d9;generalize (e1.type 0).1=s at*;generalize (e1.type 0).2=e2 at*;have h2:=Za2 e2 2 k1 (by omega);have hb2:=Dk.next_bd e2 2 (by omega);have k2:=Dk.next_ok k1 2;generalize (e2.next 2).1=u at*;generalize (e2.next 2).2=e3 at*;have gs:=zj hg (ze ss zi);have hlg:=Za5 g [s] (by simp;omega);have a1:=ih e3 (g++[s]) (k-1) (by omega) (by omega) k2 gs (by simp;omega);have f1:=bd n e3 (g++[s]) (by omega) gs;generalize (Dk.fm n e3 (g++[s])).1=x at*;generalize (Dk.fm n e3 (g++[s])).2=e4 at*;have hw:=Zhl (6+u) s x (by have:=ss.2;omega) (by omega);refine M.F Tryz.func31 ?_;(repeat' first|refine M.v6 @h9 @ts @h2 @hlg @a1 @hw ?_|refine M.cs ?_ ?_<;>intro h|fail);all_goals first
   |(exfalso;simp at h;omega)
   |skip
  (exact M.n2 rh1 (h8:=(by simp[zn,V.wk,V.wks,za,Ty.view,Tm.view,quF,Fm.view])))
 ·simp only[show((7:Int)=0)=False by simp,show((7:Int)=1)=False by simp,show((7:Int)=2)=False by simp,show((7:Int)=3)=False by simp,show((7:Int)=4)=False by simp,show((7:Int)=5)=False by simp,show((7:Int)=6)=False by simp,if_false,if_true,or_self,or_true,true_or,or_false,false_or] at efm;rw[efm];obtain⟨x,d1,y,d2,e,fx,fy,h1,h2⟩:=eqc e1 g d9 hg (by omega);rw[e];have he:=Zdw x y (by omega) (by omega);refine M.F Tryz.func31 ?_;(repeat' first|refine M.v5 @h9 @u6 @h1 @h2 @he ?_|refine M.cs ?_ ?_<;>intro h|fail);all_goals first
   |(exfalso;simp at h;omega)
   |skip
  (exact M.n2 rh1 (h8:=(by simp[zn,V.wk,V.wks,za,Ty.view,Tm.view,eqF,Fm.view])))
 ·simp only[show((8:Int)=0)=False by simp,show((8:Int)=1)=False by simp,show((8:Int)=2)=False by simp,show((8:Int)=3)=False by simp,show((8:Int)=4)=False by simp,show((8:Int)=5)=False by simp,show((8:Int)=6)=False by simp,if_false,if_true,or_self,or_true,true_or,or_false,false_or] at efm;rw[efm];obtain⟨x,d1,y,d2,e,fx,fy,h1,h2⟩:=eqc e1 g d9 hg (by omega);rw[e];have he:=Zdw x y (by omega) (by omega);refine M.F Tryz.func31 ?_;(repeat' first|refine M.v5 @h9 @u6 @h1 @h2 @he ?_|refine M.cs ?_ ?_<;>intro h|fail);all_goals first
   |(exfalso;simp at h;omega)
   |skip
  (exact M.n2 rh1 (h8:=(by simp[zn,V.wk,V.wks,za,Ty.view,Tm.view,eqF,Fm.view])))
theorem Yk4(at_:Int)(s:Tm)(hat:0<=at_/\at_<137438953472)(hs:s.shape=true)(hsf:s.full<137438953472)(hsi:∀p∈s.vars 0,0<=p.1/\p.1<274877906944):∀(n:Nat) (f:Fm) (dp:Int),f.full<=n->n<137438953472->0<=dp->dp+n<274877906944->f.shape=true->(∀p∈f.tms 0,∀q∈p.1.vars 0,0<=q.1/\q.1<274877906944)->
 PC E 243 [.agg f.view,.i at_,.i dp,.agg s.view] (.agg (f.re (fun b t=>t.re (xy at_ s) b) dp).view):=by
 intro n;induction n with
 |zero=>intro f dp h;have:=f.full_pos;omega
 |succ n ih=>
 intro f dp hsz hn h1 h2 hf hix;have hsz':=f.full_eq;have hlen:=zg Fm.full Fm.full_pos f.args;have hlen2:=zg Tm.full Tm.full_pos f.terms;have hup:=Zk8 f.kind dp;have hpl:=Zie f.kind dp;have hb:=Zf6 f;have he:=Fm.re_eq (fun b t=>t.re (xy at_ s) b) dp f;have htm:=f.tms_eq 0;refine M.F Tryz.func243 ?_;refine M.w0 ?_;refine M.rt f.terms.length (fun m=>([(1,.i at_),(2,.i dp),(4,.ptr 0 0),(7,.ptr 1 0),(8,.ptr 2 0),(9,.ptr 3 0),(20,.s .tm f.terms),(21,.i f.terms.length),(22,.i m)],⟨5,[(0,.var f.view),(1,.var s.view),(2,.var [.i 0,.i 0,.slice .nil (.t .ty []),.slice .nil (.t .tm []),.slice .nil (.t .fm [])]),(3,.var [.i f.kind,.i f.ty.kind,.s .ty f.ty.args,.slice (.own 4) (.t .tm ((f.terms.take m).map fun t=>t.re (xy at_ s) dp)),.slice .nil (.t .fm [])]),(4,.row)]⟩))
  (M.W rn4) ?_ ?_
 ·intro m hm _;have hs2:=zc Tm.full (List.getElem_mem hm);have hc:=Yju at_ s hat hs hsf hsi _ f.terms[m] dp (Nat.le_refl _) (by omega) (by omega) (by omega) (yi hf (List.getElem_mem hm)) (fun p hp=>hix (f.terms[m],0) (by rw[htm];exact List.mem_append_left _ (List.mem_map.2 ⟨_,List.getElem_mem hm,rfl⟩)) p hp);refine M.w1 @hc ?_;exact⟨rfl,trivial,(M.W [some 0,some 1,some 2,some 3,some 6] (he:=(by(repeat'(first|exact trivial|exact Or.inr ⟨_,U,rfl⟩|refine And.intro ?_ ?_|refine⟨_,U,_,U,_,U,?_⟩|exact VLe.refl _|exact VLe.of_eq (by simp[Sto.upd,ym _ _ _ hm])));done)))⟩
 ·intro _;simp only[List.take_length];refine M.w0 ?_;refine M.rt f.args.length (fun m=>([(1,.i at_),(2,.i dp),(4,.ptr 0 0),(7,.ptr 1 0),(8,.ptr 2 0),(9,.ptr 3 0),(38,.s .fm f.args),(39,.i f.args.length),(40,.i m)],⟨6,[(0,.var f.view),(1,.var s.view),(2,.var [.i 0,.i 0,.slice .nil (.t .ty []),.slice .nil (.t .tm []),.slice .nil (.t .fm [])]),(3,.var [.i f.kind,.i f.ty.kind,.s .ty f.ty.args,.slice (.own 4) (.t .tm (f.terms.map fun t=>t.re (xy at_ s) dp)),.slice (.own 5) (.t .fm ((f.args.take m).map fun x=>x.re (fun b t=>t.re (xy at_ s) b) (upF f.kind dp)))]),(4,.row),(5,.row)]⟩))
   (M.W rn5) ?_ ?_
  ·intro m hm _;have hs2:=zc Fm.full (List.getElem_mem hm);have hc:=ih f.args[m] (upF f.kind dp) (by omega) (by omega) (by omega) (by omega) (zx hf (List.getElem_mem hm)) (fun p hp q hq=>by
    obtain⟨p',hp',hpe⟩:=Zm0 (b':=upF f.kind 0) p hp;rw[<-hpe] at hq;exact hix p' (by rw[htm];exact List.mem_append_right _ (List.mem_flatMap.2 ⟨_,List.getElem_mem hm,hp'⟩)) q hq)
   rw[<-hpl] at hc;simp only[<-hpl];refine M.w2 @hb @hc ?_;exact⟨rfl,trivial,(M.W [some 0,some 1,some 2,some 3,some 4,some 7] (he:=(by(repeat'(first|exact trivial|exact Or.inr ⟨_,U,rfl⟩|refine And.intro ?_ ?_|refine⟨_,U,_,U,_,U,?_⟩|exact VLe.refl _|exact VLe.of_eq (by simp[Sto.upd,ym _ _ _ hm])));done)))⟩
  ·intro _;simp only[List.take_length];refine M.w0 ?_;rw[he]
   rfl
theorem Yic(f:Fm)(at_:Int)(s:Tm)(hf:f.full<549755813888)(hs:s.full<549755813888):PC E 219 [.agg f.view,.i at_,.agg s.view] (.tup [.agg (if xi f at_ s=0 then f.put at_ s else noFm).view,.i (xi f at_ s)]):=by
 have h1:=Zc3 f hf;have h2:=Zah s (by omega);by_cases he:f.err=0;case neg=>
  have e:xi f at_ s=f.err:=by simp only[xi];rw[if_pos he]
  rw[e,if_neg he];refine M.F Tryz.func219 ?_;(repeat' first|refine M.o1 @h1 ?_|refine M.z1 4 ?_|refine M.cs ?_ ?_<;>intro h|refine M.gk ?_|fail);all_goals first
   |rfl
   |(exfalso;simp at h;exact he h)
 rw[he] at h1;by_cases ha:0<=at_/\at_<=4096;case neg=>
  have e:xi f at_ s=1:=by simp only[xi];rw[if_neg (by simp[he]),if_pos ha]
  rw[e,if_neg (by decide)];refine M.F Tryz.func219 ?_;(repeat' first|refine M.o1 @h1 ?_|refine M.gs ?_ ?_<;>intro h|refine M.z1 6 ?_|refine M.cs ?_ ?_<;>intro h|refine M.gk ?_|fail);all_goals first
   |rfl
   |(exfalso;simp at h;omega)
   |(exfalso;simp at*;omega)
 by_cases hse:s.err=0;case neg=>
  have e:xi f at_ s=s.err:=by simp only[xi];rw[if_neg (by simp[he]),if_neg (by simp;omega),if_pos hse]
  rw[e,if_neg hse];refine M.F Tryz.func219 ?_;(repeat' first|refine M.o2 @h1 @h2 ?_|refine M.gs ?_ ?_<;>intro h|refine M.z2 5 9 ?_|refine M.cs ?_ ?_<;>intro h|refine M.gk ?_|fail);all_goals first
   |rfl
   |(exfalso;simp at h;omega)
   |(exfalso;simp at*;omega)
   |(exfalso;simp at h;exact hse h)
 rw[hse] at h2;obtain⟨hfs,hfz⟩:=(Fm.err_iff f).1 he;obtain⟨hss,hsz⟩:=ut hse;have hff:=xg he;have hsf:=yt hse;have h3:=Zv7 536870912 (by omega) _ f (Nat.le_refl _) (by omega) hfs;have h4:=Zl1 536870912 (by omega) _ s (Nat.le_refl _) (by omega) hss;rw[<-Zrb] at h3;rw[<-Zkr] at h4;by_cases hn:f.near=true/\s.near=true;case neg=>
  have hn':f.near=false\/s.near=false:=by
   cases h5:f.near with
   |false=>exact .inl rfl
   |true=>cases h6:s.near with
    |false=>exact .inr rfl
    |true=>exact absurd ⟨h5,h6⟩ hn
  have e:xi f at_ s=1:=by simp only[xi];rw[if_neg (by simp[he]),if_neg (by simp;omega),if_neg (by simp[hse]),if_pos hn']
  rw[e,if_neg (by decide)];cases h5:f.near with
  |false=>
   rw[h5] at h3;refine M.F Tryz.func219 ?_;(repeat' first|refine M.o3 @h1 @h2 @h3 ?_|refine M.gs ?_ ?_<;>intro h|refine M.z1 5 ?_|refine M.cs ?_ ?_<;>intro h|refine M.gk ?_|fail);all_goals first
    |rfl
    |(exfalso;simp at h;omega)
    |(exfalso;simp at*;omega)
  |true=>
   have h6:s.near=false:=hn'.resolve_left (by simp[h5]);rw[h5] at h3;rw[h6] at h4;refine M.F Tryz.func219 ?_;(repeat' first|refine M.o4 @h1 @h2 @h3 @h4 ?_|refine M.gs ?_ ?_<;>intro h|refine M.z1 5 ?_|refine M.cs ?_ ?_<;>intro h|refine M.gk ?_|fail);all_goals first
    |rfl
    |(exfalso;simp at h;omega)
    |(exfalso;simp at*;omega)
 obtain⟨hn1,hn2⟩:=hn;rw[hn1] at h3;rw[hn2] at h4;have h5:=Zgn _ f (Nat.le_refl _) (by omega);have h6:=Zv5 _ f at_ (Nat.le_refl _) (by omega) (by omega) (by omega) hfs;have h7:=y7 _ s (Nat.le_refl _) (by omega);have htl:=Zck at_ f;have hsp:=s.size_pos;have hsl:=s.size_le_full;have hfl:=f.size_le_full;have hm:=Ye1 (zp at_ f) (s.size-1) (by omega) (by omega);have hm': -9223372036854775808<=(zp at_ f:Int)*(s.size-1)/\(zp at_ f:Int)*(s.size-1)<=9223372036854775807:=by omega
 have ee:xi f at_ s=if(f.size:Int)+zp at_ f*(s.size-1)>4096 then 4 else 0:=by
  simp only[xi,zp];rw[if_neg (by simp[he]),if_neg (by simp;omega),if_neg (by simp[hse]),if_neg (by simp[hn1,hn2])]
  rfl
 have hput:f.put at_ s=f.re (fun b t=>t.re (xy at_ s) b) 0:=Ygb at_ s 0 f;have h8:=Yk4 at_ s (by omega) hss (by omega) (fun p hp=>⟨s.vars_nonneg hss 0 p hp,by have:=Zly hn2 p hp;omega⟩) _ f 0 (Nat.le_refl _) (by omega) (by omega) (by omega) hfs (fun p hp q hq=>by have:=Zs5 he hn1 p hp q hq;have h9:=List.all_eq_true.1 hn1 p hp;have:=Zly h9 q hq;omega);rw[<-hput] at h8;by_cases hz:(f.size:Int)+zp at_ f*(s.size-1)>4096
 ·rw[if_pos hz] at ee;rw[ee,if_neg (by decide)];clear h8 hput;refine M.F Tryz.func219 ?_;(repeat' first|refine M.o6 @h1 @h2 @h3 @h4 @h5 @h6 ?_|refine M.c2 (h7) ?_|refine M.gs ?_ ?_<;>intro h|refine M.z2 5 13 ?_|refine M.cs ?_ ?_<;>intro h|refine M.gk ?_|fail);all_goals first
   |rfl
   |(exfalso;simp at h;omega)
   |(exfalso;simp at*;omega)
 ·rw[if_neg hz] at ee;have h9:=uu _ (f.put at_ s) (Nat.le_refl _) (by have:=Zv4 ee;omega);rw[ee,if_pos rfl];refine M.F Tryz.func219 ?_;(repeat' first|refine M.o6 @h1 @h2 @h3 @h4 @h5 @h6 ?_|refine M.c2 (h7) ?_|refine M.c2 (h8) ?_|refine M.c2 (h9) ?_|refine M.gs ?_ ?_<;>intro h|refine M.z2 5 12 ?_|refine M.cs ?_ ?_<;>intro h|refine M.gk ?_|fail);all_goals first
   |rfl
   |(exfalso;simp at h;omega)
   |(exfalso;simp at*;omega)
theorem Ztz(i:Int):PC E 35 [.i i] (.agg (va i).view):=by
 refine M.F Tryz.func35 ?_;refine M.w0 ?_
 rfl
theorem Zy8(d:Dk)(hd:d.ok):AC E 10 [.ptr 0 0] ⟨1,[(0,.var d.cells)]⟩ (.agg [.s .ty d.ctx.1,.s .fm d.sqH]) ⟨1,[(0,.var d.sqD.cells)]⟩:=by
 have h1:=Yar d hd;have h2:=Za2 d.ctx.2 3 (Dk.ctx_ok hd) (by omega);have hb:=Dk.next_bd d.ctx.2 3 (by omega);have hg:=d.ctx_smalls;have hgl:=d.ctx_len;obtain⟨c,hc⟩:∃c:Nat,(d.ctx.2.next 3).1=c:=⟨(d.ctx.2.next 3).1.toNat,by omega⟩;have hcn:d.sqN=c:=by unfold Dk.sqN;omega
 have hdo:=Dk.next_ok (Dk.ctx_ok hd) 3;rw[hc] at h2 hb;have eH:d.sqH=(Dk.fms c (d.ctx.2.next 3).2 d.ctx.1).1:=by unfold Dk.sqH;rw[hcn]
 have eD:d.sqD=(Dk.fms c (d.ctx.2.next 3).2 d.ctx.1).2:=by unfold Dk.sqD;rw[hcn]
 rw[eH,eD];generalize d.ctx.1=g at*;generalize (d.ctx.2.next 3).2=d2 at*;refine M.F Tryz.func10 ?_;refine M.w2 @h1 @h2 ?_;refine AW.down c (fun m=>m<=c)
  (fun m=>([(0,.ptr 0 0),(2,.ptr 1 0),(3,.ptr 2 0),(4,.i m)],⟨4,[(0,.var (Dk.fms (c-m) d2 g).2.cells),(1,.var [.slice .nil (.t .ty []),.slice .nil (.t .fm [])]),(2,.var [.s .ty g,.slice (.own 3) (.t .fm (Dk.fms (c-m) d2 g).1)]),(3,.row)]⟩))
  (by omega) (fun m=>rfl) rfl (Nat.le_refl _) ?_ ?_ ?_
 ·simp only[Nat.sub_self];exact(M.W rn3)
 ·intro m hm hP;have e:=Dk.fms_snoc (c-(m+1)) d2 g;rw[show c-(m+1)+1=c-m by omega] at e;have h3:=Zx4 2 (Dk.fms (c-(m+1)) d2 g).2 g 2 (by omega) rfl (Dk.fms_ok _ _ _ hdo) hg (by omega);have hl:=Dk.fms_len (c-(m+1)) d2 g;refine M.w1 @h3 ?_;refine⟨rfl,by omega,?_⟩;simp only[e];exact(M.W [some 0,some 1,some 2,some 4])
 ·intro _;simp only[Nat.sub_zero];refine M.w0 ?_
  (exact M.n2 rh1 (h8:=(by simp[zn,V.wk,V.wks,za,Ty.view,Tm.view,V.frz])))
theorem wu(k v h:Int)(nd:Nd)(hnd:ndP k=some nd)(m:Nat)(hm:m<=1000000)(hv:0<=v/\v<=1000000000000)(hh:0<=h/\h<=1000000000000):
 PC E 165 [.agg [.i v,.i h],.agg (ruC k),.i m] (.agg [.i (if(m:Int)=(nd.args:Int)-1 then v+vaK k else v),.i (if(m:Int)=(nd.args:Int)-1 then h+hyK k else h)]):=by
 have e2:ruC k=[.bool nd.index,.bool nd.typ,.i nd.terms,.i nd.forms,.i nd.args,.i (fvK k),.i (vaK k),.i (hyK k)]:=by unfold ruC;rw[hnd]
 have b1:0<=vaK k/\vaK k<=2:=by unfold vaK;split<;>(try split)<;>omega
 have b2:0<=hyK k/\hyK k<=1:=by unfold hyK;split<;>omega
 have b3:(nd.args:Int)<=2:=by
  have:nd.args<=2:=by
   unfold ndP at hnd
   repeat(split at hnd;· cases hnd;decide)
   cases hnd
  omega
 rw[e2];by_cases hl:(m:Int)=(nd.args:Int)-1
 ·rw[if_pos hl,if_pos hl];refine M.F Tryz.func165 ?_;(repeat' first|refine M.w0 ?_|refine M.cs ?_ ?_<;>intro h|fail);all_goals first
   |rfl
   |(exfalso;simp at h;omega)
   |trace_state
 ·rw[if_neg hl,if_neg hl];refine M.F Tryz.func165 ?_;(repeat' first|refine M.w0 ?_|refine M.cs ?_ ?_<;>intro h|fail);all_goals first
   |rfl
   |(exfalso;simp at h;omega)
   |trace_state
end Go.Ab
