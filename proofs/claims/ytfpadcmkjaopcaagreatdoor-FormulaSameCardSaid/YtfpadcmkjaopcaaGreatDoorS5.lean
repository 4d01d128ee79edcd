/- A part of the proofs of this seat's statements: S43, S44, S45, S46, S47, S54, S62, S82. It has no conditions of its own. -/
import Derived.Test.YtfpadcmkjaopcaaGreatDoorA2
import Derived.Test.YtfpadcmkjaopcaaGreatDoorS4
import Derived.Test.YtfpadcmkjaopcaaGreatDoorD1
namespace Go.Ab
open Go Go.Proofs
set_option maxRecDepth 100000
set_option maxHeartbeats 4000000
set_option linter.all false
theorem copyFm_c:∀(b:Nat) (f:Fm),f.full≤b→b<1099511627776→PC E 61 [.agg f.view] (.agg f.view):=by
 intro b
 induction b with
 |zero=>intro f h;have:=f.full_pos;omega
 |succ b ih=>
 intro f hsz hb
 have hsz':=f.full_eq
 have hlen:=lsum_len Fm.full Fm.full_pos f.args
 have hlen2:=lsum_len Tm.full Tm.full_pos f.terms
 have hty:=copyTy_c _ f.ty (Nat.le_refl _) (by omega)
 refine M.F Tryz.func61 ?_
 repeat'(first|refine M.gw ?_|refine M.c2 (hty) ?_|fail)
 refine AW.range f.terms.length (fun m=>True)
  (fun m=>([(1,.ptr 0 0),(2,.ptr 1 0),(3,.ptr 2 0),(15,.s .tm f.terms),(16,.i f.terms.length),(17,.i m)],⟨4,[(0,.var f.view),(1,.var [.i 0,.i 0,.slice .nil (.t .ty []),.slice .nil (.t .tm []),.slice .nil (.t .fm [])]),(2,.var [.i f.kind,.i f.ty.kind,.s .ty f.ty.args,.slice (.own 3) (.t .tm (f.terms.take m)),.slice .nil (.t .fm [])]),(3,.row)]⟩))
  (by omega) (fun m=>rfl) (fun m=>rfl) rfl trivial (M.W [some 0,some 1,some 2,none]) ?_ ?_
 ·intro m hm _
  have hs2:=lsum_mem Tm.full (List.getElem_mem hm)
  repeat'(first|refine M.gw ?_|refine M.c2 (copyTm_c _ _ (Nat.le_refl _) ?_) ?_|exact M.lt|fail)
  exact⟨rfl,trivial,(M.W [some 0,some 1,some 2,some 5] (he:=(by(repeat'(first|exact trivial|exact Or.inr ⟨_,U,rfl⟩|refine And.intro ?_ ?_|refine⟨_,U,_,U,_,U,?_⟩|exact VLe.refl _|exact VLe.of_eq (by simp[Sto.upd,List.take_append_getElem])));done)))⟩
 ·intro _
  simp only[List.take_length]
  repeat'(first|refine M.gw ?_|fail)
  refine AW.range f.args.length (fun m=>True)
   (fun m=>([(1,.ptr 0 0),(2,.ptr 1 0),(3,.ptr 2 0),(30,.s .fm f.args),(31,.i f.args.length),(32,.i m)],⟨5,[(0,.var f.view),(1,.var [.i 0,.i 0,.slice .nil (.t .ty []),.slice .nil (.t .tm []),.slice .nil (.t .fm [])]),(2,.var [.i f.kind,.i f.ty.kind,.s .ty f.ty.args,.slice (.own 3) (.t .tm f.terms),.slice (.own 4) (.t .fm (f.args.take m))]),(3,.row),(4,.row)]⟩))
   (by omega) (fun m=>rfl) (fun m=>rfl) rfl trivial (M.W [some 0,some 1,some 2,some 3,none]) ?_ ?_
  ·intro m hm _
   have hs2:=lsum_mem Fm.full (List.getElem_mem hm)
   repeat'(first|refine M.gw ?_|refine M.c2 (ih _ ?_ ?_) ?_|exact M.le|exact M.lt|fail)
   exact⟨rfl,trivial,(M.W [some 0,some 1,some 2,some 3,some 6] (he:=(by(repeat'(first|exact trivial|exact Or.inr ⟨_,U,rfl⟩|refine And.intro ?_ ?_|refine⟨_,U,_,U,_,U,?_⟩|exact VLe.refl _|exact VLe.of_eq (by simp[Sto.upd,List.take_append_getElem])));done)))⟩
  ·intro _
   simp only[List.take_length]
   repeat'(first|refine M.gw ?_|fail)
   rfl
theorem eqFm_c(a b:Tm)(ha:a.full<1099511627776)(hb:b.full<1099511627776):PC E 29 [.agg a.view,.agg b.view] (.agg (eqF a b).view):=by
 have h1:=copyTm_c _ a (Nat.le_refl _) ha
 have h2:=copyTm_c _ b (Nat.le_refl _) hb
 refine M.F Tryz.func29 ?_
 repeat'(first|refine M.gw ?_|refine M.c2 (h1) ?_|refine M.c2 (h2) ?_|fail)
 rfl
theorem twoFm_c(k:Int)(a b:Fm)(ha:a.full<1099511627776)(hb:b.full<1099511627776):PC E 26 [.i k,.agg a.view,.agg b.view] (.agg (Fm.mk k (.mk 0 []) [] [a,b]).view):=by
 have h1:=copyFm_c _ a (Nat.le_refl _) ha
 have h2:=copyFm_c _ b (Nat.le_refl _) hb
 refine M.F Tryz.func26 ?_
 repeat'(first|refine M.gw ?_|refine M.c2 (h1) ?_|refine M.c2 (h2) ?_|fail)
 rfl
theorem qFm_c(k:Int)(s:Ty)(f:Fm)(hs:s.size<1099511627776)(hf:f.full<1099511627776):PC E 27 [.i k,.agg s.view,.agg f.view] (.agg (Fm.mk k s [] [f]).view):=by
 have h1:=copyTy_c _ s (Nat.le_refl _) hs
 have h2:=copyFm_c _ f (Nat.le_refl _) hf
 refine M.F Tryz.func27 ?_
 repeat'(first|refine M.gw ?_|refine M.c2 (h1) ?_|refine M.c2 (h2) ?_|fail)
 rfl
theorem type0_c(d:Dk)(h:d.ok):AC E 8 [.ptr 0 0,.i 0] ⟨1,[(0,.var d.cells)]⟩ (.agg (d.type 0).1.view) ⟨1,[(0,.var (d.type 0).2.cells)]⟩:=type_c 0 0 d (by omega) (by omega) (by omega) h
theorem mkFm_c:∀(n:Nat) (d:Dk) (g:List Ty) (k:Int),n≤3→k=n→d.ok→smalls g→g.length+n≤5000→
 AC E 9 [.ptr 0 0,.s .ty g,.i k] ⟨1,[(0,.var d.cells)]⟩ (.agg (Dk.fm n d g).1.view) ⟨1,[(0,.var (Dk.fm n d g).2.cells)]⟩:=by
 have bd:∀(n:Nat) (d:Dk) (g:List Ty),n≤3→smalls g→(Dk.fm n d g).1.full≤10000:=fun n d g hn hg=>by
  have h1:=(Dk.fm_good n d g hg).2.2
  have h2:2^n≤2^3:=Nat.pow_le_pow_right (by omega) hn
  omega
 have eqc:∀(d:Dk) (g:List Ty),d.ok→smalls g→g.length≤5000→∃(x:Tm) (d1:Dk) (y:Tm) (d2:Dk),d.eqf g=(eqF x y,d2)∧x.full≤1000∧y.full≤1000∧
  AC E 11 [.ptr 0 0,.s .ty g,.agg natT.view,.i 1] ⟨1,[(0,.var d.cells)]⟩ (.agg x.view) ⟨1,[(0,.var d1.cells)]⟩∧
  AC E 11 [.ptr 0 0,.s .ty g,.agg natT.view,.i 1] ⟨1,[(0,.var d1.cells)]⟩ (.agg y.view) ⟨1,[(0,.var d2.cells)]⟩:=fun d g hd hg hl=>by
  have d1:=Dk.tm_ok 3 d g natT hd
  have m1:=(Dk.tm_mk 3 d g natT hg small_nat (by omega) (by omega)).full hg small_nat
  have m2:=(Dk.tm_mk 3 (Dk.tm 3 d g natT).2 g natT hg small_nat (by omega) (by omega)).full hg small_nat
  exact⟨_,_,_,_,rfl,by omega,by omega,term_c 3 (by omega) d g natT 1 (by omega) hd hg small_nat (by omega) (by omega) (by omega),
   term_c 3 (by omega) (Dk.tm 3 d g natT).2 g natT 1 (by omega) d1 hg small_nat (by omega) (by omega) (by omega)⟩
 intro n
 induction n with
 |zero=>
  intro d g k _ hk hd hg hl
  obtain⟨x,d1,y,d2,e,fx,fy,h1,h2⟩:=eqc d g hd hg (by omega)
  have he:=eqFm_c x y (by omega) (by omega)
  rw[show Dk.fm 0 d g=(eqF x y,d2) from e]
  obtain rfl:k=0:=hk
  refine M.F Tryz.func9 ?_
  repeat'(first|refine M.gw ?_|refine M.c2 (nat_c) ?_|refine M.cb (h1) [0] 0 ?_|refine M.cb (h2) [0] 0 ?_|refine M.c2 (he) ?_|fail)
  (exact M.n2 [some 0] (h8:=(by simp[tupV,V.wk,V.wks,constV,Ty.view,Tm.view,eqF,Fm.view])))
 |succ n ih=>
 intro d g k hn hk hd hg hl
 have h9:=next_c d 9 hd (by omega)
 have hbd:=Dk.next_bd d 9 (by omega)
 have d9:=Dk.next_ok hd 9
 have hkp:k>0:=by omega
 have efm:Dk.fm (n+1) d g=Dk.fm (n+1) d g:=rfl
 conv at efm=>rhs;rw[Dk.fm]
 generalize hr:(d.next 9).1=r at*
 generalize (d.next 9).2=e1 at*
 have hr9:r=0∨r=1∨r=2∨r=3∨r=4∨r=5∨r=6∨r=7∨r=8:=by omega
 rcases hr9 with rfl|rfl|rfl|rfl|rfl|rfl|rfl|rfl|rfl
 ·simp only[show((0:Int)=1)=False by simp,show((0:Int)=2)=False by simp,show((0:Int)=3)=False by simp,show((0:Int)=4)=False by simp,show((0:Int)=5)=False by simp,show((0:Int)=6)=False by simp,if_false,if_true,or_self,or_true,true_or,or_false,false_or] at efm
  rw[efm]
  have a1:=ih e1 g (k-1) (by omega) (by omega) d9 hg (by omega)
  have f1:=bd n e1 g (by omega) hg
  have k1:=Dk.fm_ok n e1 g d9
  generalize (Dk.fm n e1 g).1=x at*
  generalize (Dk.fm n e1 g).2=e2 at*
  have a2:=ih e2 g (k-1) (by omega) (by omega) k1 hg (by omega)
  have f2:=bd n e2 g (by omega) hg
  generalize (Dk.fm n e2 g).1=y at*
  generalize (Dk.fm n e2 g).2=e3 at*
  have hw:=twoFm_c 2 x y (by omega) (by omega)
  refine M.F Tryz.func9 ?_
  repeat'(first|refine M.gw ?_|refine M.cb (h9) [0] 0 ?_|refine M.cb (a1) [0] 0 ?_|refine M.cb (a2) [0] 0 ?_|refine M.c2 (hw) ?_|refine M.bl ?_|refine M.cs ?_ ?_<;>intro h|fail)
  all_goals first
   |(exfalso;simp at h;omega)
   |skip
  (exact M.n2 [some 0] (h8:=(by simp[tupV,V.wk,V.wks,constV,Ty.view,Tm.view,twoF,Fm.view])))
 ·simp only[show((1:Int)=0)=False by simp,show((1:Int)=2)=False by simp,show((1:Int)=3)=False by simp,show((1:Int)=4)=False by simp,show((1:Int)=5)=False by simp,show((1:Int)=6)=False by simp,if_false,if_true,or_self,or_true,true_or,or_false,false_or] at efm
  rw[efm]
  have a1:=ih e1 g (k-1) (by omega) (by omega) d9 hg (by omega)
  have f1:=bd n e1 g (by omega) hg
  have k1:=Dk.fm_ok n e1 g d9
  generalize (Dk.fm n e1 g).1=x at*
  generalize (Dk.fm n e1 g).2=e2 at*
  have a2:=ih e2 g (k-1) (by omega) (by omega) k1 hg (by omega)
  have f2:=bd n e2 g (by omega) hg
  generalize (Dk.fm n e2 g).1=y at*
  generalize (Dk.fm n e2 g).2=e3 at*
  have hw:=twoFm_c 3 x y (by omega) (by omega)
  refine M.F Tryz.func9 ?_
  repeat'(first|refine M.gw ?_|refine M.cb (h9) [0] 0 ?_|refine M.cb (a1) [0] 0 ?_|refine M.cb (a2) [0] 0 ?_|refine M.c2 (hw) ?_|refine M.bl ?_|refine M.cs ?_ ?_<;>intro h|fail)
  all_goals first
   |(exfalso;simp at h;omega)
   |skip
  (exact M.n2 [some 0] (h8:=(by simp[tupV,V.wk,V.wks,constV,Ty.view,Tm.view,twoF,Fm.view])))
 ·simp only[show((2:Int)=0)=False by simp,show((2:Int)=1)=False by simp,show((2:Int)=3)=False by simp,show((2:Int)=4)=False by simp,show((2:Int)=5)=False by simp,show((2:Int)=6)=False by simp,if_false,if_true,or_self,or_true,true_or,or_false,false_or] at efm
  rw[efm]
  have a1:=ih e1 g (k-1) (by omega) (by omega) d9 hg (by omega)
  have f1:=bd n e1 g (by omega) hg
  have k1:=Dk.fm_ok n e1 g d9
  generalize (Dk.fm n e1 g).1=x at*
  generalize (Dk.fm n e1 g).2=e2 at*
  have a2:=ih e2 g (k-1) (by omega) (by omega) k1 hg (by omega)
  have f2:=bd n e2 g (by omega) hg
  generalize (Dk.fm n e2 g).1=y at*
  generalize (Dk.fm n e2 g).2=e3 at*
  have hw:=twoFm_c 3 x y (by omega) (by omega)
  refine M.F Tryz.func9 ?_
  repeat'(first|refine M.gw ?_|refine M.cb (h9) [0] 0 ?_|refine M.cb (a1) [0] 0 ?_|refine M.cb (a2) [0] 0 ?_|refine M.c2 (hw) ?_|refine M.bl ?_|refine M.cs ?_ ?_<;>intro h|fail)
  all_goals first
   |(exfalso;simp at h;omega)
   |skip
  (exact M.n2 [some 0] (h8:=(by simp[tupV,V.wk,V.wks,constV,Ty.view,Tm.view,twoF,Fm.view])))
 ·simp only[show((3:Int)=0)=False by simp,show((3:Int)=1)=False by simp,show((3:Int)=2)=False by simp,show((3:Int)=4)=False by simp,show((3:Int)=5)=False by simp,show((3:Int)=6)=False by simp,if_false,if_true,or_self,or_true,true_or,or_false,false_or] at efm
  rw[efm]
  have ts:=type1_c e1 d9
  have ss:=Dk.type1 e1
  have k1:=Dk.type_ok 1 e1 d9
  generalize (e1.type 1).1=s at*
  generalize (e1.type 1).2=e2 at*
  have gs:=smalls_app hg (smalls_cons ss smalls_nil)
  have hlg:=longer_c g [s] (by simp;omega)
  have a1:=ih e2 (g++[s]) (k-1) (by omega) (by omega) k1 gs (by simp;omega)
  have f1:=bd n e2 (g++[s]) (by omega) gs
  generalize (Dk.fm n e2 (g++[s])).1=x at*
  generalize (Dk.fm n e2 (g++[s])).2=e3 at*
  have hw:=qFm_c 4 s x (by have:=ss.2;omega) (by omega)
  refine M.F Tryz.func9 ?_
  repeat'(first|refine M.gw ?_|refine M.cb (h9) [0] 0 ?_|refine M.cb (ts) [0] 0 ?_|refine M.c2 (hlg) ?_|refine M.cb (a1) [0] 0 ?_|refine M.c2 (hw) ?_|refine M.bl ?_|refine M.cs ?_ ?_<;>intro h|fail)
  all_goals first
   |(exfalso;simp at h;omega)
   |skip
  (exact M.n2 [some 0] (h8:=(by simp[tupV,V.wk,V.wks,constV,Ty.view,Tm.view,quF,Fm.view])))
 ·simp only[show((4:Int)=0)=False by simp,show((4:Int)=1)=False by simp,show((4:Int)=2)=False by simp,show((4:Int)=3)=False by simp,show((4:Int)=5)=False by simp,show((4:Int)=6)=False by simp,if_false,if_true,or_self,or_true,true_or,or_false,false_or] at efm
  rw[efm]
  have ts:=type1_c e1 d9
  have ss:=Dk.type1 e1
  have k1:=Dk.type_ok 1 e1 d9
  generalize (e1.type 1).1=s at*
  generalize (e1.type 1).2=e2 at*
  have gs:=smalls_app hg (smalls_cons ss smalls_nil)
  have hlg:=longer_c g [s] (by simp;omega)
  have a1:=ih e2 (g++[s]) (k-1) (by omega) (by omega) k1 gs (by simp;omega)
  have f1:=bd n e2 (g++[s]) (by omega) gs
  generalize (Dk.fm n e2 (g++[s])).1=x at*
  generalize (Dk.fm n e2 (g++[s])).2=e3 at*
  have hw:=qFm_c 4 s x (by have:=ss.2;omega) (by omega)
  refine M.F Tryz.func9 ?_
  repeat'(first|refine M.gw ?_|refine M.cb (h9) [0] 0 ?_|refine M.cb (ts) [0] 0 ?_|refine M.c2 (hlg) ?_|refine M.cb (a1) [0] 0 ?_|refine M.c2 (hw) ?_|refine M.bl ?_|refine M.cs ?_ ?_<;>intro h|fail)
  all_goals first
   |(exfalso;simp at h;omega)
   |skip
  (exact M.n2 [some 0] (h8:=(by simp[tupV,V.wk,V.wks,constV,Ty.view,Tm.view,quF,Fm.view])))
 ·simp only[show((5:Int)=0)=False by simp,show((5:Int)=1)=False by simp,show((5:Int)=2)=False by simp,show((5:Int)=3)=False by simp,show((5:Int)=4)=False by simp,show((5:Int)=6)=False by simp,if_false,if_true,or_self,or_true,true_or,or_false,false_or] at efm
  rw[efm]
  have ts:=type1_c e1 d9
  have ss:=Dk.type1 e1
  have k1:=Dk.type_ok 1 e1 d9
  generalize (e1.type 1).1=s at*
  generalize (e1.type 1).2=e2 at*
  have gs:=smalls_app hg (smalls_cons ss smalls_nil)
  have hlg:=longer_c g [s] (by simp;omega)
  have a1:=ih e2 (g++[s]) (k-1) (by omega) (by omega) k1 gs (by simp;omega)
  have f1:=bd n e2 (g++[s]) (by omega) gs
  generalize (Dk.fm n e2 (g++[s])).1=x at*
  generalize (Dk.fm n e2 (g++[s])).2=e3 at*
  have hw:=qFm_c 5 s x (by have:=ss.2;omega) (by omega)
  refine M.F Tryz.func9 ?_
  repeat'(first|refine M.gw ?_|refine M.cb (h9) [0] 0 ?_|refine M.cb (ts) [0] 0 ?_|refine M.c2 (hlg) ?_|refine M.cb (a1) [0] 0 ?_|refine M.c2 (hw) ?_|refine M.bl ?_|refine M.cs ?_ ?_<;>intro h|fail)
  all_goals first
   |(exfalso;simp at h;omega)
   |skip
  (exact M.n2 [some 0] (h8:=(by simp[tupV,V.wk,V.wks,constV,Ty.view,Tm.view,quF,Fm.view])))
 ·simp only[show((6:Int)=0)=False by simp,show((6:Int)=1)=False by simp,show((6:Int)=2)=False by simp,show((6:Int)=3)=False by simp,show((6:Int)=4)=False by simp,show((6:Int)=5)=False by simp,if_false,if_true,or_self,or_true,true_or,or_false,false_or] at efm
  rw[efm]
  have ts:=type0_c e1 d9
  have ss0:=Dk.type0 e1
  have ss:=small_one ss0.1 ss0.2
  have k1:=Dk.type_ok 0 e1 d9
  generalize (e1.type 0).1=s at*
  generalize (e1.type 0).2=e2 at*
  have h2:=next_c e2 2 k1 (by omega)
  have hb2:=Dk.next_bd e2 2 (by omega)
  have k2:=Dk.next_ok k1 2
  generalize (e2.next 2).1=u at*
  generalize (e2.next 2).2=e3 at*
  have gs:=smalls_app hg (smalls_cons ss smalls_nil)
  have hlg:=longer_c g [s] (by simp;omega)
  have a1:=ih e3 (g++[s]) (k-1) (by omega) (by omega) k2 gs (by simp;omega)
  have f1:=bd n e3 (g++[s]) (by omega) gs
  generalize (Dk.fm n e3 (g++[s])).1=x at*
  generalize (Dk.fm n e3 (g++[s])).2=e4 at*
  have hw:=qFm_c (6+u) s x (by have:=ss.2;omega) (by omega)
  refine M.F Tryz.func9 ?_
  repeat'(first|refine M.gw ?_|refine M.cb (h9) [0] 0 ?_|refine M.cb (ts) [0] 0 ?_|refine M.cb (h2) [0] 0 ?_|refine M.c2 (hlg) ?_|refine M.cb (a1) [0] 0 ?_|refine M.c2 (hw) ?_|refine M.bl ?_|refine M.cs ?_ ?_<;>intro h|fail)
  all_goals first
   |(exfalso;simp at h;omega)
   |skip
  (exact M.n2 [some 0] (h8:=(by simp[tupV,V.wk,V.wks,constV,Ty.view,Tm.view,quF,Fm.view])))
 ·simp only[show((7:Int)=0)=False by simp,show((7:Int)=1)=False by simp,show((7:Int)=2)=False by simp,show((7:Int)=3)=False by simp,show((7:Int)=4)=False by simp,show((7:Int)=5)=False by simp,show((7:Int)=6)=False by simp,if_false,if_true,or_self,or_true,true_or,or_false,false_or] at efm
  rw[efm]
  obtain⟨x,d1,y,d2,e,fx,fy,h1,h2⟩:=eqc e1 g d9 hg (by omega)
  rw[e]
  have he:=eqFm_c x y (by omega) (by omega)
  refine M.F Tryz.func9 ?_
  repeat'(first|refine M.gw ?_|refine M.cb (h9) [0] 0 ?_|refine M.c2 (nat_c) ?_|refine M.cb (h1) [0] 0 ?_|refine M.cb (h2) [0] 0 ?_|refine M.c2 (he) ?_|refine M.bl ?_|refine M.cs ?_ ?_<;>intro h|fail)
  all_goals first
   |(exfalso;simp at h;omega)
   |skip
  (exact M.n2 [some 0] (h8:=(by simp[tupV,V.wk,V.wks,constV,Ty.view,Tm.view,eqF,Fm.view])))
 ·simp only[show((8:Int)=0)=False by simp,show((8:Int)=1)=False by simp,show((8:Int)=2)=False by simp,show((8:Int)=3)=False by simp,show((8:Int)=4)=False by simp,show((8:Int)=5)=False by simp,show((8:Int)=6)=False by simp,if_false,if_true,or_self,or_true,true_or,or_false,false_or] at efm
  rw[efm]
  obtain⟨x,d1,y,d2,e,fx,fy,h1,h2⟩:=eqc e1 g d9 hg (by omega)
  rw[e]
  have he:=eqFm_c x y (by omega) (by omega)
  refine M.F Tryz.func9 ?_
  repeat'(first|refine M.gw ?_|refine M.cb (h9) [0] 0 ?_|refine M.c2 (nat_c) ?_|refine M.cb (h1) [0] 0 ?_|refine M.cb (h2) [0] 0 ?_|refine M.c2 (he) ?_|refine M.bl ?_|refine M.cs ?_ ?_<;>intro h|fail)
  all_goals first
   |(exfalso;simp at h;omega)
   |skip
  (exact M.n2 [some 0] (h8:=(by simp[tupV,V.wk,V.wks,constV,Ty.view,Tm.view,eqF,Fm.view])))
theorem sameAllTm_r(l:List Tm)(h:(l.map Tm.full).sum<1099511627776):PC E 57 [.s .tm l,.s .tm l] (.bool true):=by
 have hlen:=lsum_len Tm.full Tm.full_pos l
 refine M.F Tryz.func57 ?_
 repeat'(first|refine M.gw ?_|refine M.cs ?_ ?_<;>intro h|fail)
 ·exfalso;simp at h
 refine AW.range l.length (fun m=>True) (fun m=>([(0,.s .tm l),(1,.s .tm l),(11,.s .tm l),(12,.i l.length),(13,.i m)],⟨0,[]⟩))
  (by omega) (fun m=>rfl) (fun m=>rfl) rfl trivial (M.W []) ?_ ?_
 ·intro m hm _
  have hs2:=lsum_mem Tm.full (List.getElem_mem hm)
  have hc:=sameTm_r l[m] (by omega)
  repeat'(first|refine M.gw ?_|refine M.c2 (hc) ?_|fail)
  exact⟨rfl,trivial,(M.W [])⟩
 ·intro _
  repeat'(first|refine M.gw ?_|fail)
  rfl
theorem sameFm_r:∀(n:Nat) (f:Fm),f.full≤n→n<1099511627776→PC E 17 [.agg f.view,.agg f.view] (.bool true):=by
 intro n
 induction n with
 |zero=>intro f h;have:=f.full_pos;omega
 |succ n ih=>
 intro f hsz hn
 have hsz':=f.full_eq
 have hlen:=lsum_len Fm.full Fm.full_pos f.args
 have h1:=sameTy_r f.ty (by omega)
 have h2:=sameAllTm_r f.terms (by omega)
 refine M.F Tryz.func17 ?_
 repeat'(first|refine M.gw ?_|refine M.c2 (h1) ?_|refine M.c2 (h2) ?_|refine M.gs ?_ ?_<;>intro h|refine M.cs ?_ ?_<;>intro h|fail)
 all_goals first
  |(exfalso;simp at h;done)
  |skip
 refine AW.range f.args.length (fun m=>True) (fun m=>([(2,.ptr 0 0),(3,.ptr 1 0),(37,.s .fm f.args),(38,.i f.args.length),(39,.i m)],⟨2,[(0,.var f.view),(1,.var f.view)]⟩))
  (by omega) (fun m=>rfl) (fun m=>rfl) rfl trivial (M.W [some 0,some 1]) ?_ ?_
 ·intro m hm _
  have hs2:=lsum_mem Fm.full (List.getElem_mem hm)
  have hc:=ih f.args[m] (by omega) (by omega)
  repeat'(first|refine M.gw ?_|refine M.c2 (hc) ?_|fail)
  exact⟨rfl,trivial,(M.W [some 0,some 1])⟩
 ·intro _
  repeat'(first|refine M.gw ?_|fail)
  rfl
def nearG(b:Bool)(l:List (Int×Int)):Bool:=b&&l.all fun p=>decide (p.1≤268435456)
theorem nearFFm(b:Bool)(t:Tm)(bl:Int)(ht:t.full<1099511627776):AC E 73 [.agg t.view,.i bl,.ptr 0 0] ⟨1,[(0,.var [.bool b])]⟩ (.tup []) ⟨1,[(0,.var [.bool (allP Tm.near b [(t,bl)])])]⟩:=by
 have hc:=near_c t ht
 refine M.F Tryz.func73 ?_
 repeat'(first|refine M.gw ?_|refine M.c2 (hc) ?_|refine M.gs ?_ ?_<;>intro h|fail)
 ·(exact M.n2 [some 0] (h6:=(by(repeat'(first|exact trivial|refine And.intro ?_ ?_|refine⟨_,U,_,U,_,U,?_⟩|exact VLe.of_eq (by simp[Sto.upd,allP_one,h])));done)) (h8:=(by simp[tupV,V.wk,V.wks,constV,Ty.view,Tm.view,allP_one,h])))
 ·(exact M.n2 [some 0] (h6:=(by(repeat'(first|exact trivial|refine And.intro ?_ ?_|refine⟨_,U,_,U,_,U,?_⟩|exact VLe.of_eq (by simp[Sto.upd,allP_one,h])));done)) (h8:=(by simp[tupV,V.wk,V.wks,constV,Ty.view,Tm.view,allP_one,h])))
theorem countFFm(at_ c:Int)(t:Tm)(bl:Int)(ht:t.full<549755813888)(hc0:0≤c∧c<549755813888)(ha:0≤at_∧at_<549755813888)(hb:0≤bl∧bl<549755813888)(hix:∀p∈t.vars 0,0≤p.1∧p.1<1099511627776):
 AC E 75 [.agg t.view,.i bl,.ptr 0 0,.ptr 1 0] ⟨2,[(0,.var [.i c]),(1,.var [.i at_])]⟩ (.tup []) ⟨2,[(0,.var [.i (c+cntF at_ [(t,bl)])]),(1,.var [.i at_])]⟩:=by
 have hc:=count_c t (at_+bl) ht hix
 have h1:=cnt_le (at_+bl) (t.vars 0)
 have h2:=t.vars_len 0
 have h3:=t.size_le_full
 refine M.F Tryz.func75 ?_
 repeat'(first|refine M.gw ?_|refine M.c2 (hc) ?_|fail)
 (exact M.n2 [some 0,some 1] (h8:=(by simp[tupV,V.wk,V.wks,constV,Ty.view,Tm.view,cntF])))
theorem nearFEachF:∀(n:Nat) (f:Fm) (b:Bool) (bl:Int),f.full≤n→n<549755813888→0≤bl→bl+n<549755813888→AC E 51 [.agg f.view,.i bl,.fn (.func 73) [] [.ptr 0 0]] ⟨1,[(0,.var [.bool b])]⟩ (.tup []) ⟨1,[(0,.var [.bool (allP Tm.near b (f.tms bl))])]⟩:=by
 intro n
 induction n with
 |zero=>intro f;intros;have:=f.full_pos;omega
 |succ n ih=>
 intro f b bl hsz hn hbl hbn
 have hsz':=f.full_eq
 have hlen:=lsum_len Fm.full Fm.full_pos f.args
 have hlen2:=lsum_len Tm.full Tm.full_pos f.terms
 have htm:=f.tms_eq bl
 have hq:=quantifier_c f.kind
 refine M.F Tryz.func51 ?_
 repeat'(first|refine M.gw ?_|fail)
 refine AW.range f.terms.length (fun m=>True)
  (fun m=>([(1,.i bl),(2,.fn (.func 73) [] [.ptr 0 0]),(3,.ptr 1 0),(11,.s .tm f.terms),(12,.i f.terms.length),(13,.i m)],⟨2,[(0,.var [.bool (allP Tm.near b ((f.terms.take m).map (fun t=>(t,bl))))]),(1,.var f.view)]⟩))
  (by omega) (fun m=>rfl) (fun m=>rfl) rfl trivial ?_ ?_ ?_
 ·exact (M.W [some 0,some 1] (he:=(by(repeat'(first|exact trivial|refine And.intro ?_ ?_|refine⟨_,U,_,U,_,U,?_⟩|exact VLe.refl _|exact VLe.of_eq (by simp[Sto.upd,allP_nil])));done)))
 ·intro m hm _
  have hs2:=lsum_mem Tm.full (List.getElem_mem hm)
  have hc:=nearFFm (allP Tm.near b ((f.terms.take m).map (fun t=>(t,bl)))) f.terms[m] bl (by omega)
  repeat'(first|refine M.gw ?_|refine M.cv (hc) [0] 0 ?_|fail)
  refine⟨rfl,trivial,?_⟩
  exact(M.W [some 0,some 1] (he:=(by(repeat'(first|exact trivial|refine And.intro ?_ ?_|refine⟨_,U,_,U,_,U,?_⟩|exact VLe.refl _|exact VLe.of_eq (by simp[Sto.upd,allP_append,map_take _ _ _ hm])));done)))
 ·intro _
  simp only[List.take_length]
  repeat'(first|refine M.gw ?_|refine M.c2 (hq) ?_|refine M.cs ?_ ?_<;>intro h|fail)
  all_goals
   have hup:upF f.kind bl≤bl+1:=by simp only[upF];split<;>omega
   have hup0:0≤upF f.kind bl:=by simp only[upF];split<;>omega
   refine AW.range f.args.length (fun m=>True)
    (fun m=>([(1,.i (upF f.kind bl)),(2,.fn (.func 73) [] [.ptr 0 0]),(3,.ptr 1 0),(28,.s .fm f.args),(29,.i f.args.length),(30,.i m)],⟨2,[(0,.var [.bool (allP Tm.near b (f.terms.map (fun t=>(t,bl))++(f.args.take m).flatMap (Fm.tms (upF f.kind bl))))]),(1,.var f.view)]⟩))
    (by omega) (fun m=>rfl) (fun m=>rfl) rfl trivial ?_ ?_ ?_
   ·exact (M.W [some 0,some 1] (hf:=(by(repeat'(first|exact trivial|refine And.intro ?_ ?_|refine⟨_,U,_,U,?_⟩|exact VLe.refl _|exact VLe.of_eq (by simp[Sto.upd,upF,h,allP_nil])));done)) (he:=(by(repeat'(first|exact trivial|refine And.intro ?_ ?_|refine⟨_,U,_,U,_,U,?_⟩|exact VLe.refl _|exact VLe.of_eq (by simp[Sto.upd,upF,h,allP_nil])));done)))
   ·intro m hm _
    have hs2:=lsum_mem Fm.full (List.getElem_mem hm)
    have hc:=ih f.args[m] (allP Tm.near b (f.terms.map (fun t=>(t,bl))++(f.args.take m).flatMap (Fm.tms (upF f.kind bl)))) (upF f.kind bl) (by omega) (by omega) hup0 (by omega)
    repeat'(first|refine M.gw ?_|refine M.cv (hc) [0] 0 ?_|fail)
    refine⟨rfl,trivial,?_⟩
    exact(M.W [some 0,some 1] (he:=(by(repeat'(first|exact trivial|refine And.intro ?_ ?_|refine⟨_,U,_,U,_,U,?_⟩|exact VLe.refl _|exact VLe.of_eq (by simp[Sto.upd,allP_append,flat_take _ _ _ hm])));done)))
   ·intro _
    skip
    (exact M.n2 [some 0] (h6:=(by(repeat'(first|exact trivial|refine And.intro ?_ ?_|refine⟨_,U,_,U,_,U,?_⟩|exact VLe.of_eq (by simp[Sto.upd,htm])));done)) (h8:=(by simp[tupV,V.wk,V.wks,constV,Ty.view,Tm.view,htm])))
theorem countFEachF(at_ C:Int)(ha:0≤at_∧at_<549755813888)(hC:C<549755813888):∀(n:Nat) (f:Fm) (c:Int) (bl:Int),f.full≤n→n<549755813888→0≤bl→bl+n<549755813888→0≤c→c+f.size≤C→(∀p∈f.tms bl,∀q∈p.1.vars 0,0≤q.1∧q.1<1099511627776)→AC E 51 [.agg f.view,.i bl,.fn (.func 75) [] [.ptr 0 0,.ptr 1 0]] ⟨2,[(0,.var [.i c]),(1,.var [.i at_])]⟩ (.tup []) ⟨2,[(0,.var [.i (c+cntF at_ (f.tms bl))]),(1,.var [.i at_])]⟩:=by
 intro n
 induction n with
 |zero=>intro f;intros;have:=f.full_pos;omega
 |succ n ih=>
 intro f c bl hsz hn hbl hbn hc0 hcC hix
 have hsz':=f.full_eq
 have hlen:=lsum_len Fm.full Fm.full_pos f.args
 have hlen2:=lsum_len Tm.full Tm.full_pos f.terms
 have htm:=f.tms_eq bl
 have hq:=quantifier_c f.kind
 refine M.F Tryz.func51 ?_
 repeat'(first|refine M.gw ?_|fail)
 refine AW.range f.terms.length (fun m=>True)
  (fun m=>([(1,.i bl),(2,.fn (.func 75) [] [.ptr 0 0,.ptr 1 0]),(3,.ptr 2 0),(11,.s .tm f.terms),(12,.i f.terms.length),(13,.i m)],⟨3,[(0,.var [.i (c+cntF at_ ((f.terms.take m).map (fun t=>(t,bl))))]),(1,.var [.i at_]),(2,.var f.view)]⟩))
  (by omega) (fun m=>rfl) (fun m=>rfl) rfl trivial ?_ ?_ ?_
 ·exact (M.W [some 0,some 1,some 2] (he:=(by(repeat'(first|exact trivial|refine And.intro ?_ ?_|refine⟨_,U,_,U,_,U,?_⟩|exact VLe.refl _|exact VLe.of_eq (by simp[Sto.upd,cntF])));done)))
 ·intro m hm _
  have hs2:=lsum_mem Tm.full (List.getElem_mem hm)
  have hle1:=cntF_le at_ ((f.terms.take m).map (fun t=>(t,bl)))
  have hle2:(((f.terms.take m).map (fun t=>(t,bl))).map fun p:Tm×Int=>p.1.size).sum≤f.size:=tms_le1 f bl m
  have hc:=countFFm at_ (c+cntF at_ ((f.terms.take m).map (fun t=>(t,bl)))) f.terms[m] bl (by omega) (by omega) ha (by omega) (fun p hp=>hix _ (by rw[htm];exact List.mem_append_left _ (List.mem_map.2 ⟨_,List.getElem_mem hm,rfl⟩)) p hp)
  repeat'(first|refine M.gw ?_|refine M.cv (hc) [0,1] 0 ?_|fail)
  refine⟨rfl,trivial,?_⟩
  exact(M.W [some 0,some 1,some 2] (he:=(by(repeat'(first|exact trivial|refine And.intro ?_ ?_|refine⟨_,U,_,U,_,U,?_⟩|exact VLe.refl _|exact VLe.of_eq (by simp[Sto.upd,cntF_append,Int.natCast_add,Int.add_assoc,map_take _ _ _ hm])));done)))
 ·intro _
  simp only[List.take_length]
  repeat'(first|refine M.gw ?_|refine M.c2 (hq) ?_|refine M.cs ?_ ?_<;>intro h|fail)
  all_goals
   have hup:upF f.kind bl≤bl+1:=by simp only[upF];split<;>omega
   have hup0:0≤upF f.kind bl:=by simp only[upF];split<;>omega
   refine AW.range f.args.length (fun m=>True)
    (fun m=>([(1,.i (upF f.kind bl)),(2,.fn (.func 75) [] [.ptr 0 0,.ptr 1 0]),(3,.ptr 2 0),(28,.s .fm f.args),(29,.i f.args.length),(30,.i m)],⟨3,[(0,.var [.i (c+cntF at_ (f.terms.map (fun t=>(t,bl))++(f.args.take m).flatMap (Fm.tms (upF f.kind bl))))]),(1,.var [.i at_]),(2,.var f.view)]⟩))
    (by omega) (fun m=>rfl) (fun m=>rfl) rfl trivial ?_ ?_ ?_
   ·exact (M.W [some 0,some 1,some 2] (hf:=(by(repeat'(first|exact trivial|refine And.intro ?_ ?_|refine⟨_,U,_,U,?_⟩|exact VLe.refl _|exact VLe.of_eq (by simp[Sto.upd,upF,h,cntF])));done)) (he:=(by(repeat'(first|exact trivial|refine And.intro ?_ ?_|refine⟨_,U,_,U,_,U,?_⟩|exact VLe.refl _|exact VLe.of_eq (by simp[Sto.upd,upF,h,cntF])));done)))
   ·intro m hm _
    have hs2:=lsum_mem Fm.full (List.getElem_mem hm)
    have hle1:=cntF_le at_ (f.terms.map (fun t=>(t,bl))++(f.args.take m).flatMap (Fm.tms (upF f.kind bl)))
    have hle2:((f.terms.map (fun t=>(t,bl))++(f.args.take m).flatMap (Fm.tms (upF f.kind bl))).map fun p:Tm×Int=>p.1.size).sum+(f.args[m]).size≤f.size:=tms_le2 f bl m hm
    have hc:=ih f.args[m] (c+cntF at_ (f.terms.map (fun t=>(t,bl))++(f.args.take m).flatMap (Fm.tms (upF f.kind bl)))) (upF f.kind bl) (by omega) (by omega) hup0 (by omega) (by omega) (by omega) (fun p hp=>hix p (by rw[htm];exact List.mem_append_right _ (List.mem_flatMap.2 ⟨_,List.getElem_mem hm,hp⟩)))
    repeat'(first|refine M.gw ?_|refine M.cv (hc) [0,1] 0 ?_|fail)
    refine⟨rfl,trivial,?_⟩
    exact(M.W [some 0,some 1,some 2] (he:=(by(repeat'(first|exact trivial|refine And.intro ?_ ?_|refine⟨_,U,_,U,_,U,?_⟩|exact VLe.refl _|exact VLe.of_eq (by simp[Sto.upd,cntF_append,Int.natCast_add,Int.add_assoc,flat_take _ _ _ hm])));done)))
   ·intro _
    skip
    (exact M.n2 [some 0,some 1] (h6:=(by(repeat'(first|exact trivial|refine And.intro ?_ ?_|refine⟨_,U,_,U,_,U,?_⟩|exact VLe.refl _|exact VLe.of_eq (by simp[Sto.upd,htm])));done)) (h8:=(by simp[tupV,V.wk,V.wks,constV,Ty.view,Tm.view,htm])))
theorem nearFm_c(f:Fm)(hf:f.full<274877906944):PC E 42 [.agg f.view] (.bool f.near):=by
 have hc:=nearFEachF _ f true 0 (Nat.le_refl _) (by omega) (by omega) (by omega)
 refine M.F Tryz.func42 ?_
 repeat'(first|refine M.gw ?_|refine M.cv (hc) [1] 0 ?_|fail)
 simp[tupV,V.wk,V.wks,allP,Fm.near]
theorem countFm_c(f:Fm)(at_:Int)(ha:0≤at_∧at_<549755813888)(hf:f.full<274877906944)(hix:∀p∈f.tms 0,∀q∈p.1.vars 0,0≤q.1∧q.1<1099511627776):PC E 44 [.agg f.view,.i at_] (.i (cntF at_ (f.tms 0))):=by
 have hle:=f.size_le_full
 have hc:=countFEachF at_ (f.size) ha (by omega) _ f 0 0 (Nat.le_refl _) (by omega) (by omega) (by omega) (by omega) (by omega) hix
 refine M.F Tryz.func44 ?_
 repeat'(first|refine M.gw ?_|refine M.cv (hc) [2,1] 0 ?_|fail)
 simp[tupV,V.wk,V.wks]
theorem putFmCb(at_:Int)(s:Tm)(hat:0≤at_∧at_<274877906944)(hs:s.full<274877906944)(hsi:∀p∈s.vars 0,0≤p.1∧p.1<549755813888)(t:Tm)(bl:Int)(ht:t.full<274877906944)(hb:0≤bl∧bl<274877906944)(hix:∀p∈t.vars 0,0≤p.1∧p.1<549755813888):
 AC E 78 [.agg t.view,.i bl,.ptr 0 0,.ptr 1 0] ⟨2,[(0,.var [.i at_]),(1,.var s.view)]⟩ (.agg (t.re (putG (at_+bl) s) 0).view) ⟨2,[(0,.var [.i at_]),(1,.var s.view)]⟩:=by
 have hc:=put_c t (at_+bl) s (by omega) hs hsi ht hix
 refine M.F Tryz.func78 ?_
 repeat'(first|refine M.gw ?_|refine M.c2 (hc) ?_|fail)
 (exact M.n2 [some 0,some 1] (h8:=(by simp[tupV,V.wk,V.wks,constV,Ty.view,Tm.view,hc])))
theorem putFmRe(at_:Int)(s:Tm)(hat:0≤at_∧at_<274877906944)(hs:s.full<274877906944)(hsi:∀p∈s.vars 0,0≤p.1∧p.1<549755813888):∀(n:Nat) (f:Fm) (bl:Int),f.full≤n→n<274877906944→0≤bl→bl+n<274877906944→(∀p∈f.tms bl,∀q∈p.1.vars 0,0≤q.1∧q.1<549755813888)→
 AC E 77 [.agg f.view,.i bl,.fn (.func 78) [] [.ptr 0 0,.ptr 1 0]] ⟨2,[(0,.var [.i at_]),(1,.var s.view)]⟩ (.agg (f.re (fun b t=>t.re (putG (at_+b) s) 0) bl).view) ⟨2,[(0,.var [.i at_]),(1,.var s.view)]⟩:=by
 intro n
 induction n with
 |zero=>intro f bl h;intros;have:=f.full_pos;omega
 |succ n ih=>
 intro f bl hsz hb hbl hbn hix
 have hsz':=f.full_eq
 have hlen:=lsum_len Fm.full Fm.full_pos f.args
 have hlen2:=lsum_len Tm.full Tm.full_pos f.terms
 have hty:=ownTy_c _ f.ty (Nat.le_refl _) (by omega)
 have hq:=quantifier_c f.kind
 have hre:=Fm.re_eq (fun b t=>t.re (putG (at_+b) s) 0) bl f
 have htm:=f.tms_eq bl
 refine M.F Tryz.func77 ?_
 repeat'(first|refine M.gw ?_|refine M.c2 (hty) ?_|fail)
 refine AW.range f.terms.length (fun m=>True)
  (fun m=>([(1,.i bl),(2,.fn (.func 78) [] [.ptr 0 0,.ptr 1 0]),(3,.ptr 2 0),(6,.ptr 3 0),(7,.ptr 4 0),(19,.s .tm f.terms),(20,.i f.terms.length),(21,.i m)],⟨6,[(0,.var [.i at_]),(1,.var s.view),(2,.var f.view),(3,.var [.i 0,.i 0,.slice .nil (.t .ty []),.slice .nil (.t .tm []),.slice .nil (.t .fm [])]),(4,.var [.i f.kind,.i f.ty.kind,.s .ty f.ty.args,.slice (.own 5) (.t .tm ((f.terms.take m).map ((fun b t=>t.re (putG (at_+b) s) 0) bl))),.slice .nil (.t .fm [])]),(5,.row)]⟩))
  (by omega) (fun m=>rfl) (fun m=>rfl) rfl trivial (M.W [some 0,some 1,some 2,some 3,some 4,none]) ?_ ?_
 ·intro m hm _
  have hs2:=lsum_mem Tm.full (List.getElem_mem hm)
  have hc:=putFmCb at_ s hat hs hsi f.terms[m] bl (by omega) (by omega) (fun p hp=>hix _ (by rw[htm];exact List.mem_append_left _ (List.mem_map.2 ⟨_,List.getElem_mem hm,rfl⟩)) p hp)
  repeat'(first|refine M.gw ?_|refine M.cv (hc) [0,1] 0 ?_|fail)
  exact⟨rfl,trivial,(M.W [some 0,some 1,some 2,some 3,some 4,some 7] (he:=(by(repeat'(first|exact trivial|exact Or.inr ⟨_,U,rfl⟩|refine And.intro ?_ ?_|refine⟨_,U,_,U,_,U,?_⟩|exact VLe.refl _|exact VLe.of_eq (by simp[Sto.upd,map_take _ _ _ hm])));done)))⟩
 ·intro _
  simp only[List.take_length]
  cases hqk:quantK f.kind with
  |true=>
   rw[hqk] at hq
   have hu:upF f.kind bl=bl+1:=by simp[upF,hqk]
   rw[hu] at hre htm
   repeat'(first|refine M.gw ?_|refine M.c2 (hq) ?_|fail)
   refine AW.range f.args.length (fun m=>True)
    (fun m=>([(1,.i (bl+1)),(2,.fn (.func 78) [] [.ptr 0 0,.ptr 1 0]),(3,.ptr 2 0),(6,.ptr 3 0),(7,.ptr 4 0),(41,.s .fm f.args),(42,.i f.args.length),(43,.i m)],⟨7,[(0,.var [.i at_]),(1,.var s.view),(2,.var f.view),(3,.var [.i 0,.i 0,.slice .nil (.t .ty []),.slice .nil (.t .tm []),.slice .nil (.t .fm [])]),(4,.var [.i f.kind,.i f.ty.kind,.s .ty f.ty.args,.slice (.own 5) (.t .tm (f.terms.map ((fun b t=>t.re (putG (at_+b) s) 0) bl))),.slice (.own 6) (.t .fm ((f.args.take m).map (Fm.re (fun b t=>t.re (putG (at_+b) s) 0) (bl+1))))]),(5,.row),(6,.row)]⟩))
    (by omega) (fun m=>rfl) (fun m=>rfl) rfl trivial (M.W [some 0,some 1,some 2,some 3,some 4,some 5,none]) ?_ ?_
   ·intro m hm _
    have hs2:=lsum_mem Fm.full (List.getElem_mem hm)
    have hc:=ih f.args[m] (bl+1) (by omega) (by omega) (by omega) (by omega) (fun p hp=>hix p (by rw[htm];exact List.mem_append_right _ (List.mem_flatMap.2 ⟨_,List.getElem_mem hm,hp⟩)))
    repeat'(first|refine M.gw ?_|refine M.cv (hc) [0,1] 0 ?_|fail)
    exact⟨rfl,trivial,(M.W [some 0,some 1,some 2,some 3,some 4,some 5,some 8] (he:=(by(repeat'(first|exact trivial|exact Or.inr ⟨_,U,rfl⟩|refine And.intro ?_ ?_|refine⟨_,U,_,U,_,U,?_⟩|exact VLe.refl _|exact VLe.of_eq (by simp[Sto.upd,map_take _ _ _ hm])));done)))⟩
   ·intro _
    simp only[List.take_length]
    repeat'(first|refine M.gw ?_|fail)
    (exact M.n2 [some 0,some 1] (h8:=(by simp[tupV,V.wk,V.wks,constV,Ty.view,Tm.view,hre])))
  |false=>
   rw[hqk] at hq
   have hu:upF f.kind bl=bl:=by simp[upF,hqk]
   rw[hu] at hre htm
   repeat'(first|refine M.gw ?_|refine M.c2 (hq) ?_|fail)
   refine AW.range f.args.length (fun m=>True)
    (fun m=>([(1,.i bl),(2,.fn (.func 78) [] [.ptr 0 0,.ptr 1 0]),(3,.ptr 2 0),(6,.ptr 3 0),(7,.ptr 4 0),(41,.s .fm f.args),(42,.i f.args.length),(43,.i m)],⟨7,[(0,.var [.i at_]),(1,.var s.view),(2,.var f.view),(3,.var [.i 0,.i 0,.slice .nil (.t .ty []),.slice .nil (.t .tm []),.slice .nil (.t .fm [])]),(4,.var [.i f.kind,.i f.ty.kind,.s .ty f.ty.args,.slice (.own 5) (.t .tm (f.terms.map ((fun b t=>t.re (putG (at_+b) s) 0) bl))),.slice (.own 6) (.t .fm ((f.args.take m).map (Fm.re (fun b t=>t.re (putG (at_+b) s) 0) bl)))]),(5,.row),(6,.row)]⟩))
    (by omega) (fun m=>rfl) (fun m=>rfl) rfl trivial (M.W [some 0,some 1,some 2,some 3,some 4,some 5,none]) ?_ ?_
   ·intro m hm _
    have hs2:=lsum_mem Fm.full (List.getElem_mem hm)
    have hc:=ih f.args[m] bl (by omega) (by omega) (by omega) (by omega) (fun p hp=>hix p (by rw[htm];exact List.mem_append_right _ (List.mem_flatMap.2 ⟨_,List.getElem_mem hm,hp⟩)))
    repeat'(first|refine M.gw ?_|refine M.cv (hc) [0,1] 0 ?_|fail)
    exact⟨rfl,trivial,(M.W [some 0,some 1,some 2,some 3,some 4,some 5,some 8] (he:=(by(repeat'(first|exact trivial|exact Or.inr ⟨_,U,rfl⟩|refine And.intro ?_ ?_|refine⟨_,U,_,U,_,U,?_⟩|exact VLe.refl _|exact VLe.of_eq (by simp[Sto.upd,map_take _ _ _ hm])));done)))⟩
   ·intro _
    simp only[List.take_length]
    repeat'(first|refine M.gw ?_|fail)
    (exact M.n2 [some 0,some 1] (h8:=(by simp[tupV,V.wk,V.wks,constV,Ty.view,Tm.view,hre])))
theorem putFm_c(f:Fm)(at_:Int)(s:Tm)(hat:0≤at_∧at_<274877906944)(hs:s.full<274877906944)(hsi:∀p∈s.vars 0,0≤p.1∧p.1<549755813888)(hf:f.full<137438953472)(hix:∀p∈f.tms 0,∀q∈p.1.vars 0,0≤q.1∧q.1<549755813888):PC E 45 [.agg f.view,.i at_,.agg s.view] (.agg (f.put at_ s).view):=by
 have hc:=putFmRe at_ s hat hs hsi _ f 0 (Nat.le_refl _) (by omega) (by omega) (by omega) hix
 refine M.F Tryz.func45 ?_
 repeat'(first|refine M.gw ?_|refine M.cv (hc) [1,2] 0 ?_|fail)
 rfl
theorem fsize_c(f:Fm)(hf:f.full<1099511627776):PC E 39 [.agg f.view] (.tup [.i f.num,.i f.err]):=by
 have h1:=checkFm_c f hf
 refine M.F Tryz.func39 ?_
 repeat'(first|refine M.gw ?_|refine M.c2 (h1) ?_|fail)
 rfl
theorem fwithin_c(n:Int):PC E 40 [.i n] (.bool (decide (0≤n∧n≤4096))):=by
 refine M.F Tryz.func40 ?_
 repeat'(first|refine M.gw ?_|refine M.gs ?_ ?_<;>intro h|fail)
 all_goals(simp_all[tupV,V.wk,V.wks,constV];try omega)
theorem fput_c(f:Fm)(at_:Int)(s:Tm)(hf:f.full<137438953472)(hs:s.full<274877906944):PC E 12 [.agg f.view,.i at_,.agg s.view] (.tup [.agg (if putFErr f at_ s=0 then f.put at_ s else noFm).view,.i (putFErr f at_ s)]):=by
 have h1:=fsize_c f (by omega)
 have h2:=size_c s (by omega)
 have h3:=fwithin_c at_
 have h4:=nearFm_c f (by omega)
 have h5:=near_c s (by omega)
 have h6:f.err=0→f.near=true→0≤at_∧at_≤4096→_:=fun h hn ha=>countFm_c f at_ (by omega) (by omega) fun p hp q hq=>by have:=nearF_lt h hn p hp q hq;omega
 have h7:f.err=0→f.near=true→s.err=0→s.near=true→0≤at_∧at_≤4096→_:=fun h hn h' hn' ha=>putFm_c f at_ s (by omega) hs (near_lt h' hn') hf (nearF_lt h hn)
 have hn1:=fnum_le f
 have hn2:=num_le s
 have hle:=f.size_le_full
 have hcl:=cntF_le at_ (f.tms 0)
 have hvl:=tms_size f 0
 have hm:=mul_bd (cntF at_ (f.tms 0)) (s.num-1) (by omega) (by omega)
 have hm': -9223372036854775808≤(cntF at_ (f.tms 0):Int)*(s.num-1)∧(cntF at_ (f.tms 0):Int)*(s.num-1)≤9223372036854775807:=by omega
 refine M.F Tryz.func12 ?_
 repeat'(first|refine M.gw ?_|refine M.c2 (h1) ?_|refine M.c2 (h2) ?_|refine M.c2 (h3) ?_|refine M.c2 (h4) ?_|refine M.c2 (h5) ?_|refine M.c2 (h6 (by simp_all) (by simp_all) (by simp_all)) ?_|refine M.c2 (h7 (by simp_all) (by simp_all) (by simp_all) (by simp_all) (by simp_all)) ?_|refine M.gs ?_ ?_<;>intro h|refine M.cs ?_ ?_<;>intro h|fail)
 all_goals first
  |(simp_all[tupV,V.wk,V.wks,constV,Ty.view,Fm.view,putFErr,noFm,Fm.num,Tm.num];done)
  |skip
 rename_i h0
 have h':¬(0≤at_∧at_≤4096):=by intro hc;simp[hc] at h
 have h0':f.err=0:=by simpa using h0
 have e:putFErr f at_ s=1:=by simp only[putFErr,h0',ne_eq,not_true_eq_false,if_false,h',not_false_eq_true,if_true]
 simp[tupV,V.wk,V.wks,constV,Ty.view,Fm.view,e,noFm]
theorem rbelow_c(t:Tm):PC E 147 [.agg t.view] (.i (up t.kind 0)):=by
 refine M.F Tryz.func147 ?_
 repeat'(first|refine M.gw ?_|refine M.cs ?_ ?_<;>intro h|fail)
 ·have e:up t.kind 0=1:=by simp only[beq_iff_eq] at h;rw[h];rfl
  rw[e];rfl
 ·have e:up t.kind 0=0:=by simp only[beq_eq_false_iff_ne,ne_eq] at h;exact if_neg h
  rw[e];rfl
theorem up_bd(k b:Int):b≤up k b∧up k b≤b+1:=by simp only[up];split<;>omega
theorem up_plus(k b:Int):b+up k 0=up k b:=by simp only[up];split<;>omega
theorem rleast_c(most:Int)(h0:0≤most):∀(n:Nat) (t:Tm),t.full≤n→n<549755813888→t.shape=true→PC E 64 [.agg t.view,.i most] (.bool (leastT most t)):=by
 intro n
 induction n with
 |zero=>intro t h;have:=t.full_pos;omega
 |succ n ih=>
 intro t hsz hn hs
 have hsz':=Tm.full_eq t
 have hlen:=lsum_len Tm.full Tm.full_pos t.args
 have he:=leastT_eq h0 hs
 refine M.F Tryz.func64 ?_
 repeat'(first|refine M.gw ?_|refine M.cs ?_ ?_<;>intro h|fail)
 ·have h1:¬t.index≤most:=by simp at h;omega
  rw[he,decide_eq_false h1];rfl
 have h1:t.index≤most:=by simp at h;omega
 rw[decide_eq_true h1,Bool.true_and] at he
 refine AW.range t.args.length (fun m=>∀j (hj:j<t.args.length),j<m→leastT most t.args[j]=true)
  (fun m=>([(1,.i most),(2,.ptr 0 0),(12,.s .tm t.args),(13,.i t.args.length),(14,.i m)],⟨1,[(0,.var t.view)]⟩))
  (by omega) (fun m=>rfl) (fun m=>rfl) rfl (fun j hj h=>by omega) (M.W [some 0]) ?_ ?_
 ·intro m hm hP
  have hs2:=lsum_mem Tm.full (List.getElem_mem hm)
  have hc:=ih t.args[m] (by omega) (by omega) (shape_args hs _ (List.getElem_mem hm))
  repeat'(first|refine M.gw ?_|refine M.c2 (hc) ?_|refine M.cs ?_ ?_<;>intro h|fail)
  ·have hx:leastT most t.args[m]=false:=by simpa using h
   rw[he,all_not (leastT most) hm hx];rfl
  ·have hx:leastT most t.args[m]=true:=by simpa using h
   exact⟨rfl,all_step (p:=fun t=>leastT most t=true) hm hP hx,(M.W [some 0])⟩
 ·intro hP
  rw[he,all_of (leastT most) t.args fun j hj=>hP j hj hj]
  repeat'(first|refine M.gw ?_|fail)
  rfl
theorem rtimes_c:∀(n:Nat) (t:Tm) (at_:Int),t.full≤n→n<274877906944→-274877906944≤at_→at_+n<549755813888→t.shape=true→PC E 118 [.agg t.view,.i at_] (.i (timesT at_ t)):=by
 intro n
 induction n with
 |zero=>intro t at_ h;have:=t.full_pos;omega
 |succ n ih=>
 intro t at_ hsz hn h1 h2 hs
 have hsz':=Tm.full_eq t
 have hlen:=lsum_len Tm.full Tm.full_pos t.args
 have he:=timesT_eq at_ t
 have hup:=up_bd t.kind at_
 have hpl:=up_plus t.kind at_
 have hb:=rbelow_c t
 by_cases hv:t.kind=1∧t.index=at_
 ·rw [if_pos hv] at he
  rw[he]
  have ha:=var_args hs hv.1
  obtain⟨k,i,th,xs⟩:=t
  simp only[Tm.args_mk] at ha
  subst ha
  obtain⟨hv1,hv2⟩:=hv
  simp only[Tm.kind_mk,Tm.index_mk] at hv1 hv2
  subst hv1;subst hv2
  refine M.F Tryz.func118 ?_
  repeat'(first|refine M.gw ?_|refine M.cs ?_ ?_<;>intro h|fail)
  all_goals first
   |(exfalso;simp at h;done)
   |skip
  all_goals
   refine AW.range 0 (fun m=>True) (fun m=>([(1,.i i),(2,.ptr 0 0),(5,.i 1),(20,.s .tm []),(21,.i 0),(22,.i m)],⟨1,[(0,.var (Tm.mk 1 i th []).view)]⟩))
    (by omega) (fun m=>rfl) (fun m=>rfl) rfl trivial (M.W [some 0]) ?_ ?_
   ·intro m hm;omega
   ·intro _
    repeat'(first|refine M.gw ?_|fail)
    rfl
 rw[if_neg hv] at he
 refine M.F Tryz.func118 ?_
 repeat'(first|refine M.gw ?_|refine M.gs ?_ ?_<;>intro h|refine M.cs ?_ ?_<;>intro h|fail)
 all_goals first
  |(exfalso;simp_all;done)
  |skip
 all_goals
  refine AW.range t.args.length (fun m=>True)
   (fun m=>([(1,.i at_),(2,.ptr 0 0),(5,.i (((t.args.take m).map (timesT (up t.kind at_))).sum:Nat)),(20,.s .tm t.args),(21,.i t.args.length),(22,.i m)],⟨1,[(0,.var t.view)]⟩))
   (by omega) (fun m=>rfl) (fun m=>rfl) rfl trivial (M.W [some 0]) ?_ ?_
  ·intro m hm _
   have hs1:=lsum_take (timesT (up t.kind at_)) t.args m hm
   have hs2:=lsum_mem Tm.full (List.getElem_mem hm)
   have hs3:((t.args.take m).map (timesT (up t.kind at_))).sum≤(t.args.map Tm.full).sum:=by
    have a1:=lsum_take_le Tm.full t.args m
    have a2:=lsum_le (f:=timesT (up t.kind at_)) (g:=Tm.full) (t.args.take m) fun x _=>Nat.le_trans (timesT_le x _) x.size_le_full
    omega
   have hs4:=timesT_le t.args[m] (up t.kind at_)
   have hs5:=t.args[m].size_le_full
   have hc:=ih t.args[m] (up t.kind at_) (by omega) (by omega) (by omega) (by omega) (shape_args hs _ (List.getElem_mem hm))
   rw[←hpl] at hc hs1 hs3 hs4
   simp only[←hpl]
   repeat'(first|refine M.gw ?_|refine M.c2 (hb) ?_|refine M.c2 (hc) ?_|fail)
   refine⟨rfl,trivial,?_⟩
   simp only[hs1]
   exact(M.W [some 0])
  ·intro _
   repeat'(first|refine M.gw ?_|fail)
   rw[he]
   simp[tupV,V.wk,V.wks,constV]
theorem rup_w(by_:Int)(hby: -549755813888≤by_∧by_≤549755813888):∀(n:Nat) (t:Tm) (fr:Int),t.full≤n→n<274877906944→-274877906944≤fr→fr+n<549755813888→t.shape=true→(∀p∈t.vars 0,0≤p.1∧p.1<9223372036854775808∧p.1+by_<9223372036854775808)→
 PC E 148 [.agg t.view,.i fr,.i by_] (.agg (t.re (liftG fr by_) 0).view):=by
 intro n
 induction n with
 |zero=>intro t fr h;have:=t.full_pos;omega
 |succ n ih=>
 intro t fr hsz hn h1 h2 hs hix
 have hsz':=Tm.full_eq t
 have hlen:=lsum_len Tm.full Tm.full_pos t.args
 have hup:=up_bd t.kind fr
 have hpl:=up_plus t.kind fr
 have hb:=rbelow_c t
 by_cases hv:t.kind=1
 ·have ht:=var_vT hs hv
  have hi:=hix (t.index,0) (by rw[vars_var hs hv];simp)
  rw[ht]
  generalize t.index=i at hi
  simp only at hi
  rw[re_vT,liftG_eq]
  have hvi:(vT i).index=i:=rfl
  refine M.F Tryz.func148 ?_
  repeat'(first|refine M.gw ?_|refine M.cs ?_ ?_<;>intro h|fail)
  all_goals first
   |(exfalso;simp at h;done)
   |skip
  ·have h3:i-0≥fr:=by simp at h;omega
   rw[if_pos h3]
   refine AW.range 0 (fun m=>True) (fun m=>([(1,.i fr),(2,.i by_),(3,.ptr 0 0),(6,.ptr 1 0),(7,.ptr 2 0),(32,.s .tm []),(33,.i 0),(34,.i m)],⟨3,[(0,.var (vT i).view),(1,.var [.i 0,.i 0,.i 0,.slice .nil (.t .ty []),.slice .nil (.t .tm [])]),(2,.var [.i 1,.i (i+by_),.i 0,.s .ty [],.slice .nil (.t .tm [])])]⟩))
    (by omega) (fun m=>rfl) (fun m=>rfl) rfl trivial (M.W [some 0,some 1,some 2]) ?_ ?_
   ·intro m hm;omega
   ·intro _
    repeat'(first|refine M.gw ?_|fail)
    rfl
  ·have h3:¬i-0≥fr:=by simp at h;omega
   rw[if_neg h3]
   refine AW.range 0 (fun m=>True) (fun m=>([(1,.i fr),(2,.i by_),(3,.ptr 0 0),(6,.ptr 1 0),(7,.ptr 2 0),(32,.s .tm []),(33,.i 0),(34,.i m)],⟨3,[(0,.var (vT i).view),(1,.var [.i 0,.i 0,.i 0,.slice .nil (.t .ty []),.slice .nil (.t .tm [])]),(2,.var [.i 1,.i i,.i 0,.s .ty [],.slice .nil (.t .tm [])])]⟩))
    (by omega) (fun m=>rfl) (fun m=>rfl) rfl trivial (M.W [some 0,some 1,some 2]) ?_ ?_
   ·intro m hm;omega
   ·intro _
    repeat'(first|refine M.gw ?_|fail)
    rfl
 have he:=lift_node (fr:=fr) (by_:=by_) hv
 refine M.F Tryz.func148 ?_
 repeat'(first|refine M.gw ?_|refine M.gs ?_ ?_<;>intro h|refine M.cs ?_ ?_<;>intro h|fail)
 all_goals first
  |(exfalso;simp_all;done)
  |skip
 all_goals
  refine AW.range t.args.length (fun m=>True) (fun m=>([(1,.i fr),(2,.i by_),(3,.ptr 0 0),(6,.ptr 1 0),(7,.ptr 2 0),(32,.s .tm t.args),(33,.i t.args.length),(34,.i m)],⟨4,[(0,.var t.view),(1,.var [.i 0,.i 0,.i 0,.slice .nil (.t .ty []),.slice .nil (.t .tm [])]),(2,.var [.i t.kind,.i t.index,.i t.ty.kind,.s .ty t.ty.args,.slice (.own 3) (.t .tm ((t.args.take m).map fun x=>x.re (liftG (up t.kind fr) by_) 0))]),(3,.row)]⟩))
   (by omega) (fun m=>rfl) (fun m=>rfl) rfl trivial (M.W [some 0,some 1,some 2,none]) ?_ ?_
  ·intro m hm _
   have hs2:=lsum_mem Tm.full (List.getElem_mem hm)
   have hc:=ih t.args[m] (up t.kind fr) (by omega) (by omega) (by omega) (by omega) (shape_args hs _ (List.getElem_mem hm)) (fun p hp=>by
    obtain⟨q,hq,hqe⟩:=vars_idx (b':=up t.kind 0) p hp
    have:=hix q (mem_vars hv (List.getElem_mem hm) hq)
    rw[←hqe];exact this)
   rw[←hpl] at hc
   simp only[←hpl]
   repeat'(first|refine M.gw ?_|refine M.c2 (hb) ?_|refine M.c2 (hc) ?_|fail)
   exact⟨rfl,trivial,(M.W [some 0,some 1,some 2,some 5] (he:=(by(repeat'(first|exact trivial|exact Or.inr ⟨_,U,rfl⟩|refine And.intro ?_ ?_|refine⟨_,U,_,U,_,U,?_⟩|exact VLe.refl _|exact VLe.of_eq (by simp[Sto.upd,map_take _ _ _ hm])));done)))⟩
  ·intro _
   simp only[List.take_length]
   repeat'(first|refine M.gw ?_|fail)
   rw[he]
   simp[tupV,V.wk,V.wks,constV,Ty.view,Tm.view]
theorem rup_c(by_:Int)(hby: -549755813888≤by_∧by_≤549755813888):∀(n:Nat) (t:Tm) (fr:Int),t.full≤n→n<274877906944→-274877906944≤fr→fr+n<549755813888→t.shape=true→(∀p∈t.vars 0,0≤p.1∧p.1<549755813888)→
 PC E 148 [.agg t.view,.i fr,.i by_] (.agg (t.re (liftG fr by_) 0).view):=
 fun n t fr h1 h2 h3 h4 h5 h6=>rup_w by_ hby n t fr h1 h2 h3 h4 h5 fun p hp=>by have:=h6 p hp;omega
theorem putG_node{at_ b:Int}{s t:Tm}(h:t.kind≠1):t.re (putG at_ s) b= .mk t.kind t.index t.ty (t.args.map fun x=>x.re (putG at_ s) (up t.kind b)):=re_node h
theorem rin_c(at_:Int)(s:Tm)(hat:0≤at_∧at_<137438953472)(hs:s.shape=true)(hsf:s.full<137438953472)(hsi:∀p∈s.vars 0,0≤p.1∧p.1<274877906944):∀(n:Nat) (t:Tm) (dp:Int),t.full≤n→n<137438953472→0≤dp→dp+n<274877906944→t.shape=true→(∀p∈t.vars 0,0≤p.1∧p.1<274877906944)→
 PC E 119 [.agg t.view,.i at_,.i dp,.agg s.view] (.agg (t.re (putG at_ s) dp).view):=by
 intro n
 induction n with
 |zero=>intro t dp h;have:=t.full_pos;omega
 |succ n ih=>
 intro t dp hsz hn h1 h2 ht hix
 have hsz':=Tm.full_eq t
 have hlen:=lsum_len Tm.full Tm.full_pos t.args
 have hup:=up_bd t.kind dp
 have hpl:=up_plus t.kind dp
 have hb:=rbelow_c t
 by_cases hv:t.kind=1
 ·have hti:=hix (t.index,0) (by rw[vars_var ht hv];simp)
  rw[var_vT ht hv]
  generalize t.index=i at hti
  simp only at hti
  rw[re_vT,putG_eq]
  have hvi:(vT i).index=i:=rfl
  have hu:=rup_c (at_+dp) (by omega) _ s 0 (Nat.le_refl _) (by omega) (by omega) (by omega) hs fun p hp=>by have:=hsi p hp;omega
  have hvc:=var_c (i-1)
  clear ih hix
  by_cases h3:i-dp=at_
  ·rw [if_pos h3]
   have h3':i=at_+dp:=by omega
   subst h3'
   refine M.F Tryz.func119 ?_
   repeat'(first|refine M.go ?_|refine M.c2 (hu) ?_|refine M.z1 4 ?_|refine M.cs ?_ ?_<;>intro h|refine M.gk ?_|fail)
   all_goals first
    |rfl
    |(exfalso;simp at h;done)
    |(exfalso;simp at h;omega)
  ·rw [if_neg h3]
   by_cases h4:i-dp>at_
   ·rw [if_pos h4]
    refine M.F Tryz.func119 ?_
    repeat'(first|refine M.go ?_|refine M.z3 3 5 6 ?_|refine M.cs ?_ ?_<;>intro h|refine M.gk ?_|fail)
    all_goals first
     |(exfalso;simp at h;omega)
     |skip
    repeat'(first|refine M.gw ?_|refine M.c2 (hvc) ?_|fail)
    rfl
   ·rw [if_neg h4]
    refine M.F Tryz.func119 ?_
    repeat'(first|refine M.go ?_|refine M.z3 3 5 6 ?_|refine M.cs ?_ ?_<;>intro h|refine M.gk ?_|fail)
    all_goals first
     |(exfalso;simp at h;omega)
     |skip
    repeat'(first|refine M.gw ?_|fail)
    rfl
 have he:=putG_node (at_:=at_) (b:=dp) (s:=s) hv
 refine M.F Tryz.func119 ?_
 repeat'(first|refine M.go ?_|refine M.z1 2 ?_|refine M.cs ?_ ?_<;>intro h|refine M.gk ?_|fail)
 all_goals first
  |(exfalso;simp at h;exact hv h)
  |skip
 skip
 refine AW.range t.args.length (fun m=>True) (fun m=>([(1,.i at_),(2,.i dp),(4,.ptr 0 0),(7,.ptr 1 0),(8,.ptr 2 0),(9,.ptr 3 0),(45,.s .tm t.args),(46,.i t.args.length),(47,.i m)],⟨5,[(0,.var t.view),(1,.var s.view),(2,.var [.i 0,.i 0,.i 0,.slice .nil (.t .ty []),.slice .nil (.t .tm [])]),(3,.var [.i t.kind,.i t.index,.i t.ty.kind,.s .ty t.ty.args,.slice (.own 4) (.t .tm ((t.args.take m).map fun x=>x.re (putG at_ s) (up t.kind dp)))]),(4,.row)]⟩))
  (by omega) (fun m=>rfl) (fun m=>rfl) rfl trivial (M.W [some 0,some 1,some 2,some 3,none]) ?_ ?_
 ·intro m hm _
  have hs2:=lsum_mem Tm.full (List.getElem_mem hm)
  have hc:=ih t.args[m] (up t.kind dp) (by omega) (by omega) (by omega) (by omega) (shape_args ht _ (List.getElem_mem hm)) (fun p hp=>by
   obtain⟨q,hq,hqe⟩:=vars_idx (b':=up t.kind 0) p hp
   have:=hix q (mem_vars hv (List.getElem_mem hm) hq)
   rw[←hqe];exact this)
  rw[←hpl] at hc
  simp only[←hpl]
  repeat'(first|refine M.gw ?_|refine M.c2 (hb) ?_|refine M.c2 (hc) ?_|fail)
  exact⟨rfl,trivial,(M.W [some 0,some 1,some 2,some 3,some 6] (he:=(by(repeat'(first|exact trivial|exact Or.inr ⟨_,U,rfl⟩|refine And.intro ?_ ?_|refine⟨_,U,_,U,_,U,?_⟩|exact VLe.refl _|exact VLe.of_eq (by simp[Sto.upd,map_take _ _ _ hm])));done)))⟩
 ·intro _
  simp only[List.take_length]
  repeat'(first|refine M.gw ?_|fail)
  rw[he]
  simp[tupV,V.wk,V.wks,constV,Ty.view,Tm.view]
theorem near_all{t:Tm}(h:t.near=true):∀q∈t.vars 0,q.1≤536870912:=fun q hq=>by simpa using List.all_eq_true.1 h q hq
theorem root_c(t:Tm)(hs:t.shape=true):PC E 95 [.agg t.view] (.bool (rootT t)):=by
 by_cases k3:t.kind=3
 ·obtain ⟨i,th,f,a,rfl,hf,ha⟩:=mkArgs2 hs k3 rfl
  refine M.F Tryz.func95 ?_
  repeat'(first|refine M.gw ?_|refine M.bl ?_|fail)
  rfl
 ·by_cases k6:t.kind=6
  ·obtain ⟨i,th,x,y,z,rfl,_,_,_⟩:=mkArgs3 hs k6 rfl
   by_cases h4:z.kind=4
   ·have e:rootT (.mk 6 i th [x,y,z])=true:=by simp[rootT,Tm.arg,h4]
    rw[e]
    refine M.F Tryz.func95 ?_
    repeat'(first|refine M.gw ?_|refine M.gs ?_ ?_<;>intro h|refine M.bl ?_|fail)
    all_goals first
     |rfl
     |(exfalso;simp_all;done)
   ·have e:rootT (.mk 6 i th [x,y,z])=(z.kind==5):=by simp[rootT,Tm.arg,h4]
    rw[e]
    refine M.F Tryz.func95 ?_
    repeat'(first|refine M.gw ?_|refine M.gs ?_ ?_<;>intro h|refine M.bl ?_|fail)
    all_goals first
     |rfl
     |(exfalso;simp_all;done)
  ·by_cases k9:t.kind=9
   ·obtain ⟨i,th,x,y,z,rfl,_,_,_⟩:=mkArgs3 hs k9 rfl
    by_cases h4:z.kind=7
    ·have e:rootT (.mk 9 i th [x,y,z])=true:=by simp[rootT,Tm.arg,h4]
     rw[e]
     refine M.F Tryz.func95 ?_
     repeat'(first|refine M.gw ?_|refine M.gs ?_ ?_<;>intro h|refine M.bl ?_|fail)
     all_goals first
      |rfl
      |(exfalso;simp_all;done)
    ·have e:rootT (.mk 9 i th [x,y,z])=(z.kind==8):=by simp[rootT,Tm.arg,h4]
     rw[e]
     refine M.F Tryz.func95 ?_
     repeat'(first|refine M.gw ?_|refine M.gs ?_ ?_<;>intro h|refine M.bl ?_|fail)
     all_goals first
      |rfl
      |(exfalso;simp_all;done)
   ·by_cases k11:t.kind=11
    ·obtain ⟨i,th,x,rfl,_⟩:=mkArgs1 hs k11 rfl
     refine M.F Tryz.func95 ?_
     repeat'(first|refine M.gw ?_|refine M.bl ?_|fail)
     rfl
    ·by_cases k12:t.kind=12
     ·obtain ⟨i,th,x,rfl,_⟩:=mkArgs1 hs k12 rfl
      refine M.F Tryz.func95 ?_
      repeat'(first|refine M.gw ?_|refine M.bl ?_|fail)
      rfl
     ·have e:rootT t=false:=by simp[rootT,k3,k6,k9,k11,k12]
      rw[e]
      have b3:¬(t.kind==3)=true:=by simpa using k3
      have b6:¬(t.kind==6)=true:=by simpa using k6
      have b9:¬(t.kind==9)=true:=by simpa using k9
      have b11:¬(t.kind==11)=true:=by simpa using k11
      have b12:¬(t.kind==12)=true:=by simpa using k12
      refine M.F Tryz.func95 ?_
      repeat'(first|refine M.gw ?_|refine M.gs ?_ ?_<;>intro h|refine M.bl ?_|refine M.cs ?_ ?_<;>intro h|fail)
      all_goals first
       |rfl
       |contradiction
theorem rgrow_c{t x:Tm}(hv:RV t x)(hs:t.shape=true)(hz:t.size≤4096):PC E 96 [.agg t.view] (.i (growT t)):=by
 have hfull:=shape_full t hs
 have h0:=countTm_c _ t (Nat.le_refl _) (by omega)
 cases hv with
 |beta i th j s b a=>
  have hb:b.shape=true:=shape_args (shape_args hs (.mk 2 j s [b]) (by simp)) b (by simp)
  have ha:a.shape=true:=shape_args hs a (by simp)
  have hsz:(Tm.mk 3 i th [Tm.mk 2 j s [b],a]).size=2+b.size+a.size:=by simp[Tm.size,Tm.sizes];omega
  have fb:=shape_full b hb
  have fa:=shape_full a ha
  have h1:=countTm_c _ b (Nat.le_refl _) (by omega)
  have h2:=rtimes_c _ b 0 (Nat.le_refl _) (by omega) (by omega) (by omega) hb
  have h3:=countTm_c _ a (Nat.le_refl _) (by omega)
  have htl:=timesT_le b 0
  have hap:=a.size_pos
  have hm:=mul_bd (timesT 0 b) (a.size-1) (by omega) (by omega)
  have hm': -9223372036854775808≤(timesT 0 b:Int)*(a.size-1)∧(timesT 0 b:Int)*(a.size-1)≤9223372036854775807:=by omega
  have e:growT (Tm.mk 3 i th [Tm.mk 2 j s [b],a])=b.size+timesT 0 b*(a.size-1)-(Tm.mk 3 i th [Tm.mk 2 j s [b],a]).size:=by
   have hc:=times_cnt b 0 0 hb
   rw[Int.add_zero] at hc
   show((b.re (putG 0 a) 0).size:Int)-_=_
   rw[put_size 0 a b ha 0 hb,hc]
   congr 1
   rw[Int.natCast_add,Int.natCast_mul]
   congr 2
   omega
  rw[e]
  clear e
  refine M.F Tryz.func96 ?_
  repeat'(first|refine M.gw ?_|refine M.c2 (h0) ?_|refine M.c2 (h1) ?_|refine M.c2 (h2) ?_|refine M.c2 (h3) ?_|refine M.bl ?_|fail)
  rfl
 |rz i th _ f j s=>
  have h1:=countTm_c _ x (Nat.le_refl _) (by have:=shape_full x (shape_args hs x (by simp));have:=lsum_mem Tm.size (l:=[x,f,Tm.mk 4 j s []]) (t:=x) (by simp);have:=Tm.size_eq (Tm.mk 6 i th [x,f,Tm.mk 4 j s []]);simp only[Tm.args_mk] at this;omega)
  have e:(x.size:Int)≤4096:=by have:=lsum_mem Tm.size (l:=[x,f,Tm.mk 4 j s []]) (t:=x) (by simp);have:=Tm.size_eq (Tm.mk 6 i th [x,f,Tm.mk 4 j s []]);simp only[Tm.args_mk] at this;omega
  have e2:growT (Tm.mk 6 i th [x,f,Tm.mk 4 j s []])=x.size-(Tm.mk 6 i th [x,f,Tm.mk 4 j s []]).size:=rfl
  rw[e2]
  refine M.F Tryz.func96 ?_
  repeat'(first|refine M.gw ?_|refine M.c2 (h0) ?_|refine M.c2 (h1) ?_|refine M.bl ?_|fail)
  rfl
 |fz i th _ f j s=>
  have h1:=countTm_c _ x (Nat.le_refl _) (by have:=shape_full x (shape_args hs x (by simp));have:=lsum_mem Tm.size (l:=[x,f,Tm.mk 7 j s []]) (t:=x) (by simp);have:=Tm.size_eq (Tm.mk 9 i th [x,f,Tm.mk 7 j s []]);simp only[Tm.args_mk] at this;omega)
  have e:(x.size:Int)≤4096:=by have:=lsum_mem Tm.size (l:=[x,f,Tm.mk 7 j s []]) (t:=x) (by simp);have:=Tm.size_eq (Tm.mk 9 i th [x,f,Tm.mk 7 j s []]);simp only[Tm.args_mk] at this;omega
  have e2:growT (Tm.mk 9 i th [x,f,Tm.mk 7 j s []])=x.size-(Tm.mk 9 i th [x,f,Tm.mk 7 j s []]).size:=rfl
  rw[e2]
  refine M.F Tryz.func96 ?_
  repeat'(first|refine M.gw ?_|refine M.c2 (h0) ?_|refine M.c2 (h1) ?_|refine M.bl ?_|fail)
  rfl
 |rs i th x f j s n=>
  have hn:n.shape=true:=shape_args (shape_args hs (.mk 5 j s [n]) (by simp)) n (by simp)
  have hsz:(Tm.mk 6 i th [x,f,Tm.mk 5 j s [n]]).size=2+x.size+f.size+n.size:=by simp[Tm.size,Tm.sizes];omega
  have h1:=countTm_c _ f (Nat.le_refl _) (by have:=shape_full f (shape_args hs f (by simp));omega)
  have h2:=countTm_c _ n (Nat.le_refl _) (by have:=shape_full n hn;omega)
  have e2:growT (Tm.mk 6 i th [x,f,Tm.mk 5 j s [n]])=2+f.size+n.size+(Tm.mk 6 i th [x,f,Tm.mk 5 j s [n]]).size-1-(Tm.mk 6 i th [x,f,Tm.mk 5 j s [n]]).size:=by
   show((apT (apT f n) (.mk 6 0 th [x,f,n])).size:Int)-_=_
   simp[apT,Tm.size,Tm.sizes];omega
  rw[e2]
  clear e2
  refine M.F Tryz.func96 ?_
  repeat'(first|refine M.gw ?_|refine M.c2 (h0) ?_|refine M.c2 (h1) ?_|refine M.c2 (h2) ?_|refine M.bl ?_|fail)
  rfl
 |fs i th x f j s n l=>
  have hn:n.shape=true:=shape_args (shape_args hs (.mk 8 j s [n,l]) (by simp)) n (by simp)
  have hl:l.shape=true:=shape_args (shape_args hs (.mk 8 j s [n,l]) (by simp)) l (by simp)
  have hsz:(Tm.mk 9 i th [x,f,Tm.mk 8 j s [n,l]]).size=2+x.size+f.size+n.size+l.size:=by simp[Tm.size,Tm.sizes];omega
  have h1:=countTm_c _ f (Nat.le_refl _) (by have:=shape_full f (shape_args hs f (by simp));omega)
  have h2:=countTm_c _ n (Nat.le_refl _) (by have:=shape_full n hn;omega)
  have h3:=countTm_c _ l (Nat.le_refl _) (by have:=shape_full l hl;omega)
  have e2:growT (Tm.mk 9 i th [x,f,Tm.mk 8 j s [n,l]])=3+f.size+n.size+l.size+(Tm.mk 9 i th [x,f,Tm.mk 8 j s [n,l]]).size-1-n.size-(Tm.mk 9 i th [x,f,Tm.mk 8 j s [n,l]]).size:=by
   show((apT (apT (apT f n) l) (.mk 9 0 th [x,f,l])).size:Int)-_=_
   simp[apT,Tm.size,Tm.sizes];omega
  rw[e2]
  clear e2
  refine M.F Tryz.func96 ?_
  repeat'(first|refine M.gw ?_|refine M.c2 (h0) ?_|refine M.c2 (h1) ?_|refine M.c2 (h2) ?_|refine M.c2 (h3) ?_|refine M.bl ?_|fail)
  rfl
 |p1 i th j s _ y=>
  have hsz:(Tm.mk 11 i th [Tm.mk 10 j s [x,y]]).size=2+x.size+y.size:=by simp[Tm.size,Tm.sizes];omega
  have hx:x.shape=true:=shape_args (shape_args hs (.mk 10 j s [x,y]) (by simp)) x (by simp)
  have h1:=countTm_c _ x (Nat.le_refl _) (by have:=shape_full x hx;omega)
  have e2:growT (Tm.mk 11 i th [Tm.mk 10 j s [x,y]])=x.size-(Tm.mk 11 i th [Tm.mk 10 j s [x,y]]).size:=rfl
  rw[e2]
  clear e2
  refine M.F Tryz.func96 ?_
  repeat'(first|refine M.gw ?_|refine M.c2 (h0) ?_|refine M.c2 (h1) ?_|refine M.bl ?_|fail)
  rfl
 |p2 i th j s y _=>
  have hsz:(Tm.mk 12 i th [Tm.mk 10 j s [y,x]]).size=2+x.size+y.size:=by simp[Tm.size,Tm.sizes];omega
  have hx:x.shape=true:=shape_args (shape_args hs (.mk 10 j s [y,x]) (by simp)) x (by simp)
  have h1:=countTm_c _ x (Nat.le_refl _) (by have:=shape_full x hx;omega)
  have e2:growT (Tm.mk 12 i th [Tm.mk 10 j s [y,x]])=x.size-(Tm.mk 12 i th [Tm.mk 10 j s [y,x]]).size:=rfl
  rw[e2]
  clear e2
  refine M.F Tryz.func96 ?_
  repeat'(first|refine M.gw ?_|refine M.c2 (h0) ?_|refine M.c2 (h1) ?_|refine M.bl ?_|fail)
  rfl
theorem idx_arg{t x:Tm}{B:Int}(hx:x∈t.args)(h:∀p∈t.vars 0,0≤p.1∧p.1<B):∀p∈x.vars 0,0≤p.1∧p.1<B:=by
 intro p hp
 have e:=vars_shift x 0 (up t.kind 0)
 have hm:(p.1,p.2+up t.kind 0)∈t.vars 0:=by
  rw[Tm.vars_eq]
  refine List.mem_append_right _ (List.mem_flatMap.2 ⟨x,hx,?_⟩)
  rw[Int.zero_add] at e
  rw[e]
  exact List.mem_map.2 ⟨p,hp,rfl⟩
 have h3:=h (p.1,p.2+up t.kind 0) hm
 exact h3
theorem rred_c{t x:Tm}(hv:RV t x)(hs:t.shape=true)(hz:t.size≤4096)(hix:∀p∈t.vars 0,0≤p.1∧p.1<1073741824):PC E 97 [.agg t.view] (.agg x.view):=by
 have hfull:=shape_full t hs
 cases hv with
 |beta i th j s b a=>
  have hb:b.shape=true:=shape_args (shape_args hs (.mk 2 j s [b]) (by simp)) b (by simp)
  have ha:a.shape=true:=shape_args hs a (by simp)
  have hsz:(Tm.mk 3 i th [Tm.mk 2 j s [b],a]).size=2+b.size+a.size:=by simp[Tm.size,Tm.sizes];omega
  have fb:=shape_full b hb
  have fa:=shape_full a ha
  have hia:=idx_arg (t:=Tm.mk 3 i th [Tm.mk 2 j s [b],a]) (x:=a) (by simp) hix
  have hib:=idx_arg (t:=Tm.mk 2 j s [b]) (x:=b) (by simp) (idx_arg (t:=Tm.mk 3 i th [Tm.mk 2 j s [b],a]) (x:=Tm.mk 2 j s [b]) (by simp) hix)
  have h1:=rin_c 0 a (by omega) ha (by omega) (fun p hp=>by have:=hia p hp;omega) _ b 0 (Nat.le_refl _) (by omega) (by omega) (by omega) hb (fun p hp=>by have:=hib p hp;omega)
  refine M.F Tryz.func97 ?_
  repeat'(first|refine M.gw ?_|refine M.c2 (h1) ?_|refine M.bl ?_|fail)
  rfl
 |rz i th _ f j s=>
  refine M.F Tryz.func97 ?_
  repeat'(first|refine M.gw ?_|refine M.bl ?_|fail)
  rfl
 |fz i th _ f j s=>
  refine M.F Tryz.func97 ?_
  repeat'(first|refine M.gw ?_|refine M.bl ?_|fail)
  rfl
 |rs i th x f j s n=>
  have hff:(Tm.mk 6 i th [x,f,Tm.mk 5 j s [n]]).full=2+th.size+s.size+x.full+f.full+n.full:=by simp[Tm.full,Tm.fulls];omega
  have h1:=n_c 3 [f,n] (by simp;omega)
  have h2:=t_c 6 th [x,f,n] (by simp;omega) (by omega)
  have h3:=n_c 3 [apT f n,.mk 6 0 th [x,f,n]] (by simp[apT,Tm.full,Tm.fulls,Ty.size,Ty.sizes];omega)
  refine M.F Tryz.func97 ?_
  repeat'(first|refine M.gw ?_|refine M.c2 (h1) ?_|refine M.c2 (h2) ?_|refine M.c2 (h3) ?_|refine M.bl ?_|fail)
  rfl
 |fs i th x f j s n l=>
  have hff:(Tm.mk 9 i th [x,f,Tm.mk 8 j s [n,l]]).full=2+th.size+s.size+x.full+f.full+n.full+l.full:=by simp[Tm.full,Tm.fulls];omega
  have h1:=n_c 3 [f,n] (by simp;omega)
  have h2:=n_c 3 [apT f n,l] (by simp[apT,Tm.full,Tm.fulls,Ty.size,Ty.sizes];omega)
  have h3:=t_c 9 th [x,f,l] (by simp;omega) (by omega)
  have h4:=n_c 3 [apT (apT f n) l,.mk 9 0 th [x,f,l]] (by simp[apT,Tm.full,Tm.fulls,Ty.size,Ty.sizes];omega)
  refine M.F Tryz.func97 ?_
  repeat'(first|refine M.gw ?_|refine M.c2 (h1) ?_|refine M.c2 (h2) ?_|refine M.c2 (h3) ?_|refine M.c2 (h4) ?_|refine M.bl ?_|fail)
  rfl
 |p1 i th j s _ y=>
  refine M.F Tryz.func97 ?_
  repeat'(first|refine M.gw ?_|refine M.bl ?_|fail)
  rfl
 |p2 i th j s y _=>
  refine M.F Tryz.func97 ?_
  repeat'(first|refine M.gw ?_|refine M.bl ?_|fail)
  rfl
end Go.Ab
