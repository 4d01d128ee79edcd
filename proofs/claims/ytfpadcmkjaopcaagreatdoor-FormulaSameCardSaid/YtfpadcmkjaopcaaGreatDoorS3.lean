/- A part of the proofs of this seat's statements: S4, S5, S6, S7, S8, S9, S10, S11, S12, S13, S14, S16, S17, S19. It has no conditions of its own. -/
import Derived.Test.YtfpadcmkjaopcaaGreatDoorA2
import Derived.Test.YtfpadcmkjaopcaaGreatDoorS2
import Derived.Test.YtfpadcmkjaopcaaGreatDoorD1
namespace Go.Ab
open Go Go.Proofs
set_option maxRecDepth 100000
set_option linter.all false
theorem sameTy_c:∀(n:Nat) (x y:Ty),x.size≤n→n<1099511627776→PC E 35 [.agg x.view,.agg y.view] (.bool (decide (x=y))):=by
 intro n
 induction n with
 |zero=>intro x y h;have:=x.size_pos;omega
 |succ n ih=>
 intro x y hsz hb
 have hsz':=Ty.size_eq x
 have hlen:=lsum_len Ty.size Ty.size_pos x.args
 have heq:=Ty.eq_iff x y
 refine M.F Tryz.func35 ?_
 repeat'(first|refine M.gw ?_|refine M.gs ?_ ?_<;>intro h|refine M.cs ?_ ?_<;>intro h|fail)
 ·have:¬x=y:=by rw[heq];simp_all
  simp[this,tupV,constV,V.wk,V.wks]
 ·have:¬x=y:=by rintro rfl;simp at h
  simp[this,tupV,constV,V.wk,V.wks]
 ·rename_i hk
  simp at h hk
  have hl:x.args.length=y.args.length:=by omega
  refine AW.range x.args.length (fun m=>∀j (hj:j<x.args.length),j<m→x.args[j]=y.args[j]'(by omega))
   (fun m=>([(2,.ptr 0 0),(3,.ptr 1 0),(22,.i x.args.length),(23,.i m)],⟨2,[(0,.var x.view),(1,.var y.view)]⟩))
   (by omega) (fun m=>rfl) (fun m=>rfl) rfl (by intro j hj h;omega) (M.W [some 0,some 1]) ?_ ?_
  ·intro m hm hP
   have hm':m<y.args.length:=by omega
   have hs2:=lsum_mem Ty.size (List.getElem_mem hm)
   repeat'(first|refine M.gw ?_|refine M.c2 (ih _ _ ?_ ?_) ?_|refine M.cs ?_ ?_<;>intro h|exact M.le|exact M.lt|fail)
   ·have:¬x=y:=by rw[heq];exact fun hc=>list_ne hm hm' (by simpa using h) hc.2
    simp[this,tupV,constV,V.wk,V.wks]
   ·exact ⟨rfl,step2 hl hm hP (by simpa using h),(M.W [some 0,some 1])⟩
  ·intro hP
   have:x=y:=heq.2 ⟨hk,list_eq hl hP⟩
   repeat'(first|refine M.gw ?_|fail)
   simp[this,tupV,constV,V.wk,V.wks]
theorem sameTy2_c:∀(n:Nat) (x y:Ty),x.size≤n→n<1099511627776→PC E 80 [.agg x.view,.agg y.view] (.bool (decide (x=y))):=by
 intro n
 induction n with
 |zero=>intro x y h;have:=x.size_pos;omega
 |succ n ih=>
 intro x y hsz hb
 have hsz':=Ty.size_eq x
 have hlen:=lsum_len Ty.size Ty.size_pos x.args
 have heq:=Ty.eq_iff x y
 refine M.F Tryz.func80 ?_
 repeat'(first|refine M.gw ?_|refine M.gs ?_ ?_<;>intro h|refine M.cs ?_ ?_<;>intro h|fail)
 ·have:¬x=y:=by rw[heq];simp_all
  simp[this,tupV,constV,V.wk,V.wks]
 ·have:¬x=y:=by rintro rfl;simp at h
  simp[this,tupV,constV,V.wk,V.wks]
 ·rename_i hk
  simp at h hk
  have hl:x.args.length=y.args.length:=by omega
  refine AW.range x.args.length (fun m=>∀j (hj:j<x.args.length),j<m→x.args[j]=y.args[j]'(by omega))
   (fun m=>([(2,.ptr 0 0),(3,.ptr 1 0),(22,.s .ty x.args),(23,.i x.args.length),(24,.i m)],⟨2,[(0,.var x.view),(1,.var y.view)]⟩))
   (by omega) (fun m=>rfl) (fun m=>rfl) rfl (by intro j hj h;omega) (M.W [some 0,some 1]) ?_ ?_
  ·intro m hm hP
   have hm':m<y.args.length:=by omega
   have hs2:=lsum_mem Ty.size (List.getElem_mem hm)
   repeat'(first|refine M.gw ?_|refine M.c2 (ih _ _ ?_ ?_) ?_|refine M.cs ?_ ?_<;>intro h|exact M.le|exact M.lt|fail)
   ·have:¬x=y:=by rw[heq];exact fun hc=>list_ne hm hm' (by simpa using h) hc.2
    simp[this,tupV,constV,V.wk,V.wks]
   ·exact ⟨rfl,step2 hl hm hP (by simpa using h),(M.W [some 0,some 1])⟩
  ·intro hP
   have:x=y:=heq.2 ⟨hk,list_eq hl hP⟩
   repeat'(first|refine M.gw ?_|fail)
   simp[this,tupV,constV,V.wk,V.wks]
theorem sameTm_c:∀(n:Nat) (x y:Tm),x.full≤n→n<1099511627776→PC E 91 [.agg x.view,.agg y.view] (.bool (decide (x=y))):=by
 intro n
 induction n with
 |zero=>intro x y h;have:=x.full_pos;omega
 |succ n ih=>
 intro x y hsz hb
 have hsz':=Tm.full_eq x
 have hlen:=lsum_len Tm.full Tm.full_pos x.args
 have heq:=Tm.eq_iff x y
 have hty:=sameTy_c _ x.ty y.ty (Nat.le_refl _) (by omega)
 refine M.F Tryz.func91 ?_
 repeat'(first|refine M.gw ?_|refine M.c2 (hty) ?_|refine M.gs ?_ ?_<;>intro h|refine M.cs ?_ ?_<;>intro h|fail)
 ·have:¬x=y:=by rw[heq];simp_all
  simp[this,tupV,constV,V.wk,V.wks]
 ·have:¬x=y:=by rw[heq];simp_all
  simp[this,tupV,constV,V.wk,V.wks]
 ·have:¬x=y:=by rw[heq];simp_all
  simp[this,tupV,constV,V.wk,V.wks]
 ·have:¬x=y:=by rintro rfl;simp at h
  simp[this,tupV,constV,V.wk,V.wks]
 ·rename_i h1 h2 h3
  simp at h h1 h2 h3
  have hl:x.args.length=y.args.length:=by omega
  refine AW.range x.args.length (fun m=>∀j (hj:j<x.args.length),j<m→x.args[j]=y.args[j]'(by omega))
   (fun m=>([(2,.ptr 0 0),(3,.ptr 1 0),(37,.i x.args.length),(38,.i m)],⟨2,[(0,.var x.view),(1,.var y.view)]⟩))
   (by omega) (fun m=>rfl) (fun m=>rfl) rfl (by intro j hj h;omega) (M.W [some 0,some 1]) ?_ ?_
  ·intro m hm hP
   have hm':m<y.args.length:=by omega
   have hs2:=lsum_mem Tm.full (List.getElem_mem hm)
   repeat'(first|refine M.gw ?_|refine M.c2 (ih _ _ ?_ ?_) ?_|refine M.cs ?_ ?_<;>intro h|exact M.le|exact M.lt|fail)
   ·have:¬x=y:=by rw[heq];exact fun hc=>list_ne hm hm' (by simpa using h) hc.2.2.2
    simp[this,tupV,constV,V.wk,V.wks]
   ·exact ⟨rfl,step2 hl hm hP (by simpa using h),(M.W [some 0,some 1])⟩
  ·intro hP
   have:x=y:=heq.2 ⟨h1,h2,h3,list_eq hl hP⟩
   repeat'(first|refine M.gw ?_|fail)
   simp[this,tupV,constV,V.wk,V.wks]
theorem sameTm2_c:∀(n:Nat) (x y:Tm),x.full≤n→n<1099511627776→PC E 126 [.agg x.view,.agg y.view] (.bool (decide (x=y))):=by
 intro n
 induction n with
 |zero=>intro x y h;have:=x.full_pos;omega
 |succ n ih=>
 intro x y hsz hb
 have hsz':=Tm.full_eq x
 have hlen:=lsum_len Tm.full Tm.full_pos x.args
 have heq:=Tm.eq_iff x y
 have hty:=sameTy2_c _ x.ty y.ty (Nat.le_refl _) (by omega)
 refine M.F Tryz.func126 ?_
 repeat'(first|refine M.gw ?_|refine M.c2 (hty) ?_|refine M.gs ?_ ?_<;>intro h|refine M.cs ?_ ?_<;>intro h|fail)
 ·have:¬x=y:=by rw[heq];simp_all
  simp[this,tupV,constV,V.wk,V.wks]
 ·have:¬x=y:=by rw[heq];simp_all
  simp[this,tupV,constV,V.wk,V.wks]
 ·have:¬x=y:=by rw[heq];simp_all
  simp[this,tupV,constV,V.wk,V.wks]
 ·have:¬x=y:=by rintro rfl;simp at h
  simp[this,tupV,constV,V.wk,V.wks]
 ·rename_i h1 h2 h3
  simp at h h1 h2 h3
  have hl:x.args.length=y.args.length:=by omega
  refine AW.range x.args.length (fun m=>∀j (hj:j<x.args.length),j<m→x.args[j]=y.args[j]'(by omega))
   (fun m=>([(2,.ptr 0 0),(3,.ptr 1 0),(37,.s .tm x.args),(38,.i x.args.length),(39,.i m)],⟨2,[(0,.var x.view),(1,.var y.view)]⟩))
   (by omega) (fun m=>rfl) (fun m=>rfl) rfl (by intro j hj h;omega) (M.W [some 0,some 1]) ?_ ?_
  ·intro m hm hP
   have hm':m<y.args.length:=by omega
   have hs2:=lsum_mem Tm.full (List.getElem_mem hm)
   repeat'(first|refine M.gw ?_|refine M.c2 (ih _ _ ?_ ?_) ?_|refine M.cs ?_ ?_<;>intro h|exact M.le|exact M.lt|fail)
   ·have:¬x=y:=by rw[heq];exact fun hc=>list_ne hm hm' (by simpa using h) hc.2.2.2
    simp[this,tupV,constV,V.wk,V.wks]
   ·exact ⟨rfl,step2 hl hm hP (by simpa using h),(M.W [some 0,some 1])⟩
  ·intro hP
   have:x=y:=heq.2 ⟨h1,h2,h3,list_eq hl hP⟩
   repeat'(first|refine M.gw ?_|fail)
   simp[this,tupV,constV,V.wk,V.wks]
theorem sameTm3_c(x y:Tm)(h:x.full<1099511627776):PC E 108 [.agg x.view,.agg y.view] (.bool (decide (x=y))):=by
 have h1:=sameTm2_c _ x y (Nat.le_refl _) h
 refine M.F Tryz.func108 ?_
 repeat'(first|refine M.gw ?_|refine M.c2 (h1) ?_|fail)
 simp[tupV,V.wk,V.wks,constV,Ty.view,Tm.view]
def nearF(b:Bool)(l:List (Int×Int)):Bool:=b&&l.all fun p=>decide (p.1≤536870912)
theorem nearF_append(b:Bool)(l l':List (Int×Int)):nearF (nearF b l) l'=nearF b (l++l'):=by simp[nearF,Bool.and_assoc]
theorem nearF_nil(b:Bool):nearF b []=b:=by simp[nearF]
theorem nearCb(b:Bool)(i bl:Int):AC E 74 [.i i,.i bl,.ptr 0 0] ⟨1,[(0,.var [.bool b])]⟩ (.tup []) ⟨1,[(0,.var [.bool (nearF b [(i,bl)])])]⟩:=by
 refine M.F Tryz.func74 ?_
 repeat'(first|refine M.gw ?_|refine M.gs ?_ ?_<;>intro h|fail)
 ·(exact M.n2 [some 0] (h6:=(by(repeat'(first|exact trivial|refine And.intro ?_ ?_|refine⟨_,U,_,U,_,U,?_⟩|exact VLe.of_eq (by simp[Sto.upd,nearF,h])));done)) (h8:=(by simp[tupV,V.wk,V.wks,constV,Ty.view,Tm.view,nearF,h])))
 ·(exact M.n2 [some 0] (h6:=(by(repeat'(first|exact trivial|refine And.intro ?_ ?_|refine⟨_,U,_,U,_,U,?_⟩|exact VLe.of_eq (by simp[Sto.upd,nearF,h])));done)) (h8:=(by simp[tupV,V.wk,V.wks,constV,Ty.view,Tm.view,nearF,h])))
theorem nearEach1:∀(n:Nat) (t:Tm) (b:Bool) (bl:Int),t.full≤n→n<1099511627776→0≤bl→bl+n<1099511627776→AC E 87 [.agg t.view,.i bl,.ptr 0 0,.ptr 1 0] ⟨3,[(0,.var [.fn (.func 74) [] [.ptr 2 0]]),(1,.var [.fn (.func 87) [] [.ptr 0 0,.ptr 1 0]]),(2,.var [.bool b])]⟩ (.tup [])
 ⟨3,[(0,.var [.fn (.func 74) [] [.ptr 2 0]]),(1,.var [.fn (.func 87) [] [.ptr 0 0,.ptr 1 0]]),(2,.var [.bool (nearF b (t.vars bl))])]⟩:=by
 intro n
 induction n with
 |zero=>intro t b bl h;have:=t.full_pos;omega
 |succ n ih=>
 intro t b bl hsz hb hbl hbn
 have hsz':=Tm.full_eq t
 have hlen:=lsum_len Tm.full Tm.full_pos t.args
 have hv:=Tm.vars_eq bl t
 refine M.F Tryz.func87 ?_
 repeat'(first|refine M.gw ?_|refine M.cv (nearCb _ _ _) [2] 0 ?_|refine M.cs ?_ ?_<;>intro h|fail)
 all_goals
  have hup:up t.kind bl≤bl+1:=by simp only[up];split<;>omega
  have hup0:0≤up t.kind bl:=by simp only[up];split<;>omega
  refine AW.range t.args.length (fun m=>True)
   (fun m=>([(1,.i (up t.kind bl)),(3,.ptr 1 0),(22,.s .tm t.args),(23,.i t.args.length),(24,.i m)],⟨4,[(0,.var [.fn (.func 74) [] [.ptr 2 0]]),(1,.var [.fn (.func 87) [] [.ptr 0 0,.ptr 1 0]]),(2,.var [.bool (nearF b ((if t.kind=1 then [(t.index,bl)] else [])++(t.args.take m).flatMap (Tm.vars (up t.kind bl))))]),(3,.var t.view)]⟩))
   (by omega) (fun m=>rfl) (fun m=>rfl) rfl trivial ?_ ?_ ?_
  ·simp_all only[beq_iff_eq,beq_eq_false_iff_ne,ne_eq]
   exact(M.W [some 0,some 1,some 2,some 3] (hf:=(by(repeat'(first|exact trivial|refine And.intro ?_ ?_|refine⟨_,U,_,U,?_⟩|exact VLe.refl _|exact VLe.of_eq (by simp[Sto.upd,up, *,nearF_nil])));done)) (he:=(by(repeat'(first|exact trivial|refine And.intro ?_ ?_|refine⟨_,U,_,U,_,U,?_⟩|exact VLe.refl _|exact VLe.of_eq (by simp[Sto.upd,up, *,nearF_nil])));done)))
  ·intro m hm hP
   have hs2:=lsum_mem Tm.full (List.getElem_mem hm)
   have hc:=ih t.args[m] (nearF b ((if t.kind=1 then [(t.index,bl)] else [])++(t.args.take m).flatMap (Tm.vars (up t.kind bl)))) (up t.kind bl) (by omega) (by omega) hup0 (by omega)
   repeat'(first|refine M.gw ?_|refine M.cv (hc) [0,1,2] 0 ?_|fail)
   refine⟨rfl,trivial,?_⟩
   exact(M.W [some 0,some 1,some 2,some 3] (he:=(by(repeat'(first|exact trivial|refine And.intro ?_ ?_|refine⟨_,U,_,U,_,U,?_⟩|exact VLe.refl _|exact VLe.of_eq (by simp[Sto.upd,nearF_append,flat_take _ _ _ hm])));done)))
  ·intro hP
   skip
   (exact M.n2 [some 0,some 1,some 2] (h6:=(by(repeat'(first|exact trivial|refine And.intro ?_ ?_|refine⟨_,U,_,U,_,U,?_⟩|exact VLe.refl _|exact VLe.of_eq (by simp[Sto.upd,hv])));done)) (h8:=(by simp[tupV,V.wk,V.wks,constV,Ty.view,Tm.view,hv])))
theorem nearEach(t:Tm)(b:Bool)(ht:t.full<1099511627776):AC E 53 [.agg t.view,.fn (.func 74) [] [.ptr 0 0]] ⟨1,[(0,.var [.bool b])]⟩ (.tup []) ⟨1,[(0,.var [.bool (nearF b (t.vars 0))])]⟩:=by
 have hc:=nearEach1 _ t b 0 (Nat.le_refl _) (by omega) (by omega) (by omega)
 refine M.F Tryz.func53 ?_
 repeat'(first|refine M.gw ?_|refine M.cv (hc) [2,3,0] 0 ?_|fail)
 (exact M.n2 [some 0] (h8:=(by simp[tupV,V.wk,V.wks,constV,Ty.view,Tm.view,nearF])))
theorem near_c(t:Tm)(ht:t.full<1099511627776):PC E 43 [.agg t.view] (.bool t.near):=by
 have hc:=nearEach t true ht
 refine M.F Tryz.func43 ?_
 repeat'(first|refine M.gw ?_|refine M.cb (hc) [1] 0 ?_|fail)
 simp[tupV,V.wk,V.wks,nearF,Tm.near]
theorem countCb(at_ c i bl:Int)(hc:0≤c∧c<1099511627776)(hi:0≤i∧i<9223372036854775808)(hb:0≤bl∧bl<1099511627776):AC E 101 [.i i,.i bl,.ptr 0 0,.ptr 1 0] ⟨2,[(0,.var [.i at_]),(1,.var [.i c])]⟩ (.tup []) ⟨2,[(0,.var [.i at_]),(1,.var [.i (c+cnt at_ [(i,bl)])])]⟩:=by
 refine M.F Tryz.func101 ?_
 repeat'(first|refine M.gw ?_|refine M.cs ?_ ?_<;>intro h|fail)
 ·have:i-bl=at_:=by simpa using h
  (exact M.n2 [some 0,some 1] (h6:=(by(repeat'(first|exact trivial|refine And.intro ?_ ?_|refine⟨_,U,_,U,_,U,?_⟩|exact VLe.refl _|exact VLe.of_eq (by simp[Sto.upd,cnt_one,this])));done)) (h8:=(by simp[tupV,V.wk,V.wks,constV,Ty.view,Tm.view,cnt_one,this])))
 ·have:¬i-bl=at_:=by simpa using h
  (exact M.n2 [some 0,some 1] (h6:=(by(repeat'(first|exact trivial|refine And.intro ?_ ?_|refine⟨_,U,_,U,_,U,?_⟩|exact VLe.refl _|exact VLe.of_eq (by simp[Sto.upd,cnt_one,this])));done)) (h8:=(by simp[tupV,V.wk,V.wks,constV,Ty.view,Tm.view,cnt_one,this])))
theorem countEach1(at_:Int):∀(n:Nat) (t:Tm) (c:Int) (bl:Int),t.full≤n→n<1099511627776→0≤bl→bl+n<1099511627776→0≤c→c+t.full<1099511627776→(∀p∈t.vars bl,0≤p.1∧p.1<9223372036854775808)→AC E 87 [.agg t.view,.i bl,.ptr 0 0,.ptr 1 0] ⟨4,[(0,.var [.fn (.func 101) [] [.ptr 2 0,.ptr 3 0]]),(1,.var [.fn (.func 87) [] [.ptr 0 0,.ptr 1 0]]),(2,.var [.i at_]),(3,.var [.i c])]⟩ (.tup [])
 ⟨4,[(0,.var [.fn (.func 101) [] [.ptr 2 0,.ptr 3 0]]),(1,.var [.fn (.func 87) [] [.ptr 0 0,.ptr 1 0]]),(2,.var [.i at_]),(3,.var [.i (c+cnt at_ (t.vars bl))])]⟩:=by
 intro n
 induction n with
 |zero=>intro t b bl h;have:=t.full_pos;omega
 |succ n ih=>
 intro t c bl hsz hb hbl hbn hc0 hcn hix
 have hsz':=Tm.full_eq t
 have hlen:=lsum_len Tm.full Tm.full_pos t.args
 have hv:=Tm.vars_eq bl t
 have hi:t.kind=1→0≤t.index∧t.index<9223372036854775808:=fun h=>by simpa using hix (t.index,bl) (by rw[hv];simp[h])
 have hcb:t.kind=1→_:=fun h=>countCb at_ c t.index bl (by omega) (hi h) (by omega)
 refine M.F Tryz.func87 ?_
 repeat'(first|refine M.gw ?_|refine M.cv (hcb (by simpa using h)) [2,3] 0 ?_|refine M.cs ?_ ?_<;>intro h|fail)
 all_goals
  have hup:up t.kind bl≤bl+1:=by simp only[up];split<;>omega
  have hup0:0≤up t.kind bl:=by simp only[up];split<;>omega
  refine AW.range t.args.length (fun m=>True)
   (fun m=>([(1,.i (up t.kind bl)),(3,.ptr 1 0),(22,.s .tm t.args),(23,.i t.args.length),(24,.i m)],⟨5,[(0,.var [.fn (.func 101) [] [.ptr 2 0,.ptr 3 0]]),(1,.var [.fn (.func 87) [] [.ptr 0 0,.ptr 1 0]]),(2,.var [.i at_]),(3,.var [.i (c+cnt at_ ((if t.kind=1 then [(t.index,bl)] else [])++(t.args.take m).flatMap (Tm.vars (up t.kind bl))))]),(4,.var t.view)]⟩))
   (by omega) (fun m=>rfl) (fun m=>rfl) rfl trivial ?_ ?_ ?_
  ·simp_all only[beq_iff_eq,beq_eq_false_iff_ne,ne_eq]
   exact(M.W [some 0,some 1,some 2,some 3,some 4] (hf:=(by(repeat'(first|exact trivial|refine And.intro ?_ ?_|refine⟨_,U,_,U,?_⟩|exact VLe.refl _|exact VLe.of_eq (by simp[Sto.upd,up, *,cnt_append,cnt])));done)) (he:=(by(repeat'(first|exact trivial|refine And.intro ?_ ?_|refine⟨_,U,_,U,_,U,?_⟩|exact VLe.refl _|exact VLe.of_eq (by simp[Sto.upd,up, *,cnt_append,cnt])));done)))
  ·intro m hm hP
   have hs2:=lsum_mem Tm.full (List.getElem_mem hm)
   have hs3:cnt at_ ((if t.kind=1 then [(t.index,bl)] else [])++(t.args.take m).flatMap (Tm.vars (up t.kind bl)))+t.args[m].full≤1+(t.args.map Tm.full).sum:=by
    have h1:=cnt_le at_ ((if t.kind=1 then [(t.index,bl)] else [])++(t.args.take m).flatMap (Tm.vars (up t.kind bl)))
    have h2:=flatLen (t.args.take m) (Tm.vars (up t.kind bl)) fun x _=>x.vars_len _
    have h3:((t.args.take m).map Tm.size).sum≤((t.args.take m).map Tm.full).sum:=lsum_le _ (fun x _=>x.size_le_full)
    have h4:=lsum_take Tm.full t.args m hm
    have h5:=lsum_take_le Tm.full t.args (m+1)
    have h6:(if t.kind=1 then [(t.index,bl)] else []).length≤1:=by split<;>simp
    simp only[List.length_append] at h1
    omega
   have hix':∀p∈(t.args[m]).vars (up t.kind bl),0≤p.1∧p.1<9223372036854775808:=fun p hp=>hix p (by rw[hv];exact List.mem_append_right _ (List.mem_flatMap.2 ⟨_,List.getElem_mem hm,hp⟩))
   have hc:=ih t.args[m] (c+cnt at_ ((if t.kind=1 then [(t.index,bl)] else [])++(t.args.take m).flatMap (Tm.vars (up t.kind bl)))) (up t.kind bl) (by omega) (by omega) hup0 (by omega) (by omega) (by omega) hix'
   repeat'(first|refine M.gw ?_|refine M.cv (hc) [0,1,2,3] 0 ?_|fail)
   refine⟨rfl,trivial,?_⟩
   exact(M.W [some 0,some 1,some 2,some 3,some 4] (he:=(by(repeat'(first|exact trivial|refine And.intro ?_ ?_|refine⟨_,U,_,U,_,U,?_⟩|exact VLe.refl _|exact VLe.of_eq (by simp[Sto.upd,cnt_append,flat_take _ _ _ hm,Int.add_assoc])));done)))
  ·intro hP
   skip
   (exact M.n2 [some 0,some 1,some 2,some 3] (h6:=(by(repeat'(first|exact trivial|refine And.intro ?_ ?_|refine⟨_,U,_,U,_,U,?_⟩|exact VLe.refl _|exact VLe.of_eq (by simp[Sto.upd,hv])));done)) (h8:=(by simp[tupV,V.wk,V.wks,constV,Ty.view,Tm.view,hv])))
theorem countEach(t:Tm)(at_:Int)(ht:t.full<549755813888)(hix:∀p∈t.vars 0,0≤p.1∧p.1<9223372036854775808):AC E 53 [.agg t.view,.fn (.func 101) [] [.ptr 0 0,.ptr 1 0]] ⟨2,[(0,.var [.i at_]),(1,.var [.i 0])]⟩ (.tup []) ⟨2,[(0,.var [.i at_]),(1,.var [.i (cnt at_ (t.vars 0))])]⟩:=by
 have hc:=countEach1 at_ _ t 0 0 (Nat.le_refl _) (by omega) (by omega) (by omega) (by omega) (by omega) hix
 refine M.F Tryz.func53 ?_
 repeat'(first|refine M.gw ?_|refine M.cv (hc) [3,4,0,1] 0 ?_|fail)
 (exact M.n2 [some 0,some 1] (h6:=(by(repeat'(first|exact trivial|refine And.intro ?_ ?_|refine⟨_,U,_,U,_,U,?_⟩|exact VLe.refl _|exact VLe.of_eq (by simp[Sto.upd,cnt])));done)) (h8:=(by simp[tupV,V.wk,V.wks,constV,Ty.view,Tm.view,cnt])))
theorem count_w(t:Tm)(at_:Int)(ht:t.full<549755813888)(hix:∀p∈t.vars 0,0≤p.1∧p.1<9223372036854775808):PC E 76 [.agg t.view,.i at_] (.i (cnt at_ (t.vars 0))):=by
 have hc:=countEach t at_ ht hix
 refine M.F Tryz.func76 ?_
 repeat'(first|refine M.gw ?_|refine M.cb (hc) [1,2] 0 ?_|fail)
 simp[tupV,V.wk,V.wks]
theorem count_c(t:Tm)(at_:Int)(ht:t.full<549755813888)(hix:∀p∈t.vars 0,0≤p.1∧p.1<1099511627776):PC E 76 [.agg t.view,.i at_] (.i (cnt at_ (t.vars 0))):=
 count_w t at_ ht fun p hp=>by have:=hix p hp;omega
theorem liftCb(fr by_ i bl:Int)(hi:0≤i∧i<549755813888)(hb:0≤bl∧bl<1099511627776)(hy: -1099511627776≤by_∧by_<1099511627776):AC E 125 [.i i,.i bl,.ptr 0 0,.ptr 1 0] ⟨2,[(0,.var [.i fr]),(1,.var [.i by_])]⟩ (.agg (liftG fr by_ i bl).view) ⟨2,[(0,.var [.i fr]),(1,.var [.i by_])]⟩:=by
 have hv:=tvar_c
 refine M.F Tryz.func125 ?_
 repeat'(first|refine M.gw ?_|refine M.c2 (hv _) ?_|refine M.cs ?_ ?_<;>intro h|fail)
 ·have h':fr≤i-bl:=by simpa using h
  (exact M.n2 [some 0,some 1] (h8:=(by simp[tupV,V.wk,V.wks,constV,Ty.view,Tm.view,liftG,h'])))
 ·have h':¬fr≤i-bl:=by simpa using h
  (exact M.n2 [some 0,some 1] (h8:=(by simp[tupV,V.wk,V.wks,constV,Ty.view,Tm.view,liftG,h'])))
theorem liftRe1(fr by_:Int)(hy: -1099511627776≤by_∧by_<1099511627776):∀(n:Nat) (t:Tm) (bl:Int),t.full≤n→n<549755813888→0≤bl→bl+n<549755813888→(∀p∈t.vars bl,0≤p.1∧p.1<549755813888)→AC E 124 [.agg t.view,.i bl,.ptr 0 0,.ptr 1 0] ⟨4,[(0,.var [.fn (.func 125) [] [.ptr 2 0,.ptr 3 0]]),(1,.var [.fn (.func 124) [] [.ptr 0 0,.ptr 1 0]]),(2,.var [.i fr]),(3,.var [.i by_])]⟩ (.agg (t.re (liftG fr by_) bl).view) ⟨4,[(0,.var [.fn (.func 125) [] [.ptr 2 0,.ptr 3 0]]),(1,.var [.fn (.func 124) [] [.ptr 0 0,.ptr 1 0]]),(2,.var [.i fr]),(3,.var [.i by_])]⟩:=by
 intro n
 induction n with
 |zero=>intro t bl h;have:=t.full_pos;omega
 |succ n ih=>
 intro t bl hsz hb hbl hbn hix
 have hsz':=Tm.full_eq t
 have hlen:=lsum_len Tm.full Tm.full_pos t.args
 have hv:=Tm.vars_eq bl t
 have hre:=Tm.re_eq (liftG fr by_) bl t
 have hi:t.kind=1→0≤t.index∧t.index<549755813888:=fun h=>by simpa using hix (t.index,bl) (by rw[hv];simp[h])
 have hcb:t.kind=1→_:=fun h=>liftCb fr by_ t.index bl (hi h) (by omega) hy
 have hown:=ownTy_c _ t.ty (Nat.le_refl _) (by omega)
 refine M.F Tryz.func124 ?_
 repeat'(first|refine M.gw ?_|refine M.cv (hcb (by simpa using h)) [2,3] 0 ?_|refine M.c2 (hown) ?_|refine M.cs ?_ ?_<;>intro h|fail)
 ·have hk:t.kind=1:=by simpa using h
  (exact M.n2 [some 0,some 1,some 2,some 3] (h8:=(by simp[tupV,V.wk,V.wks,constV,Ty.view,Tm.view,hre,hk])))
 all_goals
  rename_i hk1
  have hup:up t.kind bl≤bl+1:=by simp only[up];split<;>omega
  have hup0:0≤up t.kind bl:=by simp only[up];split<;>omega
  have hk1':¬t.kind=1:=by simpa using hk1
  refine AW.range t.args.length (fun m=>True)
   (fun m=>([(1,.i (up t.kind bl)),(3,.ptr 1 0),(6,.ptr 5 0),(7,.ptr 6 0),(32,.s .tm t.args),(33,.i t.args.length),(34,.i m)],⟨8,[(0,.var [.fn (.func 125) [] [.ptr 2 0,.ptr 3 0]]),(1,.var [.fn (.func 124) [] [.ptr 0 0,.ptr 1 0]]),(2,.var [.i fr]),(3,.var [.i by_]),(4,.var t.view),(5,.var [.i 0,.i 0,.i 0,.slice .nil (.t .ty []),.slice .nil (.t .tm [])]),(6,.var [.i t.kind,.i t.index,.i t.ty.kind,.s .ty t.ty.args,.slice (.own 7) (.t .tm ((t.args.take m).map (Tm.re (liftG fr by_) (up t.kind bl))))]),(7,.row)]⟩))
   (by omega) (fun m=>rfl) (fun m=>rfl) rfl trivial ?_ ?_ ?_
  ·simp_all only[beq_iff_eq,beq_eq_false_iff_ne,ne_eq]
   exact(M.W [some 0,some 1,some 2,some 3,some 4,some 5,some 6,none] (hf:=(by(repeat'(first|exact trivial|refine And.intro ?_ ?_|refine⟨_,U,_,U,?_⟩|exact VLe.refl _|exact VLe.of_eq (by simp[Sto.upd,up, *])));done)))
  ·intro m hm hP
   have hs2:=lsum_mem Tm.full (List.getElem_mem hm)
   have hix':∀p∈(t.args[m]).vars (up t.kind bl),0≤p.1∧p.1<549755813888:=fun p hp=>hix p (by rw[hv];exact List.mem_append_right _ (List.mem_flatMap.2 ⟨_,List.getElem_mem hm,hp⟩))
   have hc:=ih t.args[m] (up t.kind bl) (by omega) (by omega) hup0 (by omega) hix'
   repeat'(first|refine M.gw ?_|refine M.cv (hc) [0,1,2,3] 0 ?_|fail)
   refine⟨rfl,trivial,?_⟩
   exact(M.W [some 0,some 1,some 2,some 3,some 4,some 5,some 6,some 9] (he:=(by(repeat'(first|exact trivial|exact Or.inr ⟨_,U,rfl⟩|refine And.intro ?_ ?_|refine⟨_,U,_,U,_,U,?_⟩|exact VLe.refl _|exact VLe.of_eq (by simp[Sto.upd,map_take _ _ _ hm])));done)))
  ·intro hP
   repeat'(first|refine M.gw ?_|fail)
   (exact M.n2 [some 0,some 1,some 2,some 3] (h8:=(by simp[tupV,V.wk,V.wks,constV,Ty.view,Tm.view,hre,hk1'])))
theorem liftRe(fr by_:Int)(hy: -1099511627776≤by_∧by_<1099511627776)(t:Tm)(ht:t.full<274877906944)(hix:∀p∈t.vars 0,0≤p.1∧p.1<549755813888):AC E 103 [.agg t.view,.fn (.func 125) [] [.ptr 0 0,.ptr 1 0]] ⟨2,[(0,.var [.i fr]),(1,.var [.i by_])]⟩ (.agg (t.re (liftG fr by_) 0).view) ⟨2,[(0,.var [.i fr]),(1,.var [.i by_])]⟩:=by
 have hc:=liftRe1 fr by_ hy _ t 0 (Nat.le_refl _) (by omega) (by omega) (by omega) hix
 refine M.F Tryz.func103 ?_
 repeat'(first|refine M.gw ?_|refine M.cv (hc) [3,5,0,1] 0 ?_|fail)
 (exact M.n2 [some 0,some 1] (h8:=(by simp[tupV,V.wk,V.wks,constV,Ty.view,Tm.view,hc])))
theorem lift_c(t:Tm)(fr by_:Int)(hy: -1099511627776≤by_∧by_<1099511627776)(ht:t.full<274877906944)(hix:∀p∈t.vars 0,0≤p.1∧p.1<549755813888):PC E 105 [.agg t.view,.i fr,.i by_] (.agg (t.re (liftG fr by_) 0).view):=by
 have hc:=liftRe fr by_ hy t ht hix
 refine M.F Tryz.func105 ?_
 repeat'(first|refine M.gw ?_|refine M.cb (hc) [1,2] 0 ?_|fail)
 simp[tupV,V.wk,V.wks,constV,Ty.view,Tm.view]
theorem putCb(at_:Int)(s:Tm)(i bl:Int)(hat:0≤at_∧at_<549755813888)(hs:s.full<274877906944)(hsi:∀p∈s.vars 0,0≤p.1∧p.1<549755813888)(hi:0≤i∧i<9223372036854775808)(hb:0≤bl∧bl<549755813888):AC E 104 [.i i,.i bl,.ptr 0 0,.ptr 1 0] ⟨2,[(0,.var [.i at_]),(1,.var s.view)]⟩ (.agg (putG at_ s i bl).view) ⟨2,[(0,.var [.i at_]),(1,.var s.view)]⟩:=by
 have hv:=tvar_c
 have hl:=lift_c s 0 (at_+bl) (by omega) hs hsi
 refine M.F Tryz.func104 ?_
 repeat'(first|refine M.gw ?_|refine M.c2 (hv _) ?_|refine M.c2 (hl) ?_|refine M.bl ?_|refine M.cs ?_ ?_<;>intro h|fail)
 ·have h':i-bl=at_:=by simpa using h
  (exact M.n2 [some 0,some 1] (h8:=(by simp[tupV,V.wk,V.wks,constV,Ty.view,Tm.view,putG,h'])))
 ·rename_i h0
  have h0':¬i-bl=at_:=by simpa using h0
  have h':at_<i-bl:=by simpa using h
  (exact M.n2 [some 0,some 1] (h8:=(by simp[tupV,V.wk,V.wks,constV,Ty.view,Tm.view,putG,h',h0'])))
 ·rename_i h0
  have h0':¬i-bl=at_:=by simpa using h0
  have h':¬at_<i-bl:=by simpa using h
  (exact M.n2 [some 0,some 1] (h8:=(by simp[tupV,V.wk,V.wks,constV,Ty.view,Tm.view,putG,h',h0'])))
theorem putRe1(at_:Int)(s:Tm)(hat:0≤at_∧at_<549755813888)(hs:s.full<274877906944)(hsi:∀p∈s.vars 0,0≤p.1∧p.1<549755813888):∀(n:Nat) (t:Tm) (bl:Int),t.full≤n→n<549755813888→0≤bl→bl+n<549755813888→(∀p∈t.vars bl,0≤p.1∧p.1<9223372036854775808)→AC E 124 [.agg t.view,.i bl,.ptr 0 0,.ptr 1 0] ⟨4,[(0,.var [.fn (.func 104) [] [.ptr 2 0,.ptr 3 0]]),(1,.var [.fn (.func 124) [] [.ptr 0 0,.ptr 1 0]]),(2,.var [.i at_]),(3,.var s.view)]⟩ (.agg (t.re (putG at_ s) bl).view) ⟨4,[(0,.var [.fn (.func 104) [] [.ptr 2 0,.ptr 3 0]]),(1,.var [.fn (.func 124) [] [.ptr 0 0,.ptr 1 0]]),(2,.var [.i at_]),(3,.var s.view)]⟩:=by
 intro n
 induction n with
 |zero=>intro t bl h;have:=t.full_pos;omega
 |succ n ih=>
 intro t bl hsz hb hbl hbn hix
 have hsz':=Tm.full_eq t
 have hlen:=lsum_len Tm.full Tm.full_pos t.args
 have hv:=Tm.vars_eq bl t
 have hre:=Tm.re_eq (putG at_ s) bl t
 have hi:t.kind=1→0≤t.index∧t.index<9223372036854775808:=fun h=>by simpa using hix (t.index,bl) (by rw[hv];simp[h])
 have hcb:t.kind=1→_:=fun h=>putCb at_ s t.index bl hat hs hsi (hi h) (by omega)
 have hown:=ownTy_c _ t.ty (Nat.le_refl _) (by omega)
 refine M.F Tryz.func124 ?_
 repeat'(first|refine M.gw ?_|refine M.cv (hcb (by simpa using h)) [2,3] 0 ?_|refine M.c2 (hown) ?_|refine M.cs ?_ ?_<;>intro h|fail)
 ·have hk:t.kind=1:=by simpa using h
  (exact M.n2 [some 0,some 1,some 2,some 3] (h8:=(by simp[tupV,V.wk,V.wks,constV,Ty.view,Tm.view,hre,hk])))
 all_goals
  rename_i hk1
  have hup:up t.kind bl≤bl+1:=by simp only[up];split<;>omega
  have hup0:0≤up t.kind bl:=by simp only[up];split<;>omega
  have hk1':¬t.kind=1:=by simpa using hk1
  refine AW.range t.args.length (fun m=>True)
   (fun m=>([(1,.i (up t.kind bl)),(3,.ptr 1 0),(6,.ptr 5 0),(7,.ptr 6 0),(32,.s .tm t.args),(33,.i t.args.length),(34,.i m)],⟨8,[(0,.var [.fn (.func 104) [] [.ptr 2 0,.ptr 3 0]]),(1,.var [.fn (.func 124) [] [.ptr 0 0,.ptr 1 0]]),(2,.var [.i at_]),(3,.var s.view),(4,.var t.view),(5,.var [.i 0,.i 0,.i 0,.slice .nil (.t .ty []),.slice .nil (.t .tm [])]),(6,.var [.i t.kind,.i t.index,.i t.ty.kind,.s .ty t.ty.args,.slice (.own 7) (.t .tm ((t.args.take m).map (Tm.re (putG at_ s) (up t.kind bl))))]),(7,.row)]⟩))
   (by omega) (fun m=>rfl) (fun m=>rfl) rfl trivial ?_ ?_ ?_
  ·simp_all only[beq_iff_eq,beq_eq_false_iff_ne,ne_eq]
   exact(M.W [some 0,some 1,some 2,some 3,some 4,some 5,some 6,none] (hf:=(by(repeat'(first|exact trivial|refine And.intro ?_ ?_|refine⟨_,U,_,U,?_⟩|exact VLe.refl _|exact VLe.of_eq (by simp[Sto.upd,up, *])));done)))
  ·intro m hm hP
   have hs2:=lsum_mem Tm.full (List.getElem_mem hm)
   have hix':∀p∈(t.args[m]).vars (up t.kind bl),0≤p.1∧p.1<9223372036854775808:=fun p hp=>hix p (by rw[hv];exact List.mem_append_right _ (List.mem_flatMap.2 ⟨_,List.getElem_mem hm,hp⟩))
   have hc:=ih t.args[m] (up t.kind bl) (by omega) (by omega) hup0 (by omega) hix'
   repeat'(first|refine M.gw ?_|refine M.cv (hc) [0,1,2,3] 0 ?_|fail)
   refine⟨rfl,trivial,?_⟩
   exact(M.W [some 0,some 1,some 2,some 3,some 4,some 5,some 6,some 9] (he:=(by(repeat'(first|exact trivial|exact Or.inr ⟨_,U,rfl⟩|refine And.intro ?_ ?_|refine⟨_,U,_,U,_,U,?_⟩|exact VLe.refl _|exact VLe.of_eq (by simp[Sto.upd,map_take _ _ _ hm])));done)))
  ·intro hP
   repeat'(first|refine M.gw ?_|fail)
   (exact M.n2 [some 0,some 1,some 2,some 3] (h8:=(by simp[tupV,V.wk,V.wks,constV,Ty.view,Tm.view,hre,hk1'])))
theorem putRe(at_:Int)(s:Tm)(hat:0≤at_∧at_<549755813888)(hs:s.full<274877906944)(hsi:∀p∈s.vars 0,0≤p.1∧p.1<549755813888)(t:Tm)(ht:t.full<274877906944)(hix:∀p∈t.vars 0,0≤p.1∧p.1<9223372036854775808):AC E 103 [.agg t.view,.fn (.func 104) [] [.ptr 0 0,.ptr 1 0]] ⟨2,[(0,.var [.i at_]),(1,.var s.view)]⟩ (.agg (t.re (putG at_ s) 0).view) ⟨2,[(0,.var [.i at_]),(1,.var s.view)]⟩:=by
 have hc:=putRe1 at_ s hat hs hsi _ t 0 (Nat.le_refl _) (by omega) (by omega) (by omega) hix
 refine M.F Tryz.func103 ?_
 repeat'(first|refine M.gw ?_|refine M.cv (hc) [3,5,0,1] 0 ?_|fail)
 (exact M.n2 [some 0,some 1] (h8:=(by simp[tupV,V.wk,V.wks,constV,Ty.view,Tm.view,hc])))
theorem put_w(t:Tm)(at_:Int)(s:Tm)(hat:0≤at_∧at_<549755813888)(hs:s.full<274877906944)(hsi:∀p∈s.vars 0,0≤p.1∧p.1<549755813888)(ht:t.full<274877906944)(hix:∀p∈t.vars 0,0≤p.1∧p.1<9223372036854775808):PC E 79 [.agg t.view,.i at_,.agg s.view] (.agg (t.re (putG at_ s) 0).view):=by
 have hc:=putRe at_ s hat hs hsi t ht hix
 refine M.F Tryz.func79 ?_
 repeat'(first|refine M.gw ?_|refine M.cb (hc) [1,2] 0 ?_|fail)
 simp[tupV,V.wk,V.wks,constV,Ty.view,Tm.view]
theorem put_c(t:Tm)(at_:Int)(s:Tm)(hat:0≤at_∧at_<549755813888)(hs:s.full<274877906944)(hsi:∀p∈s.vars 0,0≤p.1∧p.1<549755813888)(ht:t.full<274877906944)(hix:∀p∈t.vars 0,0≤p.1∧p.1<549755813888):PC E 79 [.agg t.view,.i at_,.agg s.view] (.agg (t.re (putG at_ s) 0).view):=
 put_w t at_ s hat hs hsi ht fun p hp=>by have:=hix p hp;omega
end Go.Ab
namespace Go.Ab
open Go Go.Proofs
set_option maxRecDepth 100000
set_option maxHeartbeats 4000000
set_option linter.all false
theorem mod_c(n k:Int)(hk:0<k∧k<1099511627776):PC E 59 [.i n,.i k] (.i (modI n k)):=by
 have hb1:=Int.tmod_lt_of_pos n hk.1
 have hb2:=tmod_lo n k hk.1
 refine M.F Tryz.func59 ?_
 repeat'(first|refine M.gw ?_|fail)
 rfl
theorem next_c(d:Dk)(n:Int)(hd:d.ok)(hn:n<1099511627776):AC E 20 [.ptr 0 0,.i n] ⟨1,[(0,.var d.cells)]⟩ (.i (d.next n).1) ⟨1,[(0,.var (d.next n).2.cells)]⟩:=by
 obtain⟨hd1,hd2⟩:=hd
 have hm:¬n<1→∀x,PC E 59 [.i x,.i n] (.i (modI x n)):=fun h x=>mod_c x n ⟨by omega,hn⟩
 refine M.F Tryz.func20 ?_
 repeat'(first|refine M.gw ?_|refine M.c2 (hm (by simp_all) _) ?_|refine M.gs ?_ ?_<;>intro h|refine M.cs ?_ ?_<;>intro h|fail)
 ·have h':n<1:=by simpa using h
  have e:d.next n=(0,d):=dif_pos (.inl h')
  (exact M.n2 [some 0] (h6:=(by(repeat'(first|exact trivial|refine And.intro ?_ ?_|refine⟨_,U,_,U,_,U,?_⟩|exact VLe.of_eq (by simp[Sto.upd,e,Dk.cells])));done)) (h8:=(by simp[tupV,V.wk,V.wks,constV,Ty.view,Tm.view,e,Dk.cells])))
 ·have h':d.l.length≤d.at_:=by simp at h;omega
  have e:d.next n=(0,d):=dif_pos (.inr h')
  (exact M.n2 [some 0] (h6:=(by(repeat'(first|exact trivial|refine And.intro ?_ ?_|refine⟨_,U,_,U,_,U,?_⟩|exact VLe.of_eq (by simp[Sto.upd,e,Dk.cells])));done)) (h8:=(by simp[tupV,V.wk,V.wks,constV,Ty.view,Tm.view,e,Dk.cells])))
 ·rename_i h0
  have h':¬(n<1∨d.l.length≤d.at_):=by simp at h h0;omega
  have e:d.next n=(modI (d.l[d.at_]'(by omega)) n,⟨d.l,d.at_+1⟩):=dif_neg h'
  (exact M.n2 [some 0] (h6:=(by(repeat'(first|exact trivial|refine And.intro ?_ ?_|refine⟨_,U,_,U,_,U,?_⟩|exact VLe.of_eq (by simp[Sto.upd,e,Dk.cells])));done)) (h8:=(by simp[tupV,V.wk,V.wks,constV,Ty.view,Tm.view,e,Dk.cells])))
theorem few_c(l:List Int):PC E 5 [.s .int l] (.bool (decide (l.length≤500))):=by
 refine M.F Tryz.func5 ?_
 repeat'(first|refine M.gw ?_|fail)
 simp[tupV,V.wk,V.wks]
 omega
theorem new_c(l:List Int):AC E 6 [.s .int l] ⟨0,[]⟩ (.ptr 0 0) ⟨1,[(0,.var (Dk.mk l 0).cells)]⟩:=by
 refine M.F Tryz.func6 ?_
 repeat'(first|refine M.gw ?_|fail)
 (exact M.n2 [some 0] (h8:=(by simp[tupV,V.wk,V.wks,constV,Ty.view,Tm.view,Dk.cells])))
end Go.Ab
namespace Go.Ab
open Go Go.Proofs
set_option maxRecDepth 100000
set_option linter.all false
theorem type_c:∀(n:Nat) (k:Int) (d:Dk),k≤n→n≤20→-100≤k→d.ok→AC E 8 [.ptr 0 0,.i k] ⟨1,[(0,.var d.cells)]⟩ (.agg (d.type k.toNat).1.view) ⟨1,[(0,.var (d.type k.toNat).2.cells)]⟩:=by
 intro n
 induction n with
 |zero=>
  intro k d hk hn hk' hd
  have h1:=next_c d 7 hd (by omega)
  have e:=Dk.type_eq k d
  refine AC.mk Tryz.func8 rfl rfl rfl rfl rfl (Nat.le_of_ble_eq_true rfl) ?_
  repeat'(first|((with_reducible refine D.nil ?_);refine AX.nilL ?_)|((with_reducible refine D.move ?_);refine L.mv U U U ?_)|((with_reducible refine D.assign ?_);refine L.asg U U U ?_)|((with_reducible refine D.bin ?_);first|refine L.sb U U U U (by omega) ?_|refine L.bn U U U U U ?_)|((with_reducible refine D.call ?_);first|(apply L.cb2 (h1) [0] 0 rfl;rfl;rfl;rfl;rfl;rfl;rfl;(focus((repeat'(first|exact trivial|refine And.intro ?_ ?_|refine⟨_,U,_,U,_,U,?_⟩|exact VLe.refl _));done));rfl;rfl;rfl;rfl)|refine L.c2 (nat_c) U U U U ?_|refine L.c2 (list_c) U U U U ?_|refine L.c2 (unit_c) U U U U ?_)|((with_reducible refine D.alloc ?_);refine L.al U U U ?_)|((with_reducible refine D.store ?_);refine L.st U U U U U U U U U ?_)|((with_reducible refine D.aw ?_);first|((with_reducible refine D.blk ?_);refine AW.block ?_)|refine K.sq (AW.regL ?_)|refine K.sq (K.sq ?_)|refine AW.regL ?_|refine AW.condT U ?_|refine AW.condS U (fun h=> ?_) (fun h=> ?_)|refine AW.skip ?_|refine AW.ret ?_)|with_reducible refine K.tN ?_|with_reducible refine K.bN ?_|with_reducible refine K.tR ?_|with_reducible refine K.bR ?_)
  all_goals first
   |(exfalso;simp at*;omega)
   |(simp only[beq_iff_eq,beq_eq_false_iff_ne,ne_eq,decide_eq_true_eq,decide_eq_false_iff_not,gt_iff_lt] at*
     simp[*] at e
     (exact K.n2 [some 0] U U U U U (by(repeat'(first|exact trivial|refine And.intro ?_ ?_|refine⟨_,U,_,U,_,U,?_⟩|exact VLe.of_eq (by simp[Sto.upd,e])));done) U (by simp[tupV,V.wk,V.wks,constV,Ty.view,Tm.view,e])))
 |succ n ih=>
  intro k d hk hn hk' hd
  have h1:=next_c d 7 hd (by omega)
  have e:=Dk.type_eq k d
  have i1:k>0→_:=fun h=>ih (k-1) (d.next 7).2 (by omega) (by omega) (by omega) (Dk.next_ok hd 7)
  have i2:k>0→_:=fun h=>ih (k-1) ((d.next 7).2.type (k-1).toNat).2 (by omega) (by omega) (by omega) (Dk.type_ok _ _ (Dk.next_ok hd 7))
  have i3:=two_c ((d.next 7).2.type (k-1).toNat).1 ((((d.next 7).2.type (k-1).toNat).2).type (k-1).toNat).1 (Dk.type_small _ _ (by omega)) (Dk.type_small _ _ (by omega))
  have i4:=fun_c ((d.next 7).2.type (k-1).toNat).1 ((((d.next 7).2.type (k-1).toNat).2).type (k-1).toNat).1 (Dk.type_small _ _ (by omega)) (Dk.type_small _ _ (by omega))
  refine AC.mk Tryz.func8 rfl rfl rfl rfl rfl (Nat.le_of_ble_eq_true rfl) ?_
  repeat'(first|((with_reducible refine D.nil ?_);refine AX.nilL ?_)|((with_reducible refine D.move ?_);refine L.mv U U U ?_)|((with_reducible refine D.assign ?_);refine L.asg U U U ?_)|((with_reducible refine D.bin ?_);first|refine L.sb U U U U (by omega) ?_|refine L.bn U U U U U ?_)|((with_reducible refine D.call ?_);first|(apply L.cb2 (h1) [0] 0 rfl;rfl;rfl;rfl;rfl;rfl;rfl;(focus((repeat'(first|exact trivial|refine And.intro ?_ ?_|refine⟨_,U,_,U,_,U,?_⟩|exact VLe.refl _));done));rfl;rfl;rfl;rfl)|refine L.c2 (nat_c) U U U U ?_|refine L.c2 (list_c) U U U U ?_|refine L.c2 (unit_c) U U U U ?_|(apply L.cb2 (i1 (by simp_all)) [0] 0 rfl;rfl;rfl;rfl;rfl;rfl;rfl;(focus((repeat'(first|exact trivial|refine And.intro ?_ ?_|refine⟨_,U,_,U,_,U,?_⟩|exact VLe.refl _));done));rfl;rfl;rfl;rfl)|(apply L.cb2 (i2 (by simp_all)) [0] 0 rfl;rfl;rfl;rfl;rfl;rfl;rfl;(focus((repeat'(first|exact trivial|refine And.intro ?_ ?_|refine⟨_,U,_,U,_,U,?_⟩|exact VLe.refl _));done));rfl;rfl;rfl;rfl)|refine L.c2 (i3) U U U U ?_|refine L.c2 (i4) U U U U ?_)|((with_reducible refine D.alloc ?_);refine L.al U U U ?_)|((with_reducible refine D.store ?_);refine L.st U U U U U U U U U ?_)|((with_reducible refine D.aw ?_);first|((with_reducible refine D.blk ?_);refine AW.block ?_)|refine K.sq (AW.regL ?_)|refine K.sq (K.sq ?_)|refine AW.regL ?_|refine AW.condT U ?_|refine AW.condS U (fun h=> ?_) (fun h=> ?_)|refine AW.skip ?_|refine AW.ret ?_)|with_reducible refine K.tN ?_|with_reducible refine K.bN ?_|with_reducible refine K.tR ?_|with_reducible refine K.bR ?_)
  all_goals
   simp only[beq_iff_eq,beq_eq_false_iff_ne,ne_eq,decide_eq_true_eq,decide_eq_false_iff_not,gt_iff_lt] at*
   simp[*] at e
   (exact K.n2 [some 0] U U U U U (by(repeat'(first|exact trivial|refine And.intro ?_ ?_|refine⟨_,U,_,U,_,U,?_⟩|exact VLe.of_eq (by simp[Sto.upd,e])));done) U (by simp[tupV,V.wk,V.wks,constV,Ty.view,Tm.view,e]))
theorem numeral_c(n:Nat)(hn:n<100000):PC E 98 [.i n] (.agg (numT n).view):=by
 have h1:=n_c 4 [] (by simp)
 refine M.F Tryz.func98 ?_
 repeat'(first|refine M.gw ?_|refine M.c2 (h1) ?_|fail)
 refine K.sq (AW.down n (fun m=>m≤n)
  (fun m=>([(0,.i m),(2,.ptr 0 0),(3,.ptr 1 0)],⟨2,[(0,.var [.i 0,.i 0,.i 0,.slice .nil (.t .ty []),.slice .nil (.t .tm [])]),(1,.var (numT (n-m)).view)]⟩))
  (by omega) (fun m=>rfl) rfl (Nat.le_refl _) ?_ ?_ ?_)
 ·simp only[Nat.sub_self]
  exact(M.W [some 0,some 1])
 ·intro m hm hP
  have e:numT (n-m)= .mk 5 0 (.mk 0 []) [numT (n-(m+1))]:=by rw[show n-m=(n-(m+1))+1 by omega];rfl
  repeat'(first|refine M.gw ?_|fail)
  refine⟨rfl,by omega,?_⟩
  simp only[e]
  exact(M.W [some 0,some 1])
 ·intro _
  repeat'(first|refine M.gw ?_|fail)
  simp[tupV,V.wk,V.wks,constV,Ty.view,Tm.view]
theorem number_c(n:Int):PC E 67 [.i n] (.tup [.agg (if 0≤n∧n<4096 then numT n.toNat else noTm).view,.i (if n<0 then 1 else if n≥4096 then 4 else 0)]):=by
 have h1:¬n<0→¬n≥4096→PC E 98 [.i n] _:=fun h h'=>by
  have:=numeral_c n.toNat (by omega)
  rw[show((n.toNat:Nat):Int)=n by omega] at this
  exact this
 refine M.F Tryz.func67 ?_
 repeat'(first|refine M.gw ?_|refine M.c2 (h1 (by simp_all) (by simp_all)) ?_|refine M.cs ?_ ?_<;>intro h|fail)
 ·have h':n<0:=by simpa using h
  have h2:¬(0≤n∧n<4096):=by omega
  simp[tupV,V.wk,V.wks,constV,Ty.view,Tm.view,noTm,h',h2]
 ·rename_i h0
  have h':¬n<0:=by simpa using h0
  have h'':n≥4096:=by simpa using h
  have h2:¬(0≤n∧n<4096):=by omega
  simp[tupV,V.wk,V.wks,constV,Ty.view,Tm.view,noTm,h',h'',h2]
 ·rename_i h0
  have h':¬n<0:=by simpa using h0
  have h'':¬n≥4096:=by simpa using h
  have h2:0≤n∧n<4096:=by omega
  simp[tupV,V.wk,V.wks,constV,Ty.view,Tm.view,noTm,h',h'',h2]
theorem longer_c(g l:List Ty)(h:g.length+l.length<1000000):PC E 28 [.s .ty g,.s .ty l] (.s .ty (g++l)):=by
 refine M.F Tryz.func28 ?_
 repeat'(first|refine M.gw ?_|fail)
 simp[tupV,V.wk,V.wks,constV,Ty.view,Tm.view]
theorem lam_c(t:Tm)(ht:t.full<549755813888):PC E 68 [.agg t.view] (.agg (Tm.mk 2 0 (.mk 1 []) [t]).view):=by
 have h1:=t_c 2 (.mk 1 []) [t] (by simp;omega) (by simp[Ty.size_eq])
 refine M.F Tryz.func68 ?_
 repeat'(first|refine M.gw ?_|refine M.c2 (nat_c) ?_|refine M.c2 (h1) ?_|fail)
 simp[tupV,V.wk,V.wks,constV,Ty.view,Tm.view]
theorem num_c(n:Int):PC E 34 [.i n] (.agg (numOf n).view):=by
 have h1:=number_c n
 refine M.F Tryz.func34 ?_
 repeat'(first|refine M.gw ?_|refine M.c2 (h1) ?_|fail)
 simp[tupV,V.wk,V.wks,constV,Ty.view,Tm.view,numOf]
theorem context_c(d:Dk)(hd:d.ok):AC E 7 [.ptr 0 0] ⟨1,[(0,.var d.cells)]⟩ (.s .ty d.ctx.1) ⟨1,[(0,.var d.ctx.2.cells)]⟩:=by
 have h1:=next_c d 4 hd (by omega)
 have hb:=Dk.next_bd d 4 (by omega)
 obtain⟨c,hc⟩:∃c:Nat,(d.next 4).1=c:=⟨(d.next 4).1.toNat,by omega⟩
 rw[hc] at h1 hb
 have hx:d.ctx=(d.next 4).2.types c:=by simp only[Dk.ctx,hc];rfl
 refine M.F Tryz.func7 ?_
 repeat'(first|refine M.gw ?_|refine M.cb (h1) [0] 0 ?_|fail)
 refine AW.down c (fun m=>m≤c)
  (fun m=>([(0,.ptr 0 0),(3,.slice (.own 1) (.t .ty ((d.next 4).2.types (c-m)).1)),(4,.i m)],⟨2,[(0,.var ((d.next 4).2.types (c-m)).2.cells),(1,.row)]⟩))
  (by omega) (fun m=>rfl) rfl (Nat.le_refl _) ?_ ?_ ?_
 ·simp only[Nat.sub_self]
  exact(M.W [some 0,none])
 ·intro m hm hP
  have e:=Dk.types_snoc (c-(m+1)) (d.next 4).2
  rw[show c-(m+1)+1=c-m by omega] at e
  have h2:=type_c 1 1 ((d.next 4).2.types (c-(m+1))).2 (by omega) (by omega) (by omega) (Dk.types_ok _ _ (Dk.next_ok hd 4))
  have hl:=Dk.types_len (c-(m+1)) (d.next 4).2
  repeat'(first|refine M.gw ?_|refine M.cb (h2) [0] 0 ?_|fail)
  refine⟨rfl,by omega,?_⟩
  simp only[e]
  exact(M.W [some 0,some 2])
 ·intro _
  repeat'(first|refine M.gw ?_|fail)
  (exact M.n2 [some 0] (h6:=(by(repeat'(first|exact trivial|refine And.intro ?_ ?_|refine⟨_,U,_,U,_,U,?_⟩|exact VLe.of_eq (by simp[Sto.upd,hx])));done)) (h8:=(by simp[tupV,V.wk,V.wks,constV,Ty.view,Tm.view,hx])))
theorem rec_c(b f n:Tm)(h:b.full+f.full+n.full<549755813888):PC E 69 [.agg b.view,.agg f.view,.agg n.view] (.agg (Tm.mk 6 0 (.mk 1 []) [b,f,n]).view):=by
 have h1:=t_c 6 (.mk 1 []) [b,f,n] (by simp;omega) (by simp[Ty.size_eq])
 refine M.F Tryz.func69 ?_
 repeat'(first|refine M.gw ?_|refine M.c2 (nat_c) ?_|refine M.c2 (h1) ?_|fail)
 simp[tupV,V.wk,V.wks,constV,Ty.view,Tm.view]
theorem plus_c:PC E 37 [] (.agg plusT.view):=by
 have h0:=var_c 0
 have h1:=var_c 1
 have h2:=n_c 5 [vT 0] (by simp[Tm.full,Tm.fulls,Ty.size,Ty.sizes,vT])
 have h3:=lam_c (sT (vT 0)) (by simp[Tm.full,Tm.fulls,Ty.size,Ty.sizes,vT,sT])
 have h4:=lam_c (lamT (sT (vT 0))) (by simp[Tm.full,Tm.fulls,Ty.size,Ty.sizes,vT,sT,lamT])
 have h5:=rec_c (vT 1) addF (vT 0) (by simp[Tm.full,Tm.fulls,Ty.size,Ty.sizes,vT,sT,lamT,addF])
 have h6:=lam_c (recT (vT 1) addF (vT 0)) (by simp[Tm.full,Tm.fulls,Ty.size,Ty.sizes,vT,sT,lamT,addF,recT])
 have h7:=lam_c (lamT (recT (vT 1) addF (vT 0))) (by simp[Tm.full,Tm.fulls,Ty.size,Ty.sizes,vT,sT,lamT,addF,recT])
 refine M.F Tryz.func37 ?_
 repeat'(first|refine M.gw ?_|refine M.c2 (h0) ?_|refine M.c2 (h1) ?_|refine M.c2 (h2) ?_|refine M.c2 (h3) ?_|refine M.c2 (h4) ?_|refine M.c2 (h5) ?_|refine M.c2 (h6) ?_|refine M.c2 (h7) ?_|fail)
 rfl
theorem pred_c:PC E 70 [] (.agg predT.view):=by
 have h0:=var_c 0
 have h1:=var_c 1
 have h2:=n_c 4 [] (by simp)
 have h3:=lam_c (vT 1) (by simp[Tm.full,Tm.fulls,Ty.size,Ty.sizes,vT,sT])
 have h4:=lam_c (lamT (vT 1)) (by simp[Tm.full,Tm.fulls,Ty.size,Ty.sizes,vT,sT,lamT])
 have h5:=rec_c zT (lamT (lamT (vT 1))) (vT 0) (by simp[Tm.full,Tm.fulls,Ty.size,Ty.sizes,vT,zT,lamT,addF])
 have h6:=lam_c (recT zT (lamT (lamT (vT 1))) (vT 0)) (by simp[Tm.full,Tm.fulls,Ty.size,Ty.sizes,vT,zT,lamT,addF,recT])
 refine M.F Tryz.func70 ?_
 repeat'(first|refine M.gw ?_|refine M.c2 (h0) ?_|refine M.c2 (h1) ?_|refine M.c2 (h2) ?_|refine M.c2 (h3) ?_|refine M.c2 (h4) ?_|refine M.c2 (h5) ?_|refine M.c2 (h6) ?_|fail)
 rfl
theorem sub_c:PC E 38 [] (.agg subT.view):=by
 have h0:=var_c 0
 have h1:=var_c 1
 have hp:=pred_c
 have h2:=n_c 3 [predT,vT 0] (by simp[Tm.full,Tm.fulls,Ty.size,Ty.sizes,vT,zT,lamT,predT,recT])
 have h3:=lam_c (apT predT (vT 0)) (by simp[Tm.full,Tm.fulls,Ty.size,Ty.sizes,vT,zT,lamT,predT,recT,apT])
 have h4:=lam_c (lamT (apT predT (vT 0))) (by simp[Tm.full,Tm.fulls,Ty.size,Ty.sizes,vT,zT,lamT,predT,recT,apT])
 have h5:=rec_c (vT 1) subF (vT 0) (by simp[Tm.full,Tm.fulls,Ty.size,Ty.sizes,vT,zT,lamT,predT,recT,apT,subF])
 have h6:=lam_c (recT (vT 1) subF (vT 0)) (by simp[Tm.full,Tm.fulls,Ty.size,Ty.sizes,vT,zT,lamT,predT,recT,apT,subF])
 have h7:=lam_c (lamT (recT (vT 1) subF (vT 0))) (by simp[Tm.full,Tm.fulls,Ty.size,Ty.sizes,vT,zT,lamT,predT,recT,apT,subF])
 refine M.F Tryz.func38 ?_
 repeat'(first|refine M.gw ?_|refine M.c2 (h0) ?_|refine M.c2 (h1) ?_|refine M.c2 (hp) ?_|refine M.c2 (h2) ?_|refine M.c2 (h3) ?_|refine M.c2 (h4) ?_|refine M.c2 (h5) ?_|refine M.c2 (h6) ?_|refine M.c2 (h7) ?_|fail)
 rfl
theorem appMake_c:∀(f:Tm) (l:List Tm),f.full+2*l.length+(l.map Tm.full).sum<274877906944→PC E 36 [.agg f.view,.s .tm l] (.agg (l.foldl apT f).view):=by
 intro f l hl
 have hlen:=lsum_len Tm.full Tm.full_pos l
 have hfull:∀m,m≤l.length→((l.take m).foldl apT f).full≤f.full+2*m+((l.take m).map Tm.full).sum:=by
  intro m
  induction m with
  |zero=>intro _;simp
  |succ m ih=>
   intro hm
   have h1:=ih (by omega)
   have h2:=lsum_take Tm.full l m (by omega)
   rw[←List.take_append_getElem (by omega:m<l.length),List.foldl_append,List.take_append_getElem (by omega:m<l.length),h2]
   simp only[List.foldl_cons,List.foldl_nil,apT,Tm.full,Tm.fulls,Ty.size,Ty.sizes]
   omega
 refine M.F Tryz.func36 ?_
 repeat'(first|refine M.gw ?_|fail)
 refine AW.range l.length (fun m=>True)
  (fun m=>([(2,.ptr 0 0),(4,.ptr 1 0),(7,.s .tm l),(8,.i l.length),(9,.i m)],⟨2,[(0,.var ((l.take m).foldl apT f).view),(1,.var [.i 0,.i 0,.i 0,.slice .nil (.t .ty []),.slice .nil (.t .tm [])])]⟩))
  (by omega) (fun m=>rfl) (fun m=>rfl) rfl trivial (M.W [some 0,some 1]) ?_ ?_
 ·intro m hm hP
  have e:(l.take (m+1)).foldl apT f=apT ((l.take m).foldl apT f) l[m]:=by rw[←List.take_append_getElem hm,List.foldl_append];rfl
  have h2:=lsum_take_le Tm.full l (m+1)
  have h3:=lsum_take Tm.full l m hm
  have h4:=hfull m (by omega)
  have h1:=n_c 3 [(l.take m).foldl apT f,l[m]] (by simp only[List.map_cons,List.map_nil,List.sum_cons,List.sum_nil];omega)
  repeat'(first|refine M.gw ?_|refine M.c2 (h1) ?_|fail)
  refine⟨rfl,trivial,?_⟩
  exact(M.W [some 0,some 1] (he:=(by(repeat'(first|exact trivial|refine And.intro ?_ ?_|refine⟨_,U,_,U,_,U,?_⟩|exact VLe.refl _|exact VLe.of_eq (by simp[Sto.upd,e,apT])));done)))
 ·intro _
  repeat'(first|refine M.gw ?_|fail)
  simp[tupV,V.wk,V.wks,constV,Ty.view,Tm.view]
theorem vars_c(g:List Ty)(t:Ty)(hg:(g.map Ty.size).sum<1099511627776):PC E 31 [.s .ty g,.agg t.view] (.s .int (varsT g t)):=by
 have hlen:=lsum_len Ty.size Ty.size_pos g
 refine M.F Tryz.func31 ?_
 repeat'(first|refine M.gw ?_|fail)
 refine AW.range g.length (fun m=>True)
  (fun m=>([(0,.s .ty g),(3,.ptr 0 0),(5,.slice (.own 1) (.t .int (((List.range m).filter fun i=>decide (g[g.length-1-i]? =some t)).map Int.ofNat))),(8,.i g.length),(9,.i m)],⟨2,[(0,.var t.view),(1,.row)]⟩))
  (by omega) (fun m=>rfl) (fun m=>rfl) rfl trivial (M.W [some 0,none]) ?_ ?_
 ·intro m hm hP
  have hm2:g.length-1-m<g.length:=by omega
  have hs2:=lsum_mem Ty.size (List.getElem_mem hm2)
  have hsame:=sameTy_c _ g[g.length-1-m] t (Nat.le_refl _) (by omega)
  have hg:g[g.length-1-m]? =some g[g.length-1-m]:=List.getElem?_eq_getElem hm2
  have hfl:(List.filter (fun i=>decide (g[g.length-1-i]? =some t)) (List.range m)).length≤m:=by have:=List.length_filter_le (fun i=>decide (g[g.length-1-i]? =some t)) (List.range m);simpa using this
  repeat'(first|refine M.gw ?_|fail)
  refine L.ixt (g.length-1-m) rfl rfl rfl rfl (by omega) rfl rfl (by omega) ?_
  repeat'(first|refine M.gw ?_|refine M.c2 (hsame) ?_|refine M.cs ?_ ?_<;>intro h|fail)
  ·exact ⟨rfl,trivial,(M.W [some 0,some 2] (hf:=(by(repeat'(first|exact trivial|refine And.intro ?_ ?_|refine⟨_,U,_,U,?_⟩|exact VLe.refl _|exact VLe.of_eq (by simp[Sto.upd,List.range_succ,hg,of_decide_eq_true h])));done)))⟩
  ·exact ⟨rfl,trivial,(M.W [some 0,some 1] (hf:=(by(repeat'(first|exact trivial|refine And.intro ?_ ?_|refine⟨_,U,_,U,?_⟩|exact VLe.refl _|exact VLe.of_eq (by simp[Sto.upd,List.range_succ,hg,of_decide_eq_false h])));done)))⟩
 ·intro _
  repeat'(first|refine M.gw ?_|fail)
  simp[tupV,V.wk,V.wks]
  rfl
theorem shapeTy_c:∀(b:Nat) (t:Ty),t.size≤b→b<1099511627776→PC E 145 [.agg t.view] (.bool t.shape):=by
 intro b
 induction b with
 |zero=>intro t h;have:=t.size_pos;omega
 |succ b ih=>
 intro t hsz hb
 have hsz':=Ty.size_eq t
 have hlen:=lsum_len Ty.size Ty.size_pos t.args
 have hsh:=Ty.shape_eq t
 refine M.F Tryz.func145 ?_
 repeat'(first|refine M.gw ?_|fail)
 refine AW.cutT (ι:={n:Nat // arT t.kind=some n}) (fun n=>([(1,.ptr 0 0),(3,.i n.1)],⟨1,[(0,.var t.view)]⟩)) ?_ ?_
 ·refine AW.block ?_
  repeat'(first|refine M.gw ?_|refine M.cs ?_ ?_<;>intro h|fail)
  ·exact ⟨⟨0,by simp at h;simp[arT,h]⟩,(M.W [some 0])⟩
  ·exact ⟨⟨0,by simp at h;simp[arT,h]⟩,(M.W [some 0])⟩
  ·exact ⟨⟨0,by simp at h;simp[arT,h]⟩,(M.W [some 0])⟩
  ·exact ⟨⟨2,by simp at h;simp[arT,h]⟩,(M.W [some 0])⟩
  ·exact ⟨⟨2,by simp at h;simp[arT,h]⟩,(M.W [some 0])⟩
  ·have:t.shape=false:=by simp at*;simp[hsh,arT, *]
   simp[this,tupV,constV,V.wk,V.wks]
 rintro⟨n,hn⟩
 repeat'(first|refine M.gw ?_|refine M.cs ?_ ?_<;>intro h|fail)
 ·have h1:¬t.args.length=n:=by simp at h;omega
  have:t.shape=false:=by simp[hsh,hn,h1]
  simp[this,tupV,constV,V.wk,V.wks]
 have hn':t.args.length=n:=by simp at h;omega
 refine AW.range t.args.length (fun m=>∀j (hj:j<t.args.length),j<m→(t.args[j]).shape=true)
  (fun m=>([(1,.ptr 0 0),(21,.s .ty t.args),(22,.i t.args.length),(23,.i m)],⟨1,[(0,.var t.view)]⟩))
  (by omega) (fun m=>rfl) (fun m=>rfl) rfl (by intro j hj h;omega) (M.W [some 0]) ?_ ?_
 ·intro m hm hP
  have hs2:=lsum_mem Ty.size (List.getElem_mem hm)
  repeat'(first|refine M.gw ?_|refine M.c2 (ih _ ?_ ?_) ?_|refine M.cs ?_ ?_<;>intro h|exact M.le|exact M.lt|fail)
  ·have h1:(t.args[m]).shape=false:=by simpa using h
   have:t.shape=false:=by rw[hsh,all_not Ty.shape hm h1,Bool.and_false]
   simp[this,tupV,constV,V.wk,V.wks]
  ·have hh:(t.args[m]).shape=true:=by simpa using h
   exact⟨rfl,all_step (p:=fun t=>Ty.shape t=true) hm hP hh,(M.W [some 0])⟩
 ·intro hP
  have:t.shape=true:=by simp only[hsh,hn,hn',all_of Ty.shape t.args fun j hj=>hP j hj hj];simp
  repeat'(first|refine M.gw ?_|fail)
  simp[this,tupV,constV,V.wk,V.wks]
theorem sizeTy_c:∀(b:Nat) (t:Ty),t.size≤b→b<1099511627776→PC E 146 [.agg t.view] (.i t.size):=by
 intro b
 induction b with
 |zero=>intro t h;have:=t.size_pos;omega
 |succ b ih=>
 intro t hsz hb
 have hsz':=Ty.size_eq t
 have hlen:=lsum_len Ty.size Ty.size_pos t.args
 refine M.F Tryz.func146 ?_
 repeat'(first|refine M.gw ?_|fail)
 refine AW.range t.args.length (fun m=>True)
  (fun m=>([(3,.i (1+((t.args.take m).map Ty.size).sum)),(7,.s .ty t.args),(8,.i t.args.length),(9,.i m)],⟨1,[(0,.var t.view)]⟩))
  (by omega) (fun m=>rfl) (fun m=>rfl) rfl trivial (M.W [some 0]) ?_ ?_
 ·intro m hm hP
  have hs1:=lsum_take Ty.size t.args m hm
  have hs2:=lsum_mem Ty.size (List.getElem_mem hm)
  have hs3:=lsum_take_le Ty.size t.args (m+1)
  have e:(1+((((t.args.take (m+1)).map Ty.size).sum:Nat):Int))=1+(((t.args.take m).map Ty.size).sum:Nat)+t.args[m].size:=by rw[hs1];omega
  repeat'(first|refine M.gw ?_|refine M.c2 (ih _ ?_ ?_) ?_|exact M.le|exact M.lt|fail)
  refine⟨rfl,trivial,?_⟩
  simp only[e]
  exact(M.W [some 0])
 ·intro hP
  repeat'(first|refine M.gw ?_|fail)
  simp[tupV,constV,hsz',V.wk,V.wks]
theorem checkTyR_c(t:Ty)(ht:t.size<1099511627776):PC E 116 [.agg t.view] (.i t.err):=by
 have h1:=shapeTy_c _ t (Nat.le_refl _) ht
 have h2:=sizeTy_c _ t (Nat.le_refl _) ht
 refine M.F Tryz.func116 ?_
 repeat'(first|refine M.gw ?_|refine M.c2 (h1) ?_|refine M.c2 (h2) ?_|refine M.cs ?_ ?_<;>intro h|fail)
 all_goals simp_all[tupV,V.wk,V.wks,constV,Ty.err]
 all_goals(first|omega|(split<;>first|omega|simp_all))
theorem zeroTy_c(t:Ty):PC E 117 [.agg t.view] (.bool t.isNo):=by
 refine M.F Tryz.func117 ?_
 repeat'(first|refine M.gw ?_|refine M.gs ?_ ?_<;>intro h|fail)
 all_goals simp_all[tupV,V.wk,V.wks,constV,Ty.isNo]
 rw[Bool.eq_iff_iff];simp
theorem args_c(k:Int):PC E 115 [.i k] (.i (argsI k)):=by
 refine M.F Tryz.func115 ?_
 repeat'(first|refine M.gw ?_|refine M.bl ?_|refine M.cs ?_ ?_<;>intro h|fail)
 all_goals
  simp only[beq_iff_eq,beq_eq_false_iff_ne,ne_eq] at*
  simp[tupV,V.wk,V.wks,constV,argsI, *]
theorem countTm_c:∀(b:Nat) (t:Tm),t.full≤b→b<1099511627776→PC E 66 [.agg t.view] (.i t.size):=by
 intro b
 induction b with
 |zero=>intro t h;have:=t.full_pos;omega
 |succ b ih=>
 intro t hsz hb
 have hsz':=Tm.full_eq t
 have hszz:=Tm.size_eq t
 have hle:=Tm.size_le_full t
 have hlen:=lsum_len Tm.full Tm.full_pos t.args
 refine M.F Tryz.func66 ?_
 repeat'(first|refine M.gw ?_|fail)
 refine AW.range t.args.length (fun m=>True)
  (fun m=>([(3,.i (1+((t.args.take m).map Tm.size).sum)),(7,.s .tm t.args),(8,.i t.args.length),(9,.i m)],⟨1,[(0,.var t.view)]⟩))
  (by omega) (fun m=>rfl) (fun m=>rfl) rfl trivial (M.W [some 0]) ?_ ?_
 ·intro m hm hP
  have hs1:=lsum_take Tm.size t.args m hm
  have hs2:=lsum_mem Tm.full (List.getElem_mem hm)
  have hs3:=lsum_take_le Tm.size t.args (m+1)
  have e:(1+((((t.args.take (m+1)).map Tm.size).sum:Nat):Int))=1+(((t.args.take m).map Tm.size).sum:Nat)+t.args[m].size:=by rw[hs1];omega
  repeat'(first|refine M.gw ?_|refine M.c2 (ih _ ?_ ?_) ?_|exact M.le|exact M.lt|fail)
  refine⟨rfl,trivial,?_⟩
  simp only[e]
  exact(M.W [some 0])
 ·intro hP
  repeat'(first|refine M.gw ?_|fail)
  simp[tupV,constV,hszz,V.wk,V.wks]
end Go.Ab
namespace Go.Ab
open Go Go.Proofs
set_option maxRecDepth 100000
set_option maxHeartbeats 4000000
set_option linter.all false
theorem argsI_eq(k:Int):argsI k=match arK k with|some n=>(n:Int)|none=> -1:=by
 simp only[argsI,arK];(repeat' split)<;>simp_all<;>omega
theorem Tm.head_eqR(t:Tm):t.head=(!((t.args.length:Int) !=argsI t.kind)&& !decide (t.index<0)&&(!(t.kind !=1)|| !(t.index !=0))&&(bif typedK t.kind then !(t.ty.err !=0) else !(!t.ty.isNo))):=by
 simp only[Tm.head,Ty.ok_err,argsI_eq]
 cases hk:arK t.kind with
 |none=>
  have:((t.args.length:Int) != -1)=true:=by simp
  simp[this]
 |some n=>
  have h1:(t.args.length==n)= !((t.args.length:Int) !=((n:Nat):Int)):=by rw[Bool.eq_iff_iff];simp;omega
  have h2:decide (0≤t.index)= !decide (t.index<0):=by rw[Bool.eq_iff_iff];simp
  simp only[h1,h2,bne]
  cases(t.index==0)<;>cases(t.kind==1)<;>simp
theorem shapeTm_c:∀(b:Nat) (t:Tm),t.full≤b→b<1099511627776→PC E 94 [.agg t.view] (.bool t.shape):=by
 intro b
 induction b with
 |zero=>intro t h;have:=t.full_pos;omega
 |succ b ih=>
 intro t hsz hb
 have hsz':=Tm.full_eq t
 have hlen:=lsum_len Tm.full Tm.full_pos t.args
 have hsh:=Tm.shape_eq t
 have h1:=args_c t.kind
 have h3:=zeroTy_c t.ty
 have h4:=checkTyR_c t.ty (by omega)
 refine M.F Tryz.func94 ?_
 repeat'(first|refine M.gw ?_|refine M.c2 (h1) ?_|refine M.c2 (h3) ?_|refine M.c2 (h4) ?_|refine M.gs ?_ ?_<;>intro h|refine M.bl ?_|refine M.cs ?_ ?_<;>intro h|fail)
 all_goals first
  |(have hd:t.head=false:=by rw[t.head_eqR];simp_all[typedK]
    have:t.shape=false:=by rw[hsh,hd,Bool.false_and]
    simp[this,tupV,constV,V.wk,V.wks];done)
  |(have hd:t.head=true:=by rw[t.head_eqR];simp_all[typedK]
    refine AW.range t.args.length (fun m=>∀j (hj:j<t.args.length),j<m→(t.args[j]).shape=true)
     (fun m=>([(1,.ptr 0 0),(42,.s .tm t.args),(43,.i t.args.length),(44,.i m)],⟨1,[(0,.var t.view)]⟩))
     (by omega) (fun m=>rfl) (fun m=>rfl) rfl (by intro j hj h;omega) (M.W [some 0]) ?_ ?_
    ·intro m hm hP
     have hs2:=lsum_mem Tm.full (List.getElem_mem hm)
     repeat'(first|refine M.gw ?_|refine M.c2 (ih _ ?_ ?_) ?_|refine M.cs ?_ ?_<;>intro h|exact M.le|exact M.lt|fail)
     ·have h1:(t.args[m]).shape=false:=by simpa using h
      have:t.shape=false:=by rw[hsh,all_not Tm.shape hm h1,Bool.and_false]
      simp[this,tupV,constV,V.wk,V.wks]
     ·have hh:(t.args[m]).shape=true:=by simpa using h
      exact⟨rfl,all_step (p:=fun t=>Tm.shape t=true) hm hP hh,(M.W [some 0])⟩
    ·intro hP
     have:t.shape=true:=by simp only[hsh,hd,all_of Tm.shape t.args fun j hj=>hP j hj hj];simp
     repeat'(first|refine M.gw ?_|fail)
     simp[this,tupV,constV,V.wk,V.wks])
theorem checkTmR_c(t:Tm)(ht:t.full<1099511627776):PC E 63 [.agg t.view] (.i t.err):=by
 have h1:=shapeTm_c _ t (Nat.le_refl _) ht
 have h2:=countTm_c _ t (Nat.le_refl _) ht
 refine M.F Tryz.func63 ?_
 repeat'(first|refine M.gw ?_|refine M.c2 (h1) ?_|refine M.c2 (h2) ?_|refine M.cs ?_ ?_<;>intro h|fail)
 all_goals simp_all[tupV,V.wk,V.wks,constV,Tm.err]
 all_goals(first|omega|(split<;>first|omega|simp_all))
def HT(n:Nat):Prop:=∀(d:Dk) (g:List Ty) (t:Ty) (k:Int),k=(n:Int)-2→d.ok→smalls g→t.small→1≤n→(n=1→t.size=1)→g.length+3*n≤10000→
 AC E 11 [.ptr 0 0,.s .ty g,.agg t.view,.i k] ⟨1,[(0,.var d.cells)]⟩ (.agg (Dk.tm n d g t).1.view) ⟨1,[(0,.var (Dk.tm n d g t).2.cells)]⟩
theorem tm_full{n:Nat}(hn:n≤7)(d:Dk){g:List Ty}{t:Ty}(hg:smalls g)(ht:t.small)(h1:1≤n)(h2:n=1→t.size=1):(Dk.tm n d g t).1.full≤50000:=by
 have:=(Dk.tm_mk n d g t hg ht h1 h2).full hg ht
 have:3^n≤3^7:=Nat.pow_le_pow_right (by omega) hn
 omega
abbrev F14:AF→AF:=id
theorem fin_c(n:Nat)(H:HT n)(hn:n≤7)(depth:Int)(hdep:depth=(n:Int)-1)(d:Dk)(hd:d.ok)(g:List Ty)(t:Ty)(hg:smalls g)(ht:t.small)(h0:n=0→t.size=1)(hl:g.length+3*(n+1)≤10000):
 AW E Tryz.f11.ntmps 1 (partAt [1,1,1,1] (bodyOf Tryz.f11)) [(0,.ptr 0 0),(1,.s .ty g),(3,.i depth),(6,.ptr 1 0),(8,.ptr 2 0)]
  ⟨3,[(0,.var d.cells),(1,.var t.view),(2,.var [.i 0,.i 0,.i 0,.slice .nil (.t .ty []),.slice .nil (.t .tm [])])]⟩
  (retQ E 1 Tryz.f11.results.toList (.agg (d.fin (Dk.tm n) (decide (2≤n)) g t).1.view) ⟨1,[(0,.var (d.fin (Dk.tm n) (decide (2≤n)) g t).2.cells)]⟩):=by
 have hF:1≤n→∀d,∀t,t.small→(n=1→t.size=1)→(Dk.tm n d g t).1.full≤50000:=fun h1 d t ht h2=>tm_full hn d hg ht h1 h2
 have hok:∀d g t,d.ok→(Dk.tm n d g t).2.ok:=fun d g t h=>Dk.tm_ok n d g t h
 rcases small_cases ht with rfl|rfl|rfl|⟨a,b,ha,hb,h1,h2,rfl|rfl⟩
 ·show AW _ _ _ (Code.seq _ _) _ _ _
  by_cases hp:2≤n
  ·have hp':depth>0:=by omega
   have e:d.fin (Dk.tm n) (decide (2≤n)) g natT=if(d.next 5).1=0 then(sT (Dk.tm n (d.next 5).2 g natT).1,(Dk.tm n (d.next 5).2 g natT).2)
    else if(d.next 5).1=1 then(apT (apT plusT (Dk.tm n (d.next 5).2 g natT).1) (Dk.tm n (Dk.tm n (d.next 5).2 g natT).2 g natT).1,(Dk.tm n (Dk.tm n (d.next 5).2 g natT).2 g natT).2)
    else if(d.next 5).1=2 then(apT (apT subT (Dk.tm n (d.next 5).2 g natT).1) (Dk.tm n (Dk.tm n (d.next 5).2 g natT).2 g natT).1,(Dk.tm n (Dk.tm n (d.next 5).2 g natT).2 g natT).2)
    else(numOf ((d.next 5).2.next 3).1,((d.next 5).2.next 3).2):=by simp[Dk.fin,natT,hp]
   have hd5:=Dk.next_ok hd 5
   have hx5:=next_c d 5 hd (by omega)
   have hx3:=next_c (d.next 5).2 3 hd5 (by omega)
   have a1:=H (d.next 5).2 g natT (depth-1) (by omega) hd5 hg small_nat (by omega) (by omega) (by omega)
   have a2:=H (Dk.tm n (d.next 5).2 g natT).2 g natT (depth-1) (by omega) (hok _ _ _ hd5) hg small_nat (by omega) (by omega) (by omega)
   have f1:=hF (by omega) (d.next 5).2 natT small_nat (by omega)
   have f2:=hF (by omega) (Dk.tm n (d.next 5).2 g natT).2 natT small_nat (by omega)
   have hs:=n_c 5 [(Dk.tm n (d.next 5).2 g natT).1] (by simp;omega)
   have p1:plusT.full≤18:=by decide
   have p2:subT.full≤36:=by decide
   have ap:=appMake_c plusT [(Dk.tm n (d.next 5).2 g natT).1,(Dk.tm n (Dk.tm n (d.next 5).2 g natT).2 g natT).1] (by simp;omega)
   have asb:=appMake_c subT [(Dk.tm n (d.next 5).2 g natT).1,(Dk.tm n (Dk.tm n (d.next 5).2 g natT).2 g natT).1] (by simp;omega)
   have hnum:=num_c ((d.next 5).2.next 3).1
   repeat'(first|refine M.gw ?_|refine M.cb (hx5) [0] 0 ?_|refine M.cb (hx3) [0] 0 ?_|refine M.cb (a1) [0] 0 ?_|refine M.cb (a2) [0] 0 ?_|refine M.c2 (plus_c) ?_|refine M.c2 (sub_c) ?_|refine M.c2 (ap) ?_|refine M.c2 (asb) ?_|refine M.c2 (hnum) ?_|refine M.c2 (hs) ?_|refine M.bl ?_|refine M.cs ?_ ?_<;>intro h|fail)
   all_goals first
    |exact absurd hp' (by simpa using h)
    |skip
   ·have e:=e.trans (if_pos (by simpa using h))
    (exact M.n2 [some 0] (h6:=(by(repeat'(first|exact trivial|refine And.intro ?_ ?_|refine⟨_,U,_,U,_,U,?_⟩|exact VLe.of_eq (by simp[Sto.upd,e,sT])));done)) (h8:=(by simp[tupV,V.wk,V.wks,constV,Ty.view,Tm.view,e,sT])))
   ·rename_i h0
    have e:=e.trans ((if_neg (by simpa using h0)).trans (if_pos (by simpa using h)))
    (exact M.n2 [some 0] (h6:=(by(repeat'(first|exact trivial|refine And.intro ?_ ?_|refine⟨_,U,_,U,_,U,?_⟩|exact VLe.of_eq (by simp[Sto.upd,e,apT])));done)) (h8:=(by simp[tupV,V.wk,V.wks,constV,Ty.view,Tm.view,e,apT])))
   ·rename_i h0 h1
    have e:=e.trans ((if_neg (by simpa using h0)).trans ((if_neg (by simpa using h1)).trans (if_pos (by simpa using h))))
    (exact M.n2 [some 0] (h6:=(by(repeat'(first|exact trivial|refine And.intro ?_ ?_|refine⟨_,U,_,U,_,U,?_⟩|exact VLe.of_eq (by simp[Sto.upd,e,apT])));done)) (h8:=(by simp[tupV,V.wk,V.wks,constV,Ty.view,Tm.view,e,apT])))
   ·rename_i h0 h1
    have e:=e.trans ((if_neg (by simpa using h0)).trans ((if_neg (by simpa using h1)).trans (if_neg (by simpa using h))))
    (exact M.n2 [some 0] (h6:=(by(repeat'(first|exact trivial|refine And.intro ?_ ?_|refine⟨_,U,_,U,_,U,?_⟩|exact VLe.of_eq (by simp[Sto.upd,e])));done)) (h8:=(by simp[tupV,V.wk,V.wks,constV,Ty.view,Tm.view,e])))
  ·have hp':¬depth>0:=by omega
   have e:d.fin (Dk.tm n) (decide (2≤n)) g natT=(numOf (d.next 3).1,(d.next 3).2):=by simp[Dk.fin,natT,hp]
   have hx3:=next_c d 3 hd (by omega)
   have hnum:=num_c (d.next 3).1
   repeat'(first|refine M.gw ?_|refine M.cb (hx3) [0] 0 ?_|refine M.c2 (hnum) ?_|refine M.bl ?_|refine M.cs ?_ ?_<;>intro h|fail)
   all_goals first
    |exact absurd hp' (by simpa using h)
    |skip
   (exact M.n2 [some 0] (h6:=(by(repeat'(first|exact trivial|refine And.intro ?_ ?_|refine⟨_,U,_,U,_,U,?_⟩|exact VLe.of_eq (by simp[Sto.upd,e])));done)) (h8:=(by simp[tupV,V.wk,V.wks,constV,Ty.view,Tm.view,e])))
 ·show AW _ _ _ (Code.seq _ _) _ _ _
  have hN:=n_c 7 [] (by simp)
  by_cases hp:2≤n
  ·have hp':depth>0:=by omega
   have e:d.fin (Dk.tm n) (decide (2≤n)) g listT=if(d.next 2).1=0 then(nT 8 [(Dk.tm n (d.next 2).2 g natT).1,(Dk.tm n (Dk.tm n (d.next 2).2 g natT).2 g listT).1],(Dk.tm n (Dk.tm n (d.next 2).2 g natT).2 g listT).2) else(nT 7 [],(d.next 2).2):=by simp[Dk.fin,listT,hp]
   have hd2:=Dk.next_ok hd 2
   have hx2:=next_c d 2 hd (by omega)
   have a1:=H (d.next 2).2 g natT (depth-1) (by omega) hd2 hg small_nat (by omega) (by omega) (by omega)
   have a2:=H (Dk.tm n (d.next 2).2 g natT).2 g listT (depth-1) (by omega) (hok _ _ _ hd2) hg small_list (by omega) (by omega) (by omega)
   have f1:=hF (by omega) (d.next 2).2 natT small_nat (by omega)
   have f2:=hF (by omega) (Dk.tm n (d.next 2).2 g natT).2 listT small_list (by omega)
   have hs:=n_c 8 [(Dk.tm n (d.next 2).2 g natT).1,(Dk.tm n (Dk.tm n (d.next 2).2 g natT).2 g listT).1] (by simp;omega)
   repeat'(first|refine M.gw ?_|refine M.cb (hx2) [0] 0 ?_|refine M.cb (a1) [0] 0 ?_|refine M.cb (a2) [0] 0 ?_|refine M.c2 (nat_c) ?_|refine M.c2 (hs) ?_|refine M.c2 (hN) ?_|refine M.gs ?_ ?_<;>intro h|refine M.bl ?_|refine M.cs ?_ ?_<;>intro h|fail)
   all_goals first
    |exact absurd hp' (by simpa using h)
    |skip
   ·have e:=e.trans (if_pos (by simpa using h))
    (exact M.n2 [some 0] (h6:=(by(repeat'(first|exact trivial|refine And.intro ?_ ?_|refine⟨_,U,_,U,_,U,?_⟩|exact VLe.of_eq (by simp[Sto.upd,e,nT])));done)) (h8:=(by simp[tupV,V.wk,V.wks,constV,Ty.view,Tm.view,e,nT])))
   ·have e:=e.trans (if_neg (by simpa using h))
    (exact M.n2 [some 0] (h6:=(by(repeat'(first|exact trivial|refine And.intro ?_ ?_|refine⟨_,U,_,U,_,U,?_⟩|exact VLe.of_eq (by simp[Sto.upd,e,nT])));done)) (h8:=(by simp[tupV,V.wk,V.wks,constV,Ty.view,Tm.view,e,nT])))
  ·have hp':¬depth>0:=by omega
   have e:d.fin (Dk.tm n) (decide (2≤n)) g listT=(nT 7 [],d):=by simp[Dk.fin,listT,hp]
   repeat'(first|refine M.gw ?_|refine M.c2 (hN) ?_|refine M.gs ?_ ?_<;>intro h|refine M.bl ?_|fail)
   all_goals first
    |exact absurd hp' (by simpa using h)
    |skip
   (exact M.n2 [some 0] (h6:=(by(repeat'(first|exact trivial|refine And.intro ?_ ?_|refine⟨_,U,_,U,_,U,?_⟩|exact VLe.of_eq (by simp[Sto.upd,e,nT])));done)) (h8:=(by simp[tupV,V.wk,V.wks,constV,Ty.view,Tm.view,e,nT])))
 ·show AW _ _ _ (Code.seq _ _) _ _ _
  have hN:=n_c 13 [] (by simp)
  have e:d.fin (Dk.tm n) (decide (2≤n)) g unitT=(nT 13 [],d):=by simp[Dk.fin,unitT]
  repeat'(first|refine M.gw ?_|refine M.c2 (hN) ?_|refine M.bl ?_|fail)
  (exact M.n2 [some 0] (h8:=(by simp[tupV,V.wk,V.wks,constV,Ty.view,Tm.view,e,nT])))
 ·have hn0:n≠0:=fun h=>by have:=h0 h;rw[two_size] at this;omega
  have sa:=small_one ha h1
  have sb:=small_one hb h2
  have e:d.fin (Dk.tm n) (decide (2≤n)) g (twoT a b)=(nT 10 [(Dk.tm n d g a).1,(Dk.tm n (Dk.tm n d g a).2 g b).1],(Dk.tm n (Dk.tm n d g a).2 g b).2):=by simp[Dk.fin,twoT]
  have a1:=H d g a (depth-1) (by omega) hd hg sa (by omega) (fun _=>h1) (by omega)
  have a2:=H (Dk.tm n d g a).2 g b (depth-1) (by omega) (hok _ _ _ hd) hg sb (by omega) (fun _=>h2) (by omega)
  have f1:=hF (by omega) d a sa (fun _=>h1)
  have f2:=hF (by omega) (Dk.tm n d g a).2 b sb (fun _=>h2)
  have hs:=n_c 10 [(Dk.tm n d g a).1,(Dk.tm n (Dk.tm n d g a).2 g b).1] (by simp;omega)
  have l0:0<(twoT a b).args.length:=by simp[twoT]
  have l1:1<(twoT a b).args.length:=by simp[twoT]
  show AW _ _ _ (Code.seq _ _) _ _ _
  repeat'(first|refine M.gw ?_|refine M.cb (a1) [0] 0 ?_|refine M.cb (a2) [0] 0 ?_|refine M.c2 (hs) ?_|refine M.bl ?_|fail)
  (exact M.n2 [some 0] (h8:=(by simp[tupV,V.wk,V.wks,constV,Ty.view,Tm.view,e,nT])))
 ·have hn0:n≠0:=fun h=>by have:=h0 h;rw[fun_size] at this;omega
  have sa:=small_one ha h1
  have sb:=small_one hb h2
  have hga:=smalls_app hg (smalls_cons sa smalls_nil)
  have e:d.fin (Dk.tm n) (decide (2≤n)) g (funT a b)=(lmT a (Dk.tm n d (g++[a]) b).1,(Dk.tm n d (g++[a]) b).2):=by simp[Dk.fin,funT]
  have a1:=H d (g++[a]) b (depth-1) (by omega) hd hga sb (by omega) (fun _=>h2) (by simp;omega)
  have f1:=tm_full hn d hga sb (by omega) (fun _=>h2)
  have hlo:=longer_c g [a] (by simp;omega)
  have hs:=t_c 2 a [(Dk.tm n d (g++[a]) b).1] (by simp;omega) (by omega)
  have l0:0<(funT a b).args.length:=by simp[funT]
  have l1:1<(funT a b).args.length:=by simp[funT]
  show AW _ _ _ (Code.seq _ _) _ _ _
  repeat'(first|refine M.gw ?_|refine M.cb (a1) [0] 0 ?_|refine M.c2 (hlo) ?_|refine M.c2 (hs) ?_|refine M.bl ?_|fail)
  (exact M.n2 [some 0] (h8:=(by simp[tupV,V.wk,V.wks,constV,Ty.view,Tm.view,e,lmT])))
end Go.Ab
