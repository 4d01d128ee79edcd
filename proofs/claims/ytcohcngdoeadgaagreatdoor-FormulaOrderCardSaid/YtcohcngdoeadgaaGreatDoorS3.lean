/- A part of the proofs of this seat's statements: S4, S5, S8, S9, S10, S11, S12, S13, S14, S16, S17, S19, S20. It has no conditions of its own. -/
import Derived.Test.YtcohcngdoeadgaaGreatDoorA2
import Derived.Test.YtcohcngdoeadgaaGreatDoorS2
import Derived.Test.YtcohcngdoeadgaaGreatDoorD1
namespace Go.Ab
open Go Go.Proofs
set_option maxRecDepth 100000
set_option linter.all false
theorem sameTy_c:∀(n:Nat) (x y:Ty),x.size≤n→n<1099511627776→PC E 42 [.agg x.view,.agg y.view] (.bool (decide (x=y))):=by
 intro n
 induction n with
 |zero=>intro x y h;have:=x.size_pos;omega
 |succ n ih=>
 intro x y hsz hb
 have hsz':=Ty.size_eq x
 have hlen:=lsum_len Ty.size Ty.size_pos x.args
 have heq:=Ty.eq_iff x y
 refine M.F Tryz.func42 ?_
 repeat'(first|refine M.gw ?_|refine M.gs ?_ ?_<;>intro h|refine M.cs ?_ ?_<;>intro h|fail)
 ·have:¬x=y:=by rw[heq];simp_all
  simp[this,tupV,constV,V.wk,V.wks]
 ·have:¬x=y:=by rintro rfl;simp at h
  simp[this,tupV,constV,V.wk,V.wks]
 ·rename_i hk
  simp at h hk
  have hl:x.args.length=y.args.length:=by omega
  refine AW.range x.args.length (fun m=>∀j (hj:j<x.args.length),j<m→x.args[j]=y.args[j]'(by omega))
   (fun m=>([(2,.ptr 0 0),(3,.ptr 1 0),(22,.i x.args.length),(23,.i m)],⟨2,[(0,.var x.view),(1,.var y.view)]⟩))
   (by omega) (fun m=>rfl) (fun m=>rfl) rfl (by intro j hj h;omega) (M.W [some 0,some 1]) ?_ ?_
  ·intro m hm hP
   have hm':m<y.args.length:=by omega
   have hs2:=lsum_mem Ty.size (List.getElem_mem hm)
   repeat'(first|refine M.gw ?_|refine M.c2 (ih _ _ ?_ ?_) ?_|refine M.cs ?_ ?_<;>intro h|exact M.le|exact M.lt|fail)
   ·have:¬x=y:=by rw[heq];exact fun hc=>list_ne hm hm' (by simpa using h) hc.2
    simp[this,tupV,constV,V.wk,V.wks]
   ·exact ⟨rfl,step2 hl hm hP (by simpa using h),(M.W [some 0,some 1])⟩
  ·intro hP
   have:x=y:=heq.2 ⟨hk,list_eq hl hP⟩
   repeat'(first|refine M.gw ?_|fail)
   simp[this,tupV,constV,V.wk,V.wks]
theorem sameTy2_c:∀(n:Nat) (x y:Ty),x.size≤n→n<1099511627776→PC E 65 [.agg x.view,.agg y.view] (.bool (decide (x=y))):=by
 intro n
 induction n with
 |zero=>intro x y h;have:=x.size_pos;omega
 |succ n ih=>
 intro x y hsz hb
 have hsz':=Ty.size_eq x
 have hlen:=lsum_len Ty.size Ty.size_pos x.args
 have heq:=Ty.eq_iff x y
 refine M.F Tryz.func65 ?_
 repeat'(first|refine M.gw ?_|refine M.gs ?_ ?_<;>intro h|refine M.cs ?_ ?_<;>intro h|fail)
 ·have:¬x=y:=by rw[heq];simp_all
  simp[this,tupV,constV,V.wk,V.wks]
 ·have:¬x=y:=by rintro rfl;simp at h
  simp[this,tupV,constV,V.wk,V.wks]
 ·rename_i hk
  simp at h hk
  have hl:x.args.length=y.args.length:=by omega
  refine AW.range x.args.length (fun m=>∀j (hj:j<x.args.length),j<m→x.args[j]=y.args[j]'(by omega))
   (fun m=>([(2,.ptr 0 0),(3,.ptr 1 0),(22,.s .ty x.args),(23,.i x.args.length),(24,.i m)],⟨2,[(0,.var x.view),(1,.var y.view)]⟩))
   (by omega) (fun m=>rfl) (fun m=>rfl) rfl (by intro j hj h;omega) (M.W [some 0,some 1]) ?_ ?_
  ·intro m hm hP
   have hm':m<y.args.length:=by omega
   have hs2:=lsum_mem Ty.size (List.getElem_mem hm)
   repeat'(first|refine M.gw ?_|refine M.c2 (ih _ _ ?_ ?_) ?_|refine M.cs ?_ ?_<;>intro h|exact M.le|exact M.lt|fail)
   ·have:¬x=y:=by rw[heq];exact fun hc=>list_ne hm hm' (by simpa using h) hc.2
    simp[this,tupV,constV,V.wk,V.wks]
   ·exact ⟨rfl,step2 hl hm hP (by simpa using h),(M.W [some 0,some 1])⟩
  ·intro hP
   have:x=y:=heq.2 ⟨hk,list_eq hl hP⟩
   repeat'(first|refine M.gw ?_|fail)
   simp[this,tupV,constV,V.wk,V.wks]
theorem sameTm_c:∀(n:Nat) (x y:Tm),x.full≤n→n<1099511627776→PC E 75 [.agg x.view,.agg y.view] (.bool (decide (x=y))):=by
 intro n
 induction n with
 |zero=>intro x y h;have:=x.full_pos;omega
 |succ n ih=>
 intro x y hsz hb
 have hsz':=Tm.full_eq x
 have hlen:=lsum_len Tm.full Tm.full_pos x.args
 have heq:=Tm.eq_iff x y
 have hty:=sameTy_c _ x.ty y.ty (Nat.le_refl _) (by omega)
 refine M.F Tryz.func75 ?_
 repeat'(first|refine M.gw ?_|refine M.c2 (hty) ?_|refine M.gs ?_ ?_<;>intro h|refine M.cs ?_ ?_<;>intro h|fail)
 ·have:¬x=y:=by rw[heq];simp_all
  simp[this,tupV,constV,V.wk,V.wks]
 ·have:¬x=y:=by rw[heq];simp_all
  simp[this,tupV,constV,V.wk,V.wks]
 ·have:¬x=y:=by rw[heq];simp_all
  simp[this,tupV,constV,V.wk,V.wks]
 ·have:¬x=y:=by rintro rfl;simp at h
  simp[this,tupV,constV,V.wk,V.wks]
 ·rename_i h1 h2 h3
  simp at h h1 h2 h3
  have hl:x.args.length=y.args.length:=by omega
  refine AW.range x.args.length (fun m=>∀j (hj:j<x.args.length),j<m→x.args[j]=y.args[j]'(by omega))
   (fun m=>([(2,.ptr 0 0),(3,.ptr 1 0),(37,.i x.args.length),(38,.i m)],⟨2,[(0,.var x.view),(1,.var y.view)]⟩))
   (by omega) (fun m=>rfl) (fun m=>rfl) rfl (by intro j hj h;omega) (M.W [some 0,some 1]) ?_ ?_
  ·intro m hm hP
   have hm':m<y.args.length:=by omega
   have hs2:=lsum_mem Tm.full (List.getElem_mem hm)
   repeat'(first|refine M.gw ?_|refine M.c2 (ih _ _ ?_ ?_) ?_|refine M.cs ?_ ?_<;>intro h|exact M.le|exact M.lt|fail)
   ·have:¬x=y:=by rw[heq];exact fun hc=>list_ne hm hm' (by simpa using h) hc.2.2.2
    simp[this,tupV,constV,V.wk,V.wks]
   ·exact ⟨rfl,step2 hl hm hP (by simpa using h),(M.W [some 0,some 1])⟩
  ·intro hP
   have:x=y:=heq.2 ⟨h1,h2,h3,list_eq hl hP⟩
   repeat'(first|refine M.gw ?_|fail)
   simp[this,tupV,constV,V.wk,V.wks]
theorem sameTm2_c:∀(n:Nat) (x y:Tm),x.full≤n→n<1099511627776→PC E 104 [.agg x.view,.agg y.view] (.bool (decide (x=y))):=by
 intro n
 induction n with
 |zero=>intro x y h;have:=x.full_pos;omega
 |succ n ih=>
 intro x y hsz hb
 have hsz':=Tm.full_eq x
 have hlen:=lsum_len Tm.full Tm.full_pos x.args
 have heq:=Tm.eq_iff x y
 have hty:=sameTy2_c _ x.ty y.ty (Nat.le_refl _) (by omega)
 refine M.F Tryz.func104 ?_
 repeat'(first|refine M.gw ?_|refine M.c2 (hty) ?_|refine M.gs ?_ ?_<;>intro h|refine M.cs ?_ ?_<;>intro h|fail)
 ·have:¬x=y:=by rw[heq];simp_all
  simp[this,tupV,constV,V.wk,V.wks]
 ·have:¬x=y:=by rw[heq];simp_all
  simp[this,tupV,constV,V.wk,V.wks]
 ·have:¬x=y:=by rw[heq];simp_all
  simp[this,tupV,constV,V.wk,V.wks]
 ·have:¬x=y:=by rintro rfl;simp at h
  simp[this,tupV,constV,V.wk,V.wks]
 ·rename_i h1 h2 h3
  simp at h h1 h2 h3
  have hl:x.args.length=y.args.length:=by omega
  refine AW.range x.args.length (fun m=>∀j (hj:j<x.args.length),j<m→x.args[j]=y.args[j]'(by omega))
   (fun m=>([(2,.ptr 0 0),(3,.ptr 1 0),(37,.s .tm x.args),(38,.i x.args.length),(39,.i m)],⟨2,[(0,.var x.view),(1,.var y.view)]⟩))
   (by omega) (fun m=>rfl) (fun m=>rfl) rfl (by intro j hj h;omega) (M.W [some 0,some 1]) ?_ ?_
  ·intro m hm hP
   have hm':m<y.args.length:=by omega
   have hs2:=lsum_mem Tm.full (List.getElem_mem hm)
   repeat'(first|refine M.gw ?_|refine M.c2 (ih _ _ ?_ ?_) ?_|refine M.cs ?_ ?_<;>intro h|exact M.le|exact M.lt|fail)
   ·have:¬x=y:=by rw[heq];exact fun hc=>list_ne hm hm' (by simpa using h) hc.2.2.2
    simp[this,tupV,constV,V.wk,V.wks]
   ·exact ⟨rfl,step2 hl hm hP (by simpa using h),(M.W [some 0,some 1])⟩
  ·intro hP
   have:x=y:=heq.2 ⟨h1,h2,h3,list_eq hl hP⟩
   repeat'(first|refine M.gw ?_|fail)
   simp[this,tupV,constV,V.wk,V.wks]
theorem sameTm3_c(x y:Tm)(h:x.full<1099511627776):PC E 88 [.agg x.view,.agg y.view] (.bool (decide (x=y))):=by
 have h1:=sameTm2_c _ x y (Nat.le_refl _) h
 refine M.F Tryz.func88 ?_
 repeat'(first|refine M.gw ?_|refine M.c2 (h1) ?_|fail)
 simp[tupV,V.wk,V.wks,constV,Ty.view,Tm.view]
def nearF(b:Bool)(l:List (Int×Int)):Bool:=b&&l.all fun p=>decide (p.1≤536870912)
theorem nearF_append(b:Bool)(l l':List (Int×Int)):nearF (nearF b l) l'=nearF b (l++l'):=by simp[nearF,Bool.and_assoc]
theorem nearF_nil(b:Bool):nearF b []=b:=by simp[nearF]
theorem nearCb(b:Bool)(i bl:Int):AC E 129 [.i i,.i bl,.ptr 0 0] ⟨1,[(0,.var [.bool b])]⟩ (.tup []) ⟨1,[(0,.var [.bool (nearF b [(i,bl)])])]⟩:=by
 refine M.F Tryz.func129 ?_
 repeat'(first|refine M.gw ?_|refine M.gs ?_ ?_<;>intro h|fail)
 ·(exact M.n2 [some 0] (h6:=(by(repeat'(first|exact trivial|refine And.intro ?_ ?_|refine⟨_,U,_,U,_,U,?_⟩|exact VLe.of_eq (by simp[Sto.upd,nearF,h])));done)) (h8:=(by simp[tupV,V.wk,V.wks,constV,Ty.view,Tm.view,nearF,h])))
 ·(exact M.n2 [some 0] (h6:=(by(repeat'(first|exact trivial|refine And.intro ?_ ?_|refine⟨_,U,_,U,_,U,?_⟩|exact VLe.of_eq (by simp[Sto.upd,nearF,h])));done)) (h8:=(by simp[tupV,V.wk,V.wks,constV,Ty.view,Tm.view,nearF,h])))
theorem nearEach1:∀(n:Nat) (t:Tm) (b:Bool) (bl:Int),t.full≤n→n<1099511627776→0≤bl→bl+n<1099511627776→AC E 71 [.agg t.view,.i bl,.ptr 0 0,.ptr 1 0] ⟨3,[(0,.var [.fn (.func 129) [] [.ptr 2 0]]),(1,.var [.fn (.func 71) [] [.ptr 0 0,.ptr 1 0]]),(2,.var [.bool b])]⟩ (.tup [])
 ⟨3,[(0,.var [.fn (.func 129) [] [.ptr 2 0]]),(1,.var [.fn (.func 71) [] [.ptr 0 0,.ptr 1 0]]),(2,.var [.bool (nearF b (t.vars bl))])]⟩:=by
 intro n
 induction n with
 |zero=>intro t b bl h;have:=t.full_pos;omega
 |succ n ih=>
 intro t b bl hsz hb hbl hbn
 have hsz':=Tm.full_eq t
 have hlen:=lsum_len Tm.full Tm.full_pos t.args
 have hv:=Tm.vars_eq bl t
 refine M.F Tryz.func71 ?_
 repeat'(first|refine M.gw ?_|refine M.cv (nearCb _ _ _) [2] 0 ?_|refine M.cs ?_ ?_<;>intro h|fail)
 all_goals
  have hup:up t.kind bl≤bl+1:=by simp only[up];split<;>omega
  have hup0:0≤up t.kind bl:=by simp only[up];split<;>omega
  refine AW.range t.args.length (fun m=>True)
   (fun m=>([(1,.i (up t.kind bl)),(3,.ptr 1 0),(22,.s .tm t.args),(23,.i t.args.length),(24,.i m)],⟨4,[(0,.var [.fn (.func 129) [] [.ptr 2 0]]),(1,.var [.fn (.func 71) [] [.ptr 0 0,.ptr 1 0]]),(2,.var [.bool (nearF b ((if t.kind=1 then [(t.index,bl)] else [])++(t.args.take m).flatMap (Tm.vars (up t.kind bl))))]),(3,.var t.view)]⟩))
   (by omega) (fun m=>rfl) (fun m=>rfl) rfl trivial ?_ ?_ ?_
  ·simp_all only[beq_iff_eq,beq_eq_false_iff_ne,ne_eq]
   exact(M.W [some 0,some 1,some 2,some 3] (hf:=(by(repeat'(first|exact trivial|refine And.intro ?_ ?_|refine⟨_,U,_,U,?_⟩|exact VLe.refl _|exact VLe.of_eq (by simp[Sto.upd,up, *,nearF_nil])));done)) (he:=(by(repeat'(first|exact trivial|refine And.intro ?_ ?_|refine⟨_,U,_,U,_,U,?_⟩|exact VLe.refl _|exact VLe.of_eq (by simp[Sto.upd,up, *,nearF_nil])));done)))
  ·intro m hm hP
   have hs2:=lsum_mem Tm.full (List.getElem_mem hm)
   have hc:=ih t.args[m] (nearF b ((if t.kind=1 then [(t.index,bl)] else [])++(t.args.take m).flatMap (Tm.vars (up t.kind bl)))) (up t.kind bl) (by omega) (by omega) hup0 (by omega)
   repeat'(first|refine M.gw ?_|refine M.cv (hc) [0,1,2] 0 ?_|fail)
   refine⟨rfl,trivial,?_⟩
   exact(M.W [some 0,some 1,some 2,some 3] (he:=(by(repeat'(first|exact trivial|refine And.intro ?_ ?_|refine⟨_,U,_,U,_,U,?_⟩|exact VLe.refl _|exact VLe.of_eq (by simp[Sto.upd,nearF_append,flat_take _ _ _ hm])));done)))
  ·intro hP
   skip
   (exact M.n2 [some 0,some 1,some 2] (h6:=(by(repeat'(first|exact trivial|refine And.intro ?_ ?_|refine⟨_,U,_,U,_,U,?_⟩|exact VLe.refl _|exact VLe.of_eq (by simp[Sto.upd,hv])));done)) (h8:=(by simp[tupV,V.wk,V.wks,constV,Ty.view,Tm.view,hv])))
theorem nearEach(t:Tm)(b:Bool)(ht:t.full<1099511627776):AC E 38 [.agg t.view,.fn (.func 129) [] [.ptr 0 0]] ⟨1,[(0,.var [.bool b])]⟩ (.tup []) ⟨1,[(0,.var [.bool (nearF b (t.vars 0))])]⟩:=by
 have hc:=nearEach1 _ t b 0 (Nat.le_refl _) (by omega) (by omega) (by omega)
 refine M.F Tryz.func38 ?_
 repeat'(first|refine M.gw ?_|refine M.cv (hc) [2,3,0] 0 ?_|fail)
 (exact M.n2 [some 0] (h8:=(by simp[tupV,V.wk,V.wks,constV,Ty.view,Tm.view,nearF])))
theorem near_c(t:Tm)(ht:t.full<1099511627776):PC E 105 [.agg t.view] (.bool t.near):=by
 have hc:=nearEach t true ht
 refine M.F Tryz.func105 ?_
 repeat'(first|refine M.gw ?_|refine M.cb (hc) [1] 0 ?_|fail)
 simp[tupV,V.wk,V.wks,nearF,Tm.near]
end Go.Ab
namespace Go.Ab
open Go Go.Proofs
set_option maxRecDepth 100000
set_option maxHeartbeats 4000000
set_option linter.all false
theorem mod_c(n k:Int)(hk:0<k∧k<1099511627776):PC E 35 [.i n,.i k] (.i (modI n k)):=by
 have hb1:=Int.tmod_lt_of_pos n hk.1
 have hb2:=tmod_lo n k hk.1
 refine M.F Tryz.func35 ?_
 repeat'(first|refine M.gw ?_|fail)
 rfl
theorem next_c(d:Dk)(n:Int)(hd:d.ok)(hn:n<1099511627776):AC E 15 [.ptr 0 0,.i n] ⟨1,[(0,.var d.cells)]⟩ (.i (d.next n).1) ⟨1,[(0,.var (d.next n).2.cells)]⟩:=by
 obtain⟨hd1,hd2⟩:=hd
 have hm:¬n<1→∀x,PC E 35 [.i x,.i n] (.i (modI x n)):=fun h x=>mod_c x n ⟨by omega,hn⟩
 refine M.F Tryz.func15 ?_
 repeat'(first|refine M.gw ?_|refine M.c2 (hm (by simp_all) _) ?_|refine M.gs ?_ ?_<;>intro h|refine M.cs ?_ ?_<;>intro h|fail)
 ·have h':n<1:=by simpa using h
  have e:d.next n=(0,d):=dif_pos (.inl h')
  (exact M.n2 [some 0] (h6:=(by(repeat'(first|exact trivial|refine And.intro ?_ ?_|refine⟨_,U,_,U,_,U,?_⟩|exact VLe.of_eq (by simp[Sto.upd,e,Dk.cells])));done)) (h8:=(by simp[tupV,V.wk,V.wks,constV,Ty.view,Tm.view,e,Dk.cells])))
 ·have h':d.l.length≤d.at_:=by simp at h;omega
  have e:d.next n=(0,d):=dif_pos (.inr h')
  (exact M.n2 [some 0] (h6:=(by(repeat'(first|exact trivial|refine And.intro ?_ ?_|refine⟨_,U,_,U,_,U,?_⟩|exact VLe.of_eq (by simp[Sto.upd,e,Dk.cells])));done)) (h8:=(by simp[tupV,V.wk,V.wks,constV,Ty.view,Tm.view,e,Dk.cells])))
 ·rename_i h0
  have h':¬(n<1∨d.l.length≤d.at_):=by simp at h h0;omega
  have e:d.next n=(modI (d.l[d.at_]'(by omega)) n,⟨d.l,d.at_+1⟩):=dif_neg h'
  (exact M.n2 [some 0] (h6:=(by(repeat'(first|exact trivial|refine And.intro ?_ ?_|refine⟨_,U,_,U,_,U,?_⟩|exact VLe.of_eq (by simp[Sto.upd,e,Dk.cells])));done)) (h8:=(by simp[tupV,V.wk,V.wks,constV,Ty.view,Tm.view,e,Dk.cells])))
theorem few_c(l:List Int):PC E 6 [.s .int l] (.bool (decide (l.length≤500))):=by
 refine M.F Tryz.func6 ?_
 repeat'(first|refine M.gw ?_|fail)
 simp[tupV,V.wk,V.wks]
 omega
theorem new_c(l:List Int):AC E 8 [.s .int l] ⟨0,[]⟩ (.ptr 0 0) ⟨1,[(0,.var (Dk.mk l 0).cells)]⟩:=by
 refine M.F Tryz.func8 ?_
 repeat'(first|refine M.gw ?_|fail)
 (exact M.n2 [some 0] (h8:=(by simp[tupV,V.wk,V.wks,constV,Ty.view,Tm.view,Dk.cells])))
end Go.Ab
namespace Go.Ab
open Go Go.Proofs
set_option maxRecDepth 100000
set_option linter.all false
theorem type_c:∀(n:Nat) (k:Int) (d:Dk),k≤n→n≤20→-100≤k→d.ok→AC E 23 [.ptr 0 0,.i k] ⟨1,[(0,.var d.cells)]⟩ (.agg (d.type k.toNat).1.view) ⟨1,[(0,.var (d.type k.toNat).2.cells)]⟩:=by
 intro n
 induction n with
 |zero=>
  intro k d hk hn hk' hd
  have h1:=next_c d 7 hd (by omega)
  have e:=Dk.type_eq k d
  refine AC.mk Tryz.func23 rfl rfl rfl rfl rfl (Nat.le_of_ble_eq_true rfl) ?_
  repeat'(first|((with_reducible refine D.nil ?_);refine AX.nilL ?_)|((with_reducible refine D.move ?_);refine L.mv U U U ?_)|((with_reducible refine D.assign ?_);refine L.asg U U U ?_)|((with_reducible refine D.bin ?_);first|refine L.sb U U U U (by omega) ?_|refine L.bn U U U U U ?_)|((with_reducible refine D.call ?_);first|(apply L.cb2 (h1) [0] 0 rfl;rfl;rfl;rfl;rfl;rfl;rfl;(focus((repeat'(first|exact trivial|refine And.intro ?_ ?_|refine⟨_,U,_,U,_,U,?_⟩|exact VLe.refl _));done));rfl;rfl;rfl;rfl)|refine L.c2 (nat_c) U U U U ?_|refine L.c2 (list_c) U U U U ?_|refine L.c2 (unit_c) U U U U ?_)|((with_reducible refine D.alloc ?_);refine L.al U U U ?_)|((with_reducible refine D.store ?_);refine L.st U U U U U U U U U ?_)|((with_reducible refine D.aw ?_);first|((with_reducible refine D.blk ?_);refine AW.block ?_)|refine K.sq (AW.regL ?_)|refine K.sq (K.sq ?_)|refine AW.regL ?_|refine AW.condT U ?_|refine AW.condS U (fun h=> ?_) (fun h=> ?_)|refine AW.skip ?_|refine AW.ret ?_)|with_reducible refine K.tN ?_|with_reducible refine K.bN ?_|with_reducible refine K.tR ?_|with_reducible refine K.bR ?_)
  all_goals first
   |(exfalso;simp at*;omega)
   |(simp only[beq_iff_eq,beq_eq_false_iff_ne,ne_eq,decide_eq_true_eq,decide_eq_false_iff_not,gt_iff_lt] at*
     simp[*] at e
     (exact K.n2 [some 0] U U U U U (by(repeat'(first|exact trivial|refine And.intro ?_ ?_|refine⟨_,U,_,U,_,U,?_⟩|exact VLe.of_eq (by simp[Sto.upd,e])));done) U (by simp[tupV,V.wk,V.wks,constV,Ty.view,Tm.view,e])))
 |succ n ih=>
  intro k d hk hn hk' hd
  have h1:=next_c d 7 hd (by omega)
  have e:=Dk.type_eq k d
  have i1:k>0→_:=fun h=>ih (k-1) (d.next 7).2 (by omega) (by omega) (by omega) (Dk.next_ok hd 7)
  have i2:k>0→_:=fun h=>ih (k-1) ((d.next 7).2.type (k-1).toNat).2 (by omega) (by omega) (by omega) (Dk.type_ok _ _ (Dk.next_ok hd 7))
  have i3:=two_c ((d.next 7).2.type (k-1).toNat).1 ((((d.next 7).2.type (k-1).toNat).2).type (k-1).toNat).1 (Dk.type_small _ _ (by omega)) (Dk.type_small _ _ (by omega))
  have i4:=fun_c ((d.next 7).2.type (k-1).toNat).1 ((((d.next 7).2.type (k-1).toNat).2).type (k-1).toNat).1 (Dk.type_small _ _ (by omega)) (Dk.type_small _ _ (by omega))
  refine AC.mk Tryz.func23 rfl rfl rfl rfl rfl (Nat.le_of_ble_eq_true rfl) ?_
  repeat'(first|((with_reducible refine D.nil ?_);refine AX.nilL ?_)|((with_reducible refine D.move ?_);refine L.mv U U U ?_)|((with_reducible refine D.assign ?_);refine L.asg U U U ?_)|((with_reducible refine D.bin ?_);first|refine L.sb U U U U (by omega) ?_|refine L.bn U U U U U ?_)|((with_reducible refine D.call ?_);first|(apply L.cb2 (h1) [0] 0 rfl;rfl;rfl;rfl;rfl;rfl;rfl;(focus((repeat'(first|exact trivial|refine And.intro ?_ ?_|refine⟨_,U,_,U,_,U,?_⟩|exact VLe.refl _));done));rfl;rfl;rfl;rfl)|refine L.c2 (nat_c) U U U U ?_|refine L.c2 (list_c) U U U U ?_|refine L.c2 (unit_c) U U U U ?_|(apply L.cb2 (i1 (by simp_all)) [0] 0 rfl;rfl;rfl;rfl;rfl;rfl;rfl;(focus((repeat'(first|exact trivial|refine And.intro ?_ ?_|refine⟨_,U,_,U,_,U,?_⟩|exact VLe.refl _));done));rfl;rfl;rfl;rfl)|(apply L.cb2 (i2 (by simp_all)) [0] 0 rfl;rfl;rfl;rfl;rfl;rfl;rfl;(focus((repeat'(first|exact trivial|refine And.intro ?_ ?_|refine⟨_,U,_,U,_,U,?_⟩|exact VLe.refl _));done));rfl;rfl;rfl;rfl)|refine L.c2 (i3) U U U U ?_|refine L.c2 (i4) U U U U ?_)|((with_reducible refine D.alloc ?_);refine L.al U U U ?_)|((with_reducible refine D.store ?_);refine L.st U U U U U U U U U ?_)|((with_reducible refine D.aw ?_);first|((with_reducible refine D.blk ?_);refine AW.block ?_)|refine K.sq (AW.regL ?_)|refine K.sq (K.sq ?_)|refine AW.regL ?_|refine AW.condT U ?_|refine AW.condS U (fun h=> ?_) (fun h=> ?_)|refine AW.skip ?_|refine AW.ret ?_)|with_reducible refine K.tN ?_|with_reducible refine K.bN ?_|with_reducible refine K.tR ?_|with_reducible refine K.bR ?_)
  all_goals
   simp only[beq_iff_eq,beq_eq_false_iff_ne,ne_eq,decide_eq_true_eq,decide_eq_false_iff_not,gt_iff_lt] at*
   simp[*] at e
   (exact K.n2 [some 0] U U U U U (by(repeat'(first|exact trivial|refine And.intro ?_ ?_|refine⟨_,U,_,U,_,U,?_⟩|exact VLe.of_eq (by simp[Sto.upd,e])));done) U (by simp[tupV,V.wk,V.wks,constV,Ty.view,Tm.view,e]))
theorem numeral_c(n:Nat)(hn:n<100000):PC E 97 [.i n] (.agg (numT n).view):=by
 have h1:=n_c 4 [] (by simp)
 refine M.F Tryz.func97 ?_
 repeat'(first|refine M.gw ?_|refine M.c2 (h1) ?_|fail)
 refine K.sq (AW.down n (fun m=>m≤n)
  (fun m=>([(0,.i m),(2,.ptr 0 0),(3,.ptr 1 0)],⟨2,[(0,.var [.i 0,.i 0,.i 0,.slice .nil (.t .ty []),.slice .nil (.t .tm [])]),(1,.var (numT (n-m)).view)]⟩))
  (by omega) (fun m=>rfl) rfl (Nat.le_refl _) ?_ ?_ ?_)
 ·simp only[Nat.sub_self]
  exact(M.W [some 0,some 1])
 ·intro m hm hP
  have e:numT (n-m)= .mk 5 0 (.mk 0 []) [numT (n-(m+1))]:=by rw[show n-m=(n-(m+1))+1 by omega];rfl
  repeat'(first|refine M.gw ?_|fail)
  refine⟨rfl,by omega,?_⟩
  simp only[e]
  exact(M.W [some 0,some 1])
 ·intro _
  repeat'(first|refine M.gw ?_|fail)
  simp[tupV,V.wk,V.wks,constV,Ty.view,Tm.view]
theorem number_c(n:Int):PC E 78 [.i n] (.tup [.agg (if 0≤n∧n<4096 then numT n.toNat else noTm).view,.i (if n<0 then 1 else if n≥4096 then 4 else 0)]):=by
 have h1:¬n<0→¬n≥4096→PC E 97 [.i n] _:=fun h h'=>by
  have:=numeral_c n.toNat (by omega)
  rw[show((n.toNat:Nat):Int)=n by omega] at this
  exact this
 refine M.F Tryz.func78 ?_
 repeat'(first|refine M.gw ?_|refine M.c2 (h1 (by simp_all) (by simp_all)) ?_|refine M.cs ?_ ?_<;>intro h|fail)
 ·have h':n<0:=by simpa using h
  have h2:¬(0≤n∧n<4096):=by omega
  simp[tupV,V.wk,V.wks,constV,Ty.view,Tm.view,noTm,h',h2]
 ·rename_i h0
  have h':¬n<0:=by simpa using h0
  have h'':n≥4096:=by simpa using h
  have h2:¬(0≤n∧n<4096):=by omega
  simp[tupV,V.wk,V.wks,constV,Ty.view,Tm.view,noTm,h',h'',h2]
 ·rename_i h0
  have h':¬n<0:=by simpa using h0
  have h'':¬n≥4096:=by simpa using h
  have h2:0≤n∧n<4096:=by omega
  simp[tupV,V.wk,V.wks,constV,Ty.view,Tm.view,noTm,h',h'',h2]
theorem longer_c(g l:List Ty)(h:g.length+l.length<1000000):PC E 25 [.s .ty g,.s .ty l] (.s .ty (g++l)):=by
 refine M.F Tryz.func25 ?_
 repeat'(first|refine M.gw ?_|fail)
 simp[tupV,V.wk,V.wks,constV,Ty.view,Tm.view]
theorem lam_c(t:Tm)(ht:t.full<549755813888):PC E 79 [.agg t.view] (.agg (Tm.mk 2 0 (.mk 1 []) [t]).view):=by
 have h1:=t_c 2 (.mk 1 []) [t] (by simp;omega) (by simp[Ty.size_eq])
 refine M.F Tryz.func79 ?_
 repeat'(first|refine M.gw ?_|refine M.c2 (nat_c) ?_|refine M.c2 (h1) ?_|fail)
 simp[tupV,V.wk,V.wks,constV,Ty.view,Tm.view]
theorem num_c(n:Int):PC E 56 [.i n] (.agg (numOf n).view):=by
 have h1:=number_c n
 refine M.F Tryz.func56 ?_
 repeat'(first|refine M.gw ?_|refine M.c2 (h1) ?_|fail)
 simp[tupV,V.wk,V.wks,constV,Ty.view,Tm.view,numOf]
theorem context_c(d:Dk)(hd:d.ok):AC E 10 [.ptr 0 0] ⟨1,[(0,.var d.cells)]⟩ (.s .ty d.ctx.1) ⟨1,[(0,.var d.ctx.2.cells)]⟩:=by
 have h1:=next_c d 4 hd (by omega)
 have hb:=Dk.next_bd d 4 (by omega)
 obtain⟨c,hc⟩:∃c:Nat,(d.next 4).1=c:=⟨(d.next 4).1.toNat,by omega⟩
 rw[hc] at h1 hb
 have hx:d.ctx=(d.next 4).2.types c:=by simp only[Dk.ctx,hc];rfl
 refine M.F Tryz.func10 ?_
 repeat'(first|refine M.gw ?_|refine M.cb (h1) [0] 0 ?_|fail)
 refine AW.down c (fun m=>m≤c)
  (fun m=>([(0,.ptr 0 0),(3,.slice (.own 1) (.t .ty ((d.next 4).2.types (c-m)).1)),(4,.i m)],⟨2,[(0,.var ((d.next 4).2.types (c-m)).2.cells),(1,.row)]⟩))
  (by omega) (fun m=>rfl) rfl (Nat.le_refl _) ?_ ?_ ?_
 ·simp only[Nat.sub_self]
  exact(M.W [some 0,none])
 ·intro m hm hP
  have e:=Dk.types_snoc (c-(m+1)) (d.next 4).2
  rw[show c-(m+1)+1=c-m by omega] at e
  have h2:=type_c 1 1 ((d.next 4).2.types (c-(m+1))).2 (by omega) (by omega) (by omega) (Dk.types_ok _ _ (Dk.next_ok hd 4))
  have hl:=Dk.types_len (c-(m+1)) (d.next 4).2
  repeat'(first|refine M.gw ?_|refine M.cb (h2) [0] 0 ?_|fail)
  refine⟨rfl,by omega,?_⟩
  simp only[e]
  exact(M.W [some 0,some 2])
 ·intro _
  repeat'(first|refine M.gw ?_|fail)
  (exact M.n2 [some 0] (h6:=(by(repeat'(first|exact trivial|refine And.intro ?_ ?_|refine⟨_,U,_,U,_,U,?_⟩|exact VLe.of_eq (by simp[Sto.upd,hx])));done)) (h8:=(by simp[tupV,V.wk,V.wks,constV,Ty.view,Tm.view,hx])))
theorem rec_c(b f n:Tm)(h:b.full+f.full+n.full<549755813888):PC E 80 [.agg b.view,.agg f.view,.agg n.view] (.agg (Tm.mk 6 0 (.mk 1 []) [b,f,n]).view):=by
 have h1:=t_c 6 (.mk 1 []) [b,f,n] (by simp;omega) (by simp[Ty.size_eq])
 refine M.F Tryz.func80 ?_
 repeat'(first|refine M.gw ?_|refine M.c2 (nat_c) ?_|refine M.c2 (h1) ?_|fail)
 simp[tupV,V.wk,V.wks,constV,Ty.view,Tm.view]
theorem plus_c:PC E 58 [] (.agg plusT.view):=by
 have h0:=var_c 0
 have h1:=var_c 1
 have h2:=n_c 5 [vT 0] (by simp[Tm.full,Tm.fulls,Ty.size,Ty.sizes,vT])
 have h3:=lam_c (sT (vT 0)) (by simp[Tm.full,Tm.fulls,Ty.size,Ty.sizes,vT,sT])
 have h4:=lam_c (lamT (sT (vT 0))) (by simp[Tm.full,Tm.fulls,Ty.size,Ty.sizes,vT,sT,lamT])
 have h5:=rec_c (vT 1) addF (vT 0) (by simp[Tm.full,Tm.fulls,Ty.size,Ty.sizes,vT,sT,lamT,addF])
 have h6:=lam_c (recT (vT 1) addF (vT 0)) (by simp[Tm.full,Tm.fulls,Ty.size,Ty.sizes,vT,sT,lamT,addF,recT])
 have h7:=lam_c (lamT (recT (vT 1) addF (vT 0))) (by simp[Tm.full,Tm.fulls,Ty.size,Ty.sizes,vT,sT,lamT,addF,recT])
 refine M.F Tryz.func58 ?_
 repeat'(first|refine M.gw ?_|refine M.c2 (h0) ?_|refine M.c2 (h1) ?_|refine M.c2 (h2) ?_|refine M.c2 (h3) ?_|refine M.c2 (h4) ?_|refine M.c2 (h5) ?_|refine M.c2 (h6) ?_|refine M.c2 (h7) ?_|fail)
 rfl
theorem pred_c:PC E 81 [] (.agg predT.view):=by
 have h0:=var_c 0
 have h1:=var_c 1
 have h2:=n_c 4 [] (by simp)
 have h3:=lam_c (vT 1) (by simp[Tm.full,Tm.fulls,Ty.size,Ty.sizes,vT,sT])
 have h4:=lam_c (lamT (vT 1)) (by simp[Tm.full,Tm.fulls,Ty.size,Ty.sizes,vT,sT,lamT])
 have h5:=rec_c zT (lamT (lamT (vT 1))) (vT 0) (by simp[Tm.full,Tm.fulls,Ty.size,Ty.sizes,vT,zT,lamT,addF])
 have h6:=lam_c (recT zT (lamT (lamT (vT 1))) (vT 0)) (by simp[Tm.full,Tm.fulls,Ty.size,Ty.sizes,vT,zT,lamT,addF,recT])
 refine M.F Tryz.func81 ?_
 repeat'(first|refine M.gw ?_|refine M.c2 (h0) ?_|refine M.c2 (h1) ?_|refine M.c2 (h2) ?_|refine M.c2 (h3) ?_|refine M.c2 (h4) ?_|refine M.c2 (h5) ?_|refine M.c2 (h6) ?_|fail)
 rfl
theorem sub_c:PC E 59 [] (.agg subT.view):=by
 have h0:=var_c 0
 have h1:=var_c 1
 have hp:=pred_c
 have h2:=n_c 3 [predT,vT 0] (by simp[Tm.full,Tm.fulls,Ty.size,Ty.sizes,vT,zT,lamT,predT,recT])
 have h3:=lam_c (apT predT (vT 0)) (by simp[Tm.full,Tm.fulls,Ty.size,Ty.sizes,vT,zT,lamT,predT,recT,apT])
 have h4:=lam_c (lamT (apT predT (vT 0))) (by simp[Tm.full,Tm.fulls,Ty.size,Ty.sizes,vT,zT,lamT,predT,recT,apT])
 have h5:=rec_c (vT 1) subF (vT 0) (by simp[Tm.full,Tm.fulls,Ty.size,Ty.sizes,vT,zT,lamT,predT,recT,apT,subF])
 have h6:=lam_c (recT (vT 1) subF (vT 0)) (by simp[Tm.full,Tm.fulls,Ty.size,Ty.sizes,vT,zT,lamT,predT,recT,apT,subF])
 have h7:=lam_c (lamT (recT (vT 1) subF (vT 0))) (by simp[Tm.full,Tm.fulls,Ty.size,Ty.sizes,vT,zT,lamT,predT,recT,apT,subF])
 refine M.F Tryz.func59 ?_
 repeat'(first|refine M.gw ?_|refine M.c2 (h0) ?_|refine M.c2 (h1) ?_|refine M.c2 (hp) ?_|refine M.c2 (h2) ?_|refine M.c2 (h3) ?_|refine M.c2 (h4) ?_|refine M.c2 (h5) ?_|refine M.c2 (h6) ?_|refine M.c2 (h7) ?_|fail)
 rfl
theorem appMake_c:∀(f:Tm) (l:List Tm),f.full+2*l.length+(l.map Tm.full).sum<274877906944→PC E 57 [.agg f.view,.s .tm l] (.agg (l.foldl apT f).view):=by
 intro f l hl
 have hlen:=lsum_len Tm.full Tm.full_pos l
 have hfull:∀m,m≤l.length→((l.take m).foldl apT f).full≤f.full+2*m+((l.take m).map Tm.full).sum:=by
  intro m
  induction m with
  |zero=>intro _;simp
  |succ m ih=>
   intro hm
   have h1:=ih (by omega)
   have h2:=lsum_take Tm.full l m (by omega)
   rw[←List.take_append_getElem (by omega:m<l.length),List.foldl_append,List.take_append_getElem (by omega:m<l.length),h2]
   simp only[List.foldl_cons,List.foldl_nil,apT,Tm.full,Tm.fulls,Ty.size,Ty.sizes]
   omega
 refine M.F Tryz.func57 ?_
 repeat'(first|refine M.gw ?_|fail)
 refine AW.range l.length (fun m=>True)
  (fun m=>([(2,.ptr 0 0),(4,.ptr 1 0),(7,.s .tm l),(8,.i l.length),(9,.i m)],⟨2,[(0,.var ((l.take m).foldl apT f).view),(1,.var [.i 0,.i 0,.i 0,.slice .nil (.t .ty []),.slice .nil (.t .tm [])])]⟩))
  (by omega) (fun m=>rfl) (fun m=>rfl) rfl trivial (M.W [some 0,some 1]) ?_ ?_
 ·intro m hm hP
  have e:(l.take (m+1)).foldl apT f=apT ((l.take m).foldl apT f) l[m]:=by rw[←List.take_append_getElem hm,List.foldl_append];rfl
  have h2:=lsum_take_le Tm.full l (m+1)
  have h3:=lsum_take Tm.full l m hm
  have h4:=hfull m (by omega)
  have h1:=n_c 3 [(l.take m).foldl apT f,l[m]] (by simp only[List.map_cons,List.map_nil,List.sum_cons,List.sum_nil];omega)
  repeat'(first|refine M.gw ?_|refine M.c2 (h1) ?_|fail)
  refine⟨rfl,trivial,?_⟩
  exact(M.W [some 0,some 1] (he:=(by(repeat'(first|exact trivial|refine And.intro ?_ ?_|refine⟨_,U,_,U,_,U,?_⟩|exact VLe.refl _|exact VLe.of_eq (by simp[Sto.upd,e,apT])));done)))
 ·intro _
  repeat'(first|refine M.gw ?_|fail)
  simp[tupV,V.wk,V.wks,constV,Ty.view,Tm.view]
theorem vars_c(g:List Ty)(t:Ty)(hg:(g.map Ty.size).sum<1099511627776):PC E 54 [.s .ty g,.agg t.view] (.s .int (varsT g t)):=by
 have hlen:=lsum_len Ty.size Ty.size_pos g
 refine M.F Tryz.func54 ?_
 repeat'(first|refine M.gw ?_|fail)
 refine AW.range g.length (fun m=>True)
  (fun m=>([(0,.s .ty g),(3,.ptr 0 0),(5,.slice (.own 1) (.t .int (((List.range m).filter fun i=>decide (g[g.length-1-i]? =some t)).map Int.ofNat))),(8,.i g.length),(9,.i m)],⟨2,[(0,.var t.view),(1,.row)]⟩))
  (by omega) (fun m=>rfl) (fun m=>rfl) rfl trivial (M.W [some 0,none]) ?_ ?_
 ·intro m hm hP
  have hm2:g.length-1-m<g.length:=by omega
  have hs2:=lsum_mem Ty.size (List.getElem_mem hm2)
  have hsame:=sameTy_c _ g[g.length-1-m] t (Nat.le_refl _) (by omega)
  have hg:g[g.length-1-m]? =some g[g.length-1-m]:=List.getElem?_eq_getElem hm2
  have hfl:(List.filter (fun i=>decide (g[g.length-1-i]? =some t)) (List.range m)).length≤m:=by have:=List.length_filter_le (fun i=>decide (g[g.length-1-i]? =some t)) (List.range m);simpa using this
  repeat'(first|refine M.gw ?_|fail)
  refine L.ixt (g.length-1-m) rfl rfl rfl rfl (by omega) rfl rfl (by omega) ?_
  repeat'(first|refine M.gw ?_|refine M.c2 (hsame) ?_|refine M.cs ?_ ?_<;>intro h|fail)
  ·exact ⟨rfl,trivial,(M.W [some 0,some 2] (hf:=(by(repeat'(first|exact trivial|refine And.intro ?_ ?_|refine⟨_,U,_,U,?_⟩|exact VLe.refl _|exact VLe.of_eq (by simp[Sto.upd,List.range_succ,hg,of_decide_eq_true h])));done)))⟩
  ·exact ⟨rfl,trivial,(M.W [some 0,some 1] (hf:=(by(repeat'(first|exact trivial|refine And.intro ?_ ?_|refine⟨_,U,_,U,?_⟩|exact VLe.refl _|exact VLe.of_eq (by simp[Sto.upd,List.range_succ,hg,of_decide_eq_false h])));done)))⟩
 ·intro _
  repeat'(first|refine M.gw ?_|fail)
  simp[tupV,V.wk,V.wks]
  rfl
theorem shapeTy_c:∀(b:Nat) (t:Ty),t.size≤b→b<1099511627776→PC E 110 [.agg t.view] (.bool t.shape):=by
 intro b
 induction b with
 |zero=>intro t h;have:=t.size_pos;omega
 |succ b ih=>
 intro t hsz hb
 have hsz':=Ty.size_eq t
 have hlen:=lsum_len Ty.size Ty.size_pos t.args
 have hsh:=Ty.shape_eq t
 refine M.F Tryz.func110 ?_
 repeat'(first|refine M.gw ?_|fail)
 refine AW.cutT (ι:={n:Nat // arT t.kind=some n}) (fun n=>([(1,.ptr 0 0),(3,.i n.1)],⟨1,[(0,.var t.view)]⟩)) ?_ ?_
 ·refine AW.block ?_
  repeat'(first|refine M.gw ?_|refine M.cs ?_ ?_<;>intro h|fail)
  ·exact ⟨⟨0,by simp at h;simp[arT,h]⟩,(M.W [some 0])⟩
  ·exact ⟨⟨0,by simp at h;simp[arT,h]⟩,(M.W [some 0])⟩
  ·exact ⟨⟨0,by simp at h;simp[arT,h]⟩,(M.W [some 0])⟩
  ·exact ⟨⟨2,by simp at h;simp[arT,h]⟩,(M.W [some 0])⟩
  ·exact ⟨⟨2,by simp at h;simp[arT,h]⟩,(M.W [some 0])⟩
  ·have:t.shape=false:=by simp at*;simp[hsh,arT, *]
   simp[this,tupV,constV,V.wk,V.wks]
 rintro⟨n,hn⟩
 repeat'(first|refine M.gw ?_|refine M.cs ?_ ?_<;>intro h|fail)
 ·have h1:¬t.args.length=n:=by simp at h;omega
  have:t.shape=false:=by simp[hsh,hn,h1]
  simp[this,tupV,constV,V.wk,V.wks]
 have hn':t.args.length=n:=by simp at h;omega
 refine AW.range t.args.length (fun m=>∀j (hj:j<t.args.length),j<m→(t.args[j]).shape=true)
  (fun m=>([(1,.ptr 0 0),(21,.s .ty t.args),(22,.i t.args.length),(23,.i m)],⟨1,[(0,.var t.view)]⟩))
  (by omega) (fun m=>rfl) (fun m=>rfl) rfl (by intro j hj h;omega) (M.W [some 0]) ?_ ?_
 ·intro m hm hP
  have hs2:=lsum_mem Ty.size (List.getElem_mem hm)
  repeat'(first|refine M.gw ?_|refine M.c2 (ih _ ?_ ?_) ?_|refine M.cs ?_ ?_<;>intro h|exact M.le|exact M.lt|fail)
  ·have h1:(t.args[m]).shape=false:=by simpa using h
   have:t.shape=false:=by rw[hsh,all_not Ty.shape hm h1,Bool.and_false]
   simp[this,tupV,constV,V.wk,V.wks]
  ·have hh:(t.args[m]).shape=true:=by simpa using h
   exact⟨rfl,all_step (p:=fun t=>Ty.shape t=true) hm hP hh,(M.W [some 0])⟩
 ·intro hP
  have:t.shape=true:=by simp only[hsh,hn,hn',all_of Ty.shape t.args fun j hj=>hP j hj hj];simp
  repeat'(first|refine M.gw ?_|fail)
  simp[this,tupV,constV,V.wk,V.wks]
theorem sizeTy_c:∀(b:Nat) (t:Ty),t.size≤b→b<1099511627776→PC E 111 [.agg t.view] (.i t.size):=by
 intro b
 induction b with
 |zero=>intro t h;have:=t.size_pos;omega
 |succ b ih=>
 intro t hsz hb
 have hsz':=Ty.size_eq t
 have hlen:=lsum_len Ty.size Ty.size_pos t.args
 refine M.F Tryz.func111 ?_
 repeat'(first|refine M.gw ?_|fail)
 refine AW.range t.args.length (fun m=>True)
  (fun m=>([(3,.i (1+((t.args.take m).map Ty.size).sum)),(7,.s .ty t.args),(8,.i t.args.length),(9,.i m)],⟨1,[(0,.var t.view)]⟩))
  (by omega) (fun m=>rfl) (fun m=>rfl) rfl trivial (M.W [some 0]) ?_ ?_
 ·intro m hm hP
  have hs1:=lsum_take Ty.size t.args m hm
  have hs2:=lsum_mem Ty.size (List.getElem_mem hm)
  have hs3:=lsum_take_le Ty.size t.args (m+1)
  have e:(1+((((t.args.take (m+1)).map Ty.size).sum:Nat):Int))=1+(((t.args.take m).map Ty.size).sum:Nat)+t.args[m].size:=by rw[hs1];omega
  repeat'(first|refine M.gw ?_|refine M.c2 (ih _ ?_ ?_) ?_|exact M.le|exact M.lt|fail)
  refine⟨rfl,trivial,?_⟩
  simp only[e]
  exact(M.W [some 0])
 ·intro hP
  repeat'(first|refine M.gw ?_|fail)
  simp[tupV,constV,hsz',V.wk,V.wks]
theorem checkTyR_c(t:Ty)(ht:t.size<1099511627776):PC E 92 [.agg t.view] (.i t.err):=by
 have h1:=shapeTy_c _ t (Nat.le_refl _) ht
 have h2:=sizeTy_c _ t (Nat.le_refl _) ht
 refine M.F Tryz.func92 ?_
 repeat'(first|refine M.gw ?_|refine M.c2 (h1) ?_|refine M.c2 (h2) ?_|refine M.cs ?_ ?_<;>intro h|fail)
 all_goals simp_all[tupV,V.wk,V.wks,constV,Ty.err]
 all_goals(first|omega|(split<;>first|omega|simp_all))
theorem zeroTy_c(t:Ty):PC E 90 [.agg t.view] (.bool t.isNo):=by
 refine M.F Tryz.func90 ?_
 repeat'(first|refine M.gw ?_|refine M.gs ?_ ?_<;>intro h|fail)
 all_goals simp_all[tupV,V.wk,V.wks,constV,Ty.isNo]
 rw[Bool.eq_iff_iff];simp
theorem args_c(k:Int):PC E 98 [.i k] (.i (argsI k)):=by
 refine M.F Tryz.func98 ?_
 repeat'(first|refine M.gw ?_|refine M.bl ?_|refine M.cs ?_ ?_<;>intro h|fail)
 all_goals
  simp only[beq_iff_eq,beq_eq_false_iff_ne,ne_eq] at*
  simp[tupV,V.wk,V.wks,constV,argsI, *]
theorem countTm_c:∀(b:Nat) (t:Tm),t.full≤b→b<1099511627776→PC E 63 [.agg t.view] (.i t.size):=by
 intro b
 induction b with
 |zero=>intro t h;have:=t.full_pos;omega
 |succ b ih=>
 intro t hsz hb
 have hsz':=Tm.full_eq t
 have hszz:=Tm.size_eq t
 have hle:=Tm.size_le_full t
 have hlen:=lsum_len Tm.full Tm.full_pos t.args
 refine M.F Tryz.func63 ?_
 repeat'(first|refine M.gw ?_|fail)
 refine AW.range t.args.length (fun m=>True)
  (fun m=>([(3,.i (1+((t.args.take m).map Tm.size).sum)),(7,.s .tm t.args),(8,.i t.args.length),(9,.i m)],⟨1,[(0,.var t.view)]⟩))
  (by omega) (fun m=>rfl) (fun m=>rfl) rfl trivial (M.W [some 0]) ?_ ?_
 ·intro m hm hP
  have hs1:=lsum_take Tm.size t.args m hm
  have hs2:=lsum_mem Tm.full (List.getElem_mem hm)
  have hs3:=lsum_take_le Tm.size t.args (m+1)
  have e:(1+((((t.args.take (m+1)).map Tm.size).sum:Nat):Int))=1+(((t.args.take m).map Tm.size).sum:Nat)+t.args[m].size:=by rw[hs1];omega
  repeat'(first|refine M.gw ?_|refine M.c2 (ih _ ?_ ?_) ?_|exact M.le|exact M.lt|fail)
  refine⟨rfl,trivial,?_⟩
  simp only[e]
  exact(M.W [some 0])
 ·intro hP
  repeat'(first|refine M.gw ?_|fail)
  simp[tupV,constV,hszz,V.wk,V.wks]
end Go.Ab
namespace Go.Ab
open Go Go.Proofs
set_option maxRecDepth 100000
set_option maxHeartbeats 4000000
set_option linter.all false
theorem argsI_eq(k:Int):argsI k=match arK k with|some n=>(n:Int)|none=> -1:=by
 simp only[argsI,arK];(repeat' split)<;>simp_all<;>omega
theorem Tm.head_eqR(t:Tm):t.head=(!((t.args.length:Int) !=argsI t.kind)&& !decide (t.index<0)&&(!(t.kind !=1)|| !(t.index !=0))&&(bif typedK t.kind then !(t.ty.err !=0) else !(!t.ty.isNo))):=by
 simp only[Tm.head,Ty.ok_err,argsI_eq]
 cases hk:arK t.kind with
 |none=>
  have:((t.args.length:Int) != -1)=true:=by simp
  simp[this]
 |some n=>
  have h1:(t.args.length==n)= !((t.args.length:Int) !=((n:Nat):Int)):=by rw[Bool.eq_iff_iff];simp;omega
  have h2:decide (0≤t.index)= !decide (t.index<0):=by rw[Bool.eq_iff_iff];simp
  simp only[h1,h2,bne]
  cases(t.index==0)<;>cases(t.kind==1)<;>simp
theorem shapeTm_c:∀(b:Nat) (t:Tm),t.full≤b→b<1099511627776→PC E 82 [.agg t.view] (.bool t.shape):=by
 intro b
 induction b with
 |zero=>intro t h;have:=t.full_pos;omega
 |succ b ih=>
 intro t hsz hb
 have hsz':=Tm.full_eq t
 have hlen:=lsum_len Tm.full Tm.full_pos t.args
 have hsh:=Tm.shape_eq t
 have h1:=args_c t.kind
 have h3:=zeroTy_c t.ty
 have h4:=checkTyR_c t.ty (by omega)
 refine M.F Tryz.func82 ?_
 repeat'(first|refine M.gw ?_|refine M.c2 (h1) ?_|refine M.c2 (h3) ?_|refine M.c2 (h4) ?_|refine M.gs ?_ ?_<;>intro h|refine M.bl ?_|refine M.cs ?_ ?_<;>intro h|fail)
 all_goals first
  |(have hd:t.head=false:=by rw[t.head_eqR];simp_all[typedK]
    have:t.shape=false:=by rw[hsh,hd,Bool.false_and]
    simp[this,tupV,constV,V.wk,V.wks];done)
  |(have hd:t.head=true:=by rw[t.head_eqR];simp_all[typedK]
    refine AW.range t.args.length (fun m=>∀j (hj:j<t.args.length),j<m→(t.args[j]).shape=true)
     (fun m=>([(1,.ptr 0 0),(42,.s .tm t.args),(43,.i t.args.length),(44,.i m)],⟨1,[(0,.var t.view)]⟩))
     (by omega) (fun m=>rfl) (fun m=>rfl) rfl (by intro j hj h;omega) (M.W [some 0]) ?_ ?_
    ·intro m hm hP
     have hs2:=lsum_mem Tm.full (List.getElem_mem hm)
     repeat'(first|refine M.gw ?_|refine M.c2 (ih _ ?_ ?_) ?_|refine M.cs ?_ ?_<;>intro h|exact M.le|exact M.lt|fail)
     ·have h1:(t.args[m]).shape=false:=by simpa using h
      have:t.shape=false:=by rw[hsh,all_not Tm.shape hm h1,Bool.and_false]
      simp[this,tupV,constV,V.wk,V.wks]
     ·have hh:(t.args[m]).shape=true:=by simpa using h
      exact⟨rfl,all_step (p:=fun t=>Tm.shape t=true) hm hP hh,(M.W [some 0])⟩
    ·intro hP
     have:t.shape=true:=by simp only[hsh,hd,all_of Tm.shape t.args fun j hj=>hP j hj hj];simp
     repeat'(first|refine M.gw ?_|fail)
     simp[this,tupV,constV,V.wk,V.wks])
theorem checkTmR_c(t:Tm)(ht:t.full<1099511627776):PC E 60 [.agg t.view] (.i t.err):=by
 have h1:=shapeTm_c _ t (Nat.le_refl _) ht
 have h2:=countTm_c _ t (Nat.le_refl _) ht
 refine M.F Tryz.func60 ?_
 repeat'(first|refine M.gw ?_|refine M.c2 (h1) ?_|refine M.c2 (h2) ?_|refine M.cs ?_ ?_<;>intro h|fail)
 all_goals simp_all[tupV,V.wk,V.wks,constV,Tm.err]
 all_goals(first|omega|(split<;>first|omega|simp_all))
def HT(n:Nat):Prop:=∀(d:Dk) (g:List Ty) (t:Ty) (k:Int),k=(n:Int)-2→d.ok→smalls g→t.small→1≤n→(n=1→t.size=1)→g.length+3*n≤10000→
 AC E 28 [.ptr 0 0,.s .ty g,.agg t.view,.i k] ⟨1,[(0,.var d.cells)]⟩ (.agg (Dk.tm n d g t).1.view) ⟨1,[(0,.var (Dk.tm n d g t).2.cells)]⟩
theorem tm_full{n:Nat}(hn:n≤7)(d:Dk){g:List Ty}{t:Ty}(hg:smalls g)(ht:t.small)(h1:1≤n)(h2:n=1→t.size=1):(Dk.tm n d g t).1.full≤50000:=by
 have:=(Dk.tm_mk n d g t hg ht h1 h2).full hg ht
 have:3^n≤3^7:=Nat.pow_le_pow_right (by omega) hn
 omega
abbrev F14:AF→AF:=id
theorem fin_c(n:Nat)(H:HT n)(hn:n≤7)(depth:Int)(hdep:depth=(n:Int)-1)(d:Dk)(hd:d.ok)(g:List Ty)(t:Ty)(hg:smalls g)(ht:t.small)(h0:n=0→t.size=1)(hl:g.length+3*(n+1)≤10000):
 AW E Tryz.f28.ntmps 1 (partAt [1,1,1,1] (bodyOf Tryz.f28)) [(0,.ptr 0 0),(1,.s .ty g),(3,.i depth),(6,.ptr 1 0),(8,.ptr 2 0)]
  ⟨3,[(0,.var d.cells),(1,.var t.view),(2,.var [.i 0,.i 0,.i 0,.slice .nil (.t .ty []),.slice .nil (.t .tm [])])]⟩
  (retQ E 1 Tryz.f28.results.toList (.agg (d.fin (Dk.tm n) (decide (2≤n)) g t).1.view) ⟨1,[(0,.var (d.fin (Dk.tm n) (decide (2≤n)) g t).2.cells)]⟩):=by
 have hF:1≤n→∀d,∀t,t.small→(n=1→t.size=1)→(Dk.tm n d g t).1.full≤50000:=fun h1 d t ht h2=>tm_full hn d hg ht h1 h2
 have hok:∀d g t,d.ok→(Dk.tm n d g t).2.ok:=fun d g t h=>Dk.tm_ok n d g t h
 rcases small_cases ht with rfl|rfl|rfl|⟨a,b,ha,hb,h1,h2,rfl|rfl⟩
 ·show AW _ _ _ (Code.seq _ _) _ _ _
  by_cases hp:2≤n
  ·have hp':depth>0:=by omega
   have e:d.fin (Dk.tm n) (decide (2≤n)) g natT=if(d.next 5).1=0 then(sT (Dk.tm n (d.next 5).2 g natT).1,(Dk.tm n (d.next 5).2 g natT).2)
    else if(d.next 5).1=1 then(apT (apT plusT (Dk.tm n (d.next 5).2 g natT).1) (Dk.tm n (Dk.tm n (d.next 5).2 g natT).2 g natT).1,(Dk.tm n (Dk.tm n (d.next 5).2 g natT).2 g natT).2)
    else if(d.next 5).1=2 then(apT (apT subT (Dk.tm n (d.next 5).2 g natT).1) (Dk.tm n (Dk.tm n (d.next 5).2 g natT).2 g natT).1,(Dk.tm n (Dk.tm n (d.next 5).2 g natT).2 g natT).2)
    else(numOf ((d.next 5).2.next 3).1,((d.next 5).2.next 3).2):=by simp[Dk.fin,natT,hp]
   have hd5:=Dk.next_ok hd 5
   have hx5:=next_c d 5 hd (by omega)
   have hx3:=next_c (d.next 5).2 3 hd5 (by omega)
   have a1:=H (d.next 5).2 g natT (depth-1) (by omega) hd5 hg small_nat (by omega) (by omega) (by omega)
   have a2:=H (Dk.tm n (d.next 5).2 g natT).2 g natT (depth-1) (by omega) (hok _ _ _ hd5) hg small_nat (by omega) (by omega) (by omega)
   have f1:=hF (by omega) (d.next 5).2 natT small_nat (by omega)
   have f2:=hF (by omega) (Dk.tm n (d.next 5).2 g natT).2 natT small_nat (by omega)
   have hs:=n_c 5 [(Dk.tm n (d.next 5).2 g natT).1] (by simp;omega)
   have p1:plusT.full≤18:=by decide
   have p2:subT.full≤36:=by decide
   have ap:=appMake_c plusT [(Dk.tm n (d.next 5).2 g natT).1,(Dk.tm n (Dk.tm n (d.next 5).2 g natT).2 g natT).1] (by simp;omega)
   have asb:=appMake_c subT [(Dk.tm n (d.next 5).2 g natT).1,(Dk.tm n (Dk.tm n (d.next 5).2 g natT).2 g natT).1] (by simp;omega)
   have hnum:=num_c ((d.next 5).2.next 3).1
   repeat'(first|refine M.gw ?_|refine M.cb (hx5) [0] 0 ?_|refine M.cb (hx3) [0] 0 ?_|refine M.cb (a1) [0] 0 ?_|refine M.cb (a2) [0] 0 ?_|refine M.c2 (plus_c) ?_|refine M.c2 (sub_c) ?_|refine M.c2 (ap) ?_|refine M.c2 (asb) ?_|refine M.c2 (hnum) ?_|refine M.c2 (hs) ?_|refine M.bl ?_|refine M.cs ?_ ?_<;>intro h|fail)
   all_goals first
    |exact absurd hp' (by simpa using h)
    |skip
   ·have e:=e.trans (if_pos (by simpa using h))
    (exact M.n2 [some 0] (h6:=(by(repeat'(first|exact trivial|refine And.intro ?_ ?_|refine⟨_,U,_,U,_,U,?_⟩|exact VLe.of_eq (by simp[Sto.upd,e,sT])));done)) (h8:=(by simp[tupV,V.wk,V.wks,constV,Ty.view,Tm.view,e,sT])))
   ·rename_i h0
    have e:=e.trans ((if_neg (by simpa using h0)).trans (if_pos (by simpa using h)))
    (exact M.n2 [some 0] (h6:=(by(repeat'(first|exact trivial|refine And.intro ?_ ?_|refine⟨_,U,_,U,_,U,?_⟩|exact VLe.of_eq (by simp[Sto.upd,e,apT])));done)) (h8:=(by simp[tupV,V.wk,V.wks,constV,Ty.view,Tm.view,e,apT])))
   ·rename_i h0 h1
    have e:=e.trans ((if_neg (by simpa using h0)).trans ((if_neg (by simpa using h1)).trans (if_pos (by simpa using h))))
    (exact M.n2 [some 0] (h6:=(by(repeat'(first|exact trivial|refine And.intro ?_ ?_|refine⟨_,U,_,U,_,U,?_⟩|exact VLe.of_eq (by simp[Sto.upd,e,apT])));done)) (h8:=(by simp[tupV,V.wk,V.wks,constV,Ty.view,Tm.view,e,apT])))
   ·rename_i h0 h1
    have e:=e.trans ((if_neg (by simpa using h0)).trans ((if_neg (by simpa using h1)).trans (if_neg (by simpa using h))))
    (exact M.n2 [some 0] (h6:=(by(repeat'(first|exact trivial|refine And.intro ?_ ?_|refine⟨_,U,_,U,_,U,?_⟩|exact VLe.of_eq (by simp[Sto.upd,e])));done)) (h8:=(by simp[tupV,V.wk,V.wks,constV,Ty.view,Tm.view,e])))
  ·have hp':¬depth>0:=by omega
   have e:d.fin (Dk.tm n) (decide (2≤n)) g natT=(numOf (d.next 3).1,(d.next 3).2):=by simp[Dk.fin,natT,hp]
   have hx3:=next_c d 3 hd (by omega)
   have hnum:=num_c (d.next 3).1
   repeat'(first|refine M.gw ?_|refine M.cb (hx3) [0] 0 ?_|refine M.c2 (hnum) ?_|refine M.bl ?_|refine M.cs ?_ ?_<;>intro h|fail)
   all_goals first
    |exact absurd hp' (by simpa using h)
    |skip
   (exact M.n2 [some 0] (h6:=(by(repeat'(first|exact trivial|refine And.intro ?_ ?_|refine⟨_,U,_,U,_,U,?_⟩|exact VLe.of_eq (by simp[Sto.upd,e])));done)) (h8:=(by simp[tupV,V.wk,V.wks,constV,Ty.view,Tm.view,e])))
 ·show AW _ _ _ (Code.seq _ _) _ _ _
  have hN:=n_c 7 [] (by simp)
  by_cases hp:2≤n
  ·have hp':depth>0:=by omega
   have e:d.fin (Dk.tm n) (decide (2≤n)) g listT=if(d.next 2).1=0 then(nT 8 [(Dk.tm n (d.next 2).2 g natT).1,(Dk.tm n (Dk.tm n (d.next 2).2 g natT).2 g listT).1],(Dk.tm n (Dk.tm n (d.next 2).2 g natT).2 g listT).2) else(nT 7 [],(d.next 2).2):=by simp[Dk.fin,listT,hp]
   have hd2:=Dk.next_ok hd 2
   have hx2:=next_c d 2 hd (by omega)
   have a1:=H (d.next 2).2 g natT (depth-1) (by omega) hd2 hg small_nat (by omega) (by omega) (by omega)
   have a2:=H (Dk.tm n (d.next 2).2 g natT).2 g listT (depth-1) (by omega) (hok _ _ _ hd2) hg small_list (by omega) (by omega) (by omega)
   have f1:=hF (by omega) (d.next 2).2 natT small_nat (by omega)
   have f2:=hF (by omega) (Dk.tm n (d.next 2).2 g natT).2 listT small_list (by omega)
   have hs:=n_c 8 [(Dk.tm n (d.next 2).2 g natT).1,(Dk.tm n (Dk.tm n (d.next 2).2 g natT).2 g listT).1] (by simp;omega)
   repeat'(first|refine M.gw ?_|refine M.cb (hx2) [0] 0 ?_|refine M.cb (a1) [0] 0 ?_|refine M.cb (a2) [0] 0 ?_|refine M.c2 (nat_c) ?_|refine M.c2 (hs) ?_|refine M.c2 (hN) ?_|refine M.gs ?_ ?_<;>intro h|refine M.bl ?_|refine M.cs ?_ ?_<;>intro h|fail)
   all_goals first
    |exact absurd hp' (by simpa using h)
    |skip
   ·have e:=e.trans (if_pos (by simpa using h))
    (exact M.n2 [some 0] (h6:=(by(repeat'(first|exact trivial|refine And.intro ?_ ?_|refine⟨_,U,_,U,_,U,?_⟩|exact VLe.of_eq (by simp[Sto.upd,e,nT])));done)) (h8:=(by simp[tupV,V.wk,V.wks,constV,Ty.view,Tm.view,e,nT])))
   ·have e:=e.trans (if_neg (by simpa using h))
    (exact M.n2 [some 0] (h6:=(by(repeat'(first|exact trivial|refine And.intro ?_ ?_|refine⟨_,U,_,U,_,U,?_⟩|exact VLe.of_eq (by simp[Sto.upd,e,nT])));done)) (h8:=(by simp[tupV,V.wk,V.wks,constV,Ty.view,Tm.view,e,nT])))
  ·have hp':¬depth>0:=by omega
   have e:d.fin (Dk.tm n) (decide (2≤n)) g listT=(nT 7 [],d):=by simp[Dk.fin,listT,hp]
   repeat'(first|refine M.gw ?_|refine M.c2 (hN) ?_|refine M.gs ?_ ?_<;>intro h|refine M.bl ?_|fail)
   all_goals first
    |exact absurd hp' (by simpa using h)
    |skip
   (exact M.n2 [some 0] (h6:=(by(repeat'(first|exact trivial|refine And.intro ?_ ?_|refine⟨_,U,_,U,_,U,?_⟩|exact VLe.of_eq (by simp[Sto.upd,e,nT])));done)) (h8:=(by simp[tupV,V.wk,V.wks,constV,Ty.view,Tm.view,e,nT])))
 ·show AW _ _ _ (Code.seq _ _) _ _ _
  have hN:=n_c 13 [] (by simp)
  have e:d.fin (Dk.tm n) (decide (2≤n)) g unitT=(nT 13 [],d):=by simp[Dk.fin,unitT]
  repeat'(first|refine M.gw ?_|refine M.c2 (hN) ?_|refine M.bl ?_|fail)
  (exact M.n2 [some 0] (h8:=(by simp[tupV,V.wk,V.wks,constV,Ty.view,Tm.view,e,nT])))
 ·have hn0:n≠0:=fun h=>by have:=h0 h;rw[two_size] at this;omega
  have sa:=small_one ha h1
  have sb:=small_one hb h2
  have e:d.fin (Dk.tm n) (decide (2≤n)) g (twoT a b)=(nT 10 [(Dk.tm n d g a).1,(Dk.tm n (Dk.tm n d g a).2 g b).1],(Dk.tm n (Dk.tm n d g a).2 g b).2):=by simp[Dk.fin,twoT]
  have a1:=H d g a (depth-1) (by omega) hd hg sa (by omega) (fun _=>h1) (by omega)
  have a2:=H (Dk.tm n d g a).2 g b (depth-1) (by omega) (hok _ _ _ hd) hg sb (by omega) (fun _=>h2) (by omega)
  have f1:=hF (by omega) d a sa (fun _=>h1)
  have f2:=hF (by omega) (Dk.tm n d g a).2 b sb (fun _=>h2)
  have hs:=n_c 10 [(Dk.tm n d g a).1,(Dk.tm n (Dk.tm n d g a).2 g b).1] (by simp;omega)
  have l0:0<(twoT a b).args.length:=by simp[twoT]
  have l1:1<(twoT a b).args.length:=by simp[twoT]
  show AW _ _ _ (Code.seq _ _) _ _ _
  repeat'(first|refine M.gw ?_|refine M.cb (a1) [0] 0 ?_|refine M.cb (a2) [0] 0 ?_|refine M.c2 (hs) ?_|refine M.bl ?_|fail)
  (exact M.n2 [some 0] (h8:=(by simp[tupV,V.wk,V.wks,constV,Ty.view,Tm.view,e,nT])))
 ·have hn0:n≠0:=fun h=>by have:=h0 h;rw[fun_size] at this;omega
  have sa:=small_one ha h1
  have sb:=small_one hb h2
  have hga:=smalls_app hg (smalls_cons sa smalls_nil)
  have e:d.fin (Dk.tm n) (decide (2≤n)) g (funT a b)=(lmT a (Dk.tm n d (g++[a]) b).1,(Dk.tm n d (g++[a]) b).2):=by simp[Dk.fin,funT]
  have a1:=H d (g++[a]) b (depth-1) (by omega) hd hga sb (by omega) (fun _=>h2) (by simp;omega)
  have f1:=tm_full hn d hga sb (by omega) (fun _=>h2)
  have hlo:=longer_c g [a] (by simp;omega)
  have hs:=t_c 2 a [(Dk.tm n d (g++[a]) b).1] (by simp;omega) (by omega)
  have l0:0<(funT a b).args.length:=by simp[funT]
  have l1:1<(funT a b).args.length:=by simp[funT]
  show AW _ _ _ (Code.seq _ _) _ _ _
  repeat'(first|refine M.gw ?_|refine M.cb (a1) [0] 0 ?_|refine M.c2 (hlo) ?_|refine M.c2 (hs) ?_|refine M.bl ?_|fail)
  (exact M.n2 [some 0] (h8:=(by simp[tupV,V.wk,V.wks,constV,Ty.view,Tm.view,e,lmT])))
theorem numOf_full(d:Dk):(numOf (d.next 3).1).full≤6:=by
 obtain⟨m,hm,e⟩:=numOf_lt d
 rw[e,numT_full];omega
theorem smalls_sum{g:List Ty}(h:smalls g):(g.map Ty.size).sum≤3*g.length:=by
 induction g with
 |nil=>simp
 |cons t l ih=>
  have h1:=(h t (by simp)).2
  have h2:=ih fun x hx=>h x (by simp[hx])
  simp only[List.map_cons,List.sum_cons,List.length_cons];omega
theorem findF_none'{g:List Ty}{t:Ty}(h:∀j,j<g.length→isFn g t j=false):findF g t=none:=by
 simp only[findF,List.find?_eq_none,List.mem_range]
 intro j hj;simp[h j hj]
theorem findF_at{g:List Ty}{t:Ty}{m:Nat}(hm:m<g.length)(h:∀j,j<m→isFn g t j=false)(h1:isFn g t m=true):findF g t=some m:=by
 simp only[findF,List.find?_range_eq_some,List.mem_range]
 exact⟨h1,hm,fun j hj=>by simp[h j hj]⟩
theorem mid_c(n:Nat)(H:HT n)(hn:n≤7)(depth:Int)(hdep:depth=(n:Int)-1)(d:Dk)(hd:d.ok)(g:List Ty)(t:Ty)(hg:smalls g)(ht:t.small)(h0:n=0→t.size=1)(hl:g.length+3*(n+1)≤10000):
 AW E Tryz.f28.ntmps 1 (partAt [1,1,1] (bodyOf Tryz.f28)) [(0,.ptr 0 0),(1,.s .ty g),(3,.i depth),(6,.ptr 1 0),(8,.ptr 2 0)]
  ⟨3,[(0,.var d.cells),(1,.var t.view),(2,.var [.i 0,.i 0,.i 0,.slice .nil (.t .ty []),.slice .nil (.t .tm [])])]⟩
  (retQ E 1 Tryz.f28.results.toList (.agg (d.mid (Dk.tm n) (decide (2≤n)) g t).1.view) ⟨1,[(0,.var (d.mid (Dk.tm n) (decide (2≤n)) g t).2.cells)]⟩):=by
 have hok:∀d g t,d.ok→(Dk.tm n d g t).2.ok:=fun d g t h=>Dk.tm_ok n d g t h
 by_cases hp:2≤n
 case neg=>
  have hp':¬depth>0:=by omega
  have e:d.mid (Dk.tm n) (decide (2≤n)) g t=d.fin (Dk.tm n) (decide (2≤n)) g t:=by simp[Dk.mid,hp]
  show AW _ _ _ (Code.seq _ _) _ _ _
  repeat'(first|refine M.go ?_|refine M.z1 29 ?_|refine M.cs ?_ ?_<;>intro h|refine M.gk ?_|fail)
  ·exact absurd (by simpa using h) hp'
  ·rw [e];exact AW.weak (M.W [some 0,some 1,some 2]) (fin_c n H hn depth hdep d hd g t hg ht h0 hl)
 have hp':depth>0:=by omega
 have hx8:=next_c d 8 hd (by omega)
 have e:=Dk.mid_pos (rec:=Dk.tm n) (d:=d) (g:=g) (t:=t) (pos:=decide (2≤n)) (by simpa using hp)
 have hD:=Dk.next_ok hd 8
 have tp:AC E 23 [.ptr 0 0,.i 0] ⟨1,[(0,.var (d.next 8).2.cells)]⟩ (.agg ((d.next 8).2.type 0).1.view) ⟨1,[(0,.var ((d.next 8).2.type 0).2.cells)]⟩:=type_c 0 0 (d.next 8).2 (by omega) (by omega) (by omega) hD
 have hS:=Dk.type0 (d.next 8).2
 have hD1:=Dk.type_ok 0 _ hD
 generalize (d.next 8).1=kk at*
 generalize (d.next 8).2=W at*
 generalize (W.type 0).1=S at*
 generalize (W.type 0).2=D1 at*
 have hSs:=small_one hS.1 hS.2
 have hF:∀d g t,smalls g→t.small→(Dk.tm n d g t).1.full≤50000:=fun d g t hg ht=>tm_full hn d hg ht (by omega) (by omega)
 have hH:∀d g t,d.ok→smalls g→t.small→g.length+3*n≤10000→AC E 28 [.ptr 0 0,.s .ty g,.agg t.view,.i (depth-1)] ⟨1,[(0,.var d.cells)]⟩ (.agg (Dk.tm n d g t).1.view) ⟨1,[(0,.var (Dk.tm n d g t).2.cells)]⟩:=
  fun d g t h1 h2 h3 h4=>H d g t (depth-1) (by omega) h1 h2 h3 (by omega) (by omega) h4
 have hts:=ht.2
 have ht1:t.size<1000000:=by omega
 have gS:=smalls_app hg (smalls_cons hSs smalls_nil)
 have g2:=smalls_app hg (smalls_cons small_nat (smalls_cons ht smalls_nil))
 have g3:=smalls_app hg (smalls_cons small_nat (smalls_cons small_list (smalls_cons ht smalls_nil)))
 show AW _ _ _ (Code.seq _ _) _ _ _
 by_cases k0:kk=0
 ·subst k0
  simp only[if_true] at e
  have a:=hH D1 (g++[S]) t hD1 gS ht (by simp;omega)
  have b:=hH _ g S (hok _ (g++[S]) t hD1) hg hSs (by omega)
  have fa:=hF D1 (g++[S]) t gS ht
  have fb:=hF (Dk.tm n D1 (g++[S]) t).2 g S hg hSs
  have lo:=longer_c g [S] (by simp;omega)
  have c1:=t_c 2 S [(Dk.tm n D1 (g++[S]) t).1] (by simp;omega) (by omega)
  have c2:=n_c 3 [lmT S (Dk.tm n D1 (g++[S]) t).1,(Dk.tm n (Dk.tm n D1 (g++[S]) t).2 g S).1] (by simp[lmT,Tm.full,Tm.fulls];omega)
  repeat'(first|refine M.go ?_|refine M.cb (hx8) [0] 0 ?_|refine M.cb (tp) [0] 0 ?_|refine M.cb (a) [0] 0 ?_|refine M.cb (b) [0] 0 ?_|refine M.c2 (lo) ?_|refine M.c2 (c1) ?_|refine M.c2 (c2) ?_|refine M.z1 29 ?_|refine M.bl ?_|refine M.cs ?_ ?_<;>intro h|refine M.gk ?_|fail)
  ·(exact M.n2 [some 0] (h6:=(by(repeat'(first|exact trivial|refine And.intro ?_ ?_|refine⟨_,U,_,U,_,U,?_⟩|exact VLe.of_eq (by simp[Sto.upd,e,Dk.m0,apT])));done)) (h8:=(by simp[tupV,V.wk,V.wks,constV,Ty.view,Tm.view,e,Dk.m0,apT])))
  ·exact absurd hp' (by simpa using h)
 rw[if_neg k0] at e
 by_cases k1:kk=1
 ·subst k1
  rw[if_pos rfl] at e
  have a:=hH D1 g t hD1 hg ht (by omega)
  have b:=hH _ g S (hok _ g t hD1) hg hSs (by omega)
  have fa:=hF D1 g t hg ht
  have fb:=hF (Dk.tm n D1 g t).2 g S hg hSs
  have c1:=n_c 10 [(Dk.tm n D1 g t).1,(Dk.tm n (Dk.tm n D1 g t).2 g S).1] (by simp;omega)
  have c2:=n_c 11 [nT 10 [(Dk.tm n D1 g t).1,(Dk.tm n (Dk.tm n D1 g t).2 g S).1]] (by simp[nT,Tm.full,Tm.fulls,Ty.size,Ty.sizes];omega)
  repeat'(first|refine M.go ?_|refine M.cb (hx8) [0] 0 ?_|refine M.cb (tp) [0] 0 ?_|refine M.cb (a) [0] 0 ?_|refine M.cb (b) [0] 0 ?_|refine M.c2 (c1) ?_|refine M.c2 (c2) ?_|refine M.z1 29 ?_|refine M.bl ?_|refine M.cs ?_ ?_<;>intro h|refine M.gk ?_|fail)
  ·(exact M.n2 [some 0] (h6:=(by(repeat'(first|exact trivial|refine And.intro ?_ ?_|refine⟨_,U,_,U,_,U,?_⟩|exact VLe.of_eq (by simp[Sto.upd,e,Dk.m1,nT])));done)) (h8:=(by simp[tupV,V.wk,V.wks,constV,Ty.view,Tm.view,e,Dk.m1,nT])))
  ·exact absurd hp' (by simpa using h)
 rw[if_neg k1] at e
 by_cases k2:kk=2
 ·subst k2
  rw[if_pos rfl] at e
  have a:=hH W (g++[natT,t]) t hD g2 ht (by simp;omega)
  have b:=hH _ g t (hok _ (g++[natT,t]) t hD) hg ht (by omega)
  have hdb:=hok _ g t (hok _ (g++[natT,t]) t hD)
  have fa:=hF W (g++[natT,t]) t g2 ht
  have fb:=hF (Dk.tm n W (g++[natT,t]) t).2 g t hg ht
  have lo:=longer_c g [natT,t] (by simp;omega)
  have nx:=next_c _ 3 hdb (by omega)
  have nu:=num_c ((Dk.tm n (Dk.tm n W (g++[natT,t]) t).2 g t).2.next 3).1
  have fn:=numOf_full (Dk.tm n (Dk.tm n W (g++[natT,t]) t).2 g t).2
  have en:natT.size=1:=rfl
  have c1:=t_c 2 t [(Dk.tm n W (g++[natT,t]) t).1] (by simp;omega) (by omega)
  have c2:=t_c 2 natT [lmT t (Dk.tm n W (g++[natT,t]) t).1] (by simp[lmT,Tm.full,Tm.fulls];omega) (by omega)
  have c3:=t_c 6 t [(Dk.tm n (Dk.tm n W (g++[natT,t]) t).2 g t).1,lmT natT (lmT t (Dk.tm n W (g++[natT,t]) t).1),numOf ((Dk.tm n (Dk.tm n W (g++[natT,t]) t).2 g t).2.next 3).1] (by simp[lmT,Tm.full,Tm.fulls];omega) (by omega)
  repeat'(first|refine M.go ?_|refine M.c2 (nat_c) ?_|refine M.cb (hx8) [0] 0 ?_|refine M.cb (a) [0] 0 ?_|refine M.cb (b) [0] 0 ?_|refine M.c2 (lo) ?_|refine M.cb (nx) [0] 0 ?_|refine M.c2 (nu) ?_|refine M.c2 (c1) ?_|refine M.c2 (c2) ?_|refine M.c2 (c3) ?_|refine M.z1 29 ?_|refine M.bl ?_|refine M.cs ?_ ?_<;>intro h|refine M.gk ?_|fail)
  ·(exact M.n2 [some 0] (h6:=(by(repeat'(first|exact trivial|refine And.intro ?_ ?_|refine⟨_,U,_,U,_,U,?_⟩|exact VLe.of_eq (by simp[Sto.upd,e,Dk.m2,hT])));done)) (h8:=(by simp[tupV,V.wk,V.wks,constV,Ty.view,Tm.view,e,Dk.m2,hT])))
  ·exact absurd hp' (by simpa using h)
 rw[if_neg k2] at e
 by_cases k3:kk=3
 ·subst k3
  rw[if_pos rfl] at e
  have a:=hH W (g++[natT,listT,t]) t hD g3 ht (by simp;omega)
  have b:=hH _ g t (hok _ (g++[natT,listT,t]) t hD) hg ht (by omega)
  have c:=hH _ g listT (hok _ g t (hok _ (g++[natT,listT,t]) t hD)) hg small_list (by omega)
  have fa:=hF W (g++[natT,listT,t]) t g3 ht
  have fb:=hF (Dk.tm n W (g++[natT,listT,t]) t).2 g t hg ht
  have fc:=hF (Dk.tm n (Dk.tm n W (g++[natT,listT,t]) t).2 g t).2 g listT hg small_list
  have lo:=longer_c g [natT,listT,t] (by simp;omega)
  have en:natT.size=1:=rfl
  have el:listT.size=1:=rfl
  have c1:=t_c 2 t [(Dk.tm n W (g++[natT,listT,t]) t).1] (by simp;omega) (by omega)
  have c2:=t_c 2 listT [lmT t (Dk.tm n W (g++[natT,listT,t]) t).1] (by simp[lmT,Tm.full,Tm.fulls];omega) (by omega)
  have c3:=t_c 2 natT [lmT listT (lmT t (Dk.tm n W (g++[natT,listT,t]) t).1)] (by simp[lmT,Tm.full,Tm.fulls];omega) (by omega)
  have c4:=t_c 9 t [(Dk.tm n (Dk.tm n W (g++[natT,listT,t]) t).2 g t).1,lmT natT (lmT listT (lmT t (Dk.tm n W (g++[natT,listT,t]) t).1)),(Dk.tm n (Dk.tm n (Dk.tm n W (g++[natT,listT,t]) t).2 g t).2 g listT).1] (by simp[lmT,Tm.full,Tm.fulls];omega) (by omega)
  repeat'(first|refine M.go ?_|refine M.c2 (nat_c) ?_|refine M.c2 (list_c) ?_|refine M.cb (hx8) [0] 0 ?_|refine M.cb (a) [0] 0 ?_|refine M.cb (b) [0] 0 ?_|refine M.cb (c) [0] 0 ?_|refine M.c2 (lo) ?_|refine M.c2 (c1) ?_|refine M.c2 (c2) ?_|refine M.c2 (c3) ?_|refine M.c2 (c4) ?_|refine M.z1 29 ?_|refine M.bl ?_|refine M.cs ?_ ?_<;>intro h|refine M.gk ?_|fail)
  ·(exact M.n2 [some 0] (h6:=(by(repeat'(first|exact trivial|refine And.intro ?_ ?_|refine⟨_,U,_,U,_,U,?_⟩|exact VLe.of_eq (by simp[Sto.upd,e,Dk.m3,hT])));done)) (h8:=(by simp[tupV,V.wk,V.wks,constV,Ty.view,Tm.view,e,Dk.m3,hT])))
  ·exact absurd hp' (by simpa using h)
 rw[if_neg k3] at e
 by_cases k4:kk=4
 ·subst k4
  rw[if_pos rfl] at e
  have a:=hH D1 g S hD1 hg hSs (by omega)
  have b:=hH _ g t (hok _ g S hD1) hg ht (by omega)
  have fa:=hF D1 g S hg hSs
  have fb:=hF (Dk.tm n D1 g S).2 g t hg ht
  have c1:=n_c 10 [(Dk.tm n D1 g S).1,(Dk.tm n (Dk.tm n D1 g S).2 g t).1] (by simp;omega)
  have c2:=n_c 12 [nT 10 [(Dk.tm n D1 g S).1,(Dk.tm n (Dk.tm n D1 g S).2 g t).1]] (by simp[nT,Tm.full,Tm.fulls,Ty.size,Ty.sizes];omega)
  repeat'(first|refine M.go ?_|refine M.cb (hx8) [0] 0 ?_|refine M.cb (tp) [0] 0 ?_|refine M.cb (a) [0] 0 ?_|refine M.cb (b) [0] 0 ?_|refine M.c2 (c1) ?_|refine M.c2 (c2) ?_|refine M.z1 29 ?_|refine M.bl ?_|refine M.cs ?_ ?_<;>intro h|refine M.gk ?_|fail)
  ·(exact M.n2 [some 0] (h6:=(by(repeat'(first|exact trivial|refine And.intro ?_ ?_|refine⟨_,U,_,U,_,U,?_⟩|exact VLe.of_eq (by simp[Sto.upd,e,Dk.m4,nT])));done)) (h8:=(by simp[tupV,V.wk,V.wks,constV,Ty.view,Tm.view,e,Dk.m4,nT])))
  ·exact absurd hp' (by simpa using h)
 rw[if_neg k4] at e
 by_cases k5:kk=5
 ·subst k5
  rw[if_pos rfl] at e
  repeat'(first|refine M.go ?_|refine M.cb (hx8) [0] 0 ?_|refine M.z1 29 ?_|refine M.bl ?_|refine M.cs ?_ ?_<;>intro h|refine M.gk ?_|fail)
  all_goals first
   |exact absurd hp' (by simpa using h)
   |skip
  refine AW.range g.length (fun m=>∀j,j<m→isFn g t j=false)
   (fun m=>([(0,.ptr 0 0),(1,.s .ty g),(3,.i depth),(6,.ptr 1 0),(8,.ptr 2 0),(176,.i g.length),(177,.i m)],⟨3,[(0,.var W.cells),(1,.var t.view),(2,.var [.i 0,.i 0,.i 0,.slice .nil (.t .ty []),.slice .nil (.t .tm [])])]⟩))
   (by omega) (fun m=>rfl) (fun m=>rfl) rfl (by intro j hj;omega) (M.W [some 0,some 1,some 2]) ?_ ?_
  ·intro m hm hP
   have hm2:g.length-1-m<g.length:=by omega
   have hat:at0 g (g.length-1-m)=g[g.length-1-m]:=at0_lt hm2
   have hgs:(g[g.length-1-m]).small:=hg _ (List.getElem_mem hm2)
   have hstep:∀b,isFn g t m=b→b=false→∀j,j<m+1→isFn g t j=false:=fun b hb hf j hj=>by
    by_cases hjm:j=m
    ·rw [hjm,hb,hf]
    ·exact hP j (by omega)
   have hfn:isFn g t m=((g[g.length-1-m]).kind==4&&decide (at0 (g[g.length-1-m]).args 1=t)):=by simp only[isFn,hat]
   by_cases hk4:(g[g.length-1-m]).kind=4
   ·obtain ⟨p,q,hpq⟩:=Ty.args_two hgs.1 (.inr hk4)
    have l0:0<(g[g.length-1-m]).args.length:=by rw[hpq];simp
    have l1:1<(g[g.length-1-m]).args.length:=by rw[hpq];simp
    have sm:=sameTy_c _ ((g[g.length-1-m]).args[1]) t (Nat.le_refl _) (by
     have h1:=lsum_mem Ty.size (List.getElem_mem l1)
     have h2:=(g[g.length-1-m]).size_eq
     have h3:=hgs.2
     omega)
    have ha1:at0 (g[g.length-1-m]).args 1=(g[g.length-1-m]).args[1]:=at0_lt l1
    have ha0:at0 (g[g.length-1-m]).args 0=(g[g.length-1-m]).args[0]:=at0_lt l0
    rw[ha1,beq_iff_eq.2 hk4,Bool.true_and] at hfn
    have sm0:((g[g.length-1-m]).args[0]).small:=by
     have h1:=lsum_mem Ty.size (List.getElem_mem l0)
     have h2:=(g[g.length-1-m]).size_eq
     have h3:=hgs.2
     have h4:=hgs.1
     rw[Ty.shape_eq,Bool.and_eq_true] at h4
     exact⟨List.all_eq_true.1 h4.2 _ (List.getElem_mem l0),by omega⟩
    have a:=hH W g ((g[g.length-1-m]).args[0]) hD hg sm0 (by omega)
    have fa:=hF W g ((g[g.length-1-m]).args[0]) hg sm0
    have vc:=var_c m
    have c1:=n_c 3 [vT m,(Dk.tm n W g ((g[g.length-1-m]).args[0])).1] (by simp[vT,Tm.full,Tm.fulls,Ty.size,Ty.sizes];omega)
    repeat'(first|refine M.go ?_|refine M.z1 29 ?_|refine M.gk ?_|fail)
    refine L.ixt (g.length-1-m) rfl rfl rfl rfl (by omega) rfl rfl hm2 ?_
    repeat'(first|refine M.go ?_|refine M.c2 (sm) ?_|refine M.c2 (vc) ?_|refine M.cb (a) [0] 0 ?_|refine M.c2 (c1) ?_|refine M.gs ?_ ?_<;>intro h|refine M.z1 29 ?_|refine M.cs ?_ ?_<;>intro h|refine M.gk ?_|fail)
    ·have hf:isFn g t m=true:=hfn.trans h
     have e2:W.m5 (Dk.tm n) (decide (2≤n)) g t=(apT (vT m) (Dk.tm n W g ((g[g.length-1-m]).args[0])).1,(Dk.tm n W g ((g[g.length-1-m]).args[0])).2):=by unfold Dk.m5;rw[findF_at hm hP hf];simp only[hat,ha0]
     rw[e2] at e
     (exact M.n2 [some 0] (h6:=(by(repeat'(first|exact trivial|refine And.intro ?_ ?_|refine⟨_,U,_,U,_,U,?_⟩|exact VLe.of_eq (by simp[Sto.upd,e,apT,vT])));done)) (h8:=(by simp[tupV,V.wk,V.wks,constV,Ty.view,Tm.view,e,apT,vT])))
    ·exact ⟨rfl,hstep _ hfn h,(M.W [some 0,some 1,some 2])⟩
    ·exact absurd hk4 (by simpa using h)
   ·repeat' (first|refine M.go ?_|refine M.z1 29 ?_|refine M.gk ?_|fail)
    refine L.ixt (g.length-1-m) rfl rfl rfl rfl (by omega) rfl rfl hm2 ?_
    repeat'(first|refine M.go ?_|refine M.gs ?_ ?_<;>intro h|refine M.z1 29 ?_|refine M.gk ?_|fail)
    ·exact absurd (by simpa using h) hk4
    ·have hk4':((g[g.length-1-m]).kind==4)=false:=by simpa using hk4
     rw[hk4',Bool.false_and] at hfn
     exact⟨rfl,hstep _ hfn rfl,(M.W [some 0,some 1,some 2])⟩
  ·intro hP
   repeat'(first|with_reducible refine K.tN ?_|with_reducible refine K.bN ?_)
   have e2:W.m5 (Dk.tm n) (decide (2≤n)) g t=W.fin (Dk.tm n) (decide (2≤n)) g t:=by unfold Dk.m5;rw[findF_none' hP]
   rw[e,e2];exact AW.weak (M.W [some 0,some 1,some 2]) (fin_c n H hn depth hdep W hD g t hg ht h0 hl)
 rw[if_neg k5] at e
 have n0:(kk==0)=false:=by simpa using k0
 repeat'(first|refine M.go ?_|refine M.cb (hx8) [0] 0 ?_|refine M.z1 29 ?_|refine M.bl ?_|refine M.cs ?_ ?_<;>intro h|refine M.gk ?_|fail)
 all_goals first
  |exact absurd hp' (by simpa using h)
  |exact absurd (by simpa using h) k0
  |exact absurd (by simpa using h) k1
  |exact absurd (by simpa using h) k2
  |exact absurd (by simpa using h) k3
  |exact absurd (by simpa using h) k4
  |exact absurd (by simpa using h) k5
  |(rw[e];exact AW.weak (M.W [some 0,some 1,some 2]) (fin_c n H hn depth hdep W hD g t hg ht h0 hl))
theorem gen_c(n:Nat)(H:HT n)(hn:n≤7)(depth:Int)(hdep:depth=(n:Int)-1)(d:Dk)(hd:d.ok)(g:List Ty)(t:Ty)(hg:smalls g)(ht:t.small)(h0:n=0→t.size=1)(hl:g.length+3*(n+1)≤10000):
 AC E 28 [.ptr 0 0,.s .ty g,.agg t.view,.i depth] ⟨1,[(0,.var d.cells)]⟩ (.agg (d.gen (Dk.tm n) (decide (2≤n)) g t).1.view) ⟨1,[(0,.var (d.gen (Dk.tm n) (decide (2≤n)) g t).2.cells)]⟩:=by
 have hsum:=smalls_sum hg
 have hvl:(varsT g t).length≤g.length:=by
  simp only[varsT,List.length_map]
  have:=List.length_filter_le (fun i=>decide (g[g.length-1-i]? =some t)) (List.range g.length)
  simpa using this
 have hv:=vars_c g t (by omega)
 have hx3:=next_c d 3 hd (by omega)
 have hd3:=Dk.next_ok hd 3
 have hxl:=next_c (d.next 3).2 (varsT g t).length hd3 (by omega)
 have m1:=mid_c n H hn depth hdep d hd g t hg ht h0 hl
 have m2:=mid_c n H hn depth hdep (d.next 3).2 hd3 g t hg ht h0 hl
 have hvar:=var_c
 by_cases he:varsT g t=[]
 ·have e:d.gen (Dk.tm n) (decide (2≤n)) g t=d.mid (Dk.tm n) (decide (2≤n)) g t:=by unfold Dk.gen;rw[if_pos he]
  have hl0:¬(((varsT g t).length:Int)>0):=by rw[he];simp
  refine M.F Tryz.func28 ?_
  repeat'(first|refine M.go ?_|refine M.c2 (hv) ?_|refine M.cb (hx3) [0] 0 ?_|refine M.gs ?_ ?_<;>intro h|refine M.z1 4 ?_|refine M.cs ?_ ?_<;>intro h|refine M.gk ?_|fail)
  ·rename_i h1;exact absurd (by simpa using h1) hl0
  ·rename_i h1;exact absurd (by simpa using h1) hl0
  ·rw [e];exact AW.weak (M.W [some 0,some 1,some 2]) m1
 ·have e:d.gen (Dk.tm n) (decide (2≤n)) g t=if 0<(d.next 3).1 then(vT ((varsT g t).getD ((d.next 3).2.next (varsT g t).length).1.toNat 0),((d.next 3).2.next (varsT g t).length).2) else(d.next 3).2.mid (Dk.tm n) (decide (2≤n)) g t:=by unfold Dk.gen;rw[if_neg he]
  have hlp:0<(varsT g t).length:=List.length_pos_iff.2 he
  have hl0:((varsT g t).length:Int)>0:=by omega
  have hbl:=Dk.next_bd (d.next 3).2 (varsT g t).length hl0
  have hlt:((d.next 3).2.next (varsT g t).length).1.toNat<(varsT g t).length:=by omega
  refine M.F Tryz.func28 ?_
  repeat'(first|refine M.go ?_|refine M.c2 (hv) ?_|refine M.cb (hx3) [0] 0 ?_|refine M.cb (hxl) [0] 0 ?_|refine M.gs ?_ ?_<;>intro h|refine M.z1 4 ?_|refine M.cs ?_ ?_<;>intro h|refine M.gk ?_|fail)
  ·refine L.ixt ((d.next 3).2.next (varsT g t).length).1.toNat rfl rfl rfl rfl (by omega) rfl rfl hlt ?_
   have eg:(varsT g t).getD ((d.next 3).2.next (varsT g t).length).1.toNat 0=(varsT g t)[((d.next 3).2.next (varsT g t).length).1.toNat]:=by simp[List.getD_eq_getElem?_getD,hlt]
   rw[if_pos (by simpa using h),eg] at e
   repeat'(first|refine M.gw ?_|refine M.c2 (hvar _) ?_|fail)
   (exact M.n2 [some 0] (h6:=(by(repeat'(first|exact trivial|refine And.intro ?_ ?_|refine⟨_,U,_,U,_,U,?_⟩|exact VLe.of_eq (by simp[Sto.upd,e,vT])));done)) (h8:=(by simp[tupV,V.wk,V.wks,constV,Ty.view,Tm.view,e,vT])))
  ·rw [e,if_neg (by simpa using h)];exact AW.weak (M.W [some 0,some 1,some 2]) m2
  ·exact absurd hl0 (by simpa using h)
theorem term_c:∀n,n≤8→HT n
 |0,_=>fun d g t k _ _ _ _ h=>by omega
 |n+1,hn=>fun d g t k hk hd hg ht _ h1 hl=>gen_c n (term_c n (by omega)) (by omega) k (by omega) d hd g t hg ht (by omega) hl
end Go.Ab
