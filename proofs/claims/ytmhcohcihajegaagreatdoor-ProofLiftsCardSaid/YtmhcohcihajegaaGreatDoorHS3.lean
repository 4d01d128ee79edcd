/- A part of this seat's proofs. No conditions. -/
import Derived.Test.YtmhcohcihajegaaGreatDoorHS1
namespace Go.Ab
open Go Go.Proofs
set_option maxRecDepth 100000
set_option maxHeartbeats 2000000
set_option linter.all false
theorem Zys{x:Ty}(h:x.err=0)(hk:x.kind=1):x=natT:=(Ty.eq_iff _ _).2 ⟨hk,Zcq ((Ty.err_iff x).1 h).1 (by omega)⟩
theorem Zzc{x:Ty}(h:x.err=0)(hk:x.kind=2):x=listT:=(Ty.eq_iff _ _).2 ⟨hk,Zcq ((Ty.err_iff x).1 h).1 (by omega)⟩
end Go.Ab
namespace Go.Ab
open Go Go.Proofs
set_option maxRecDepth 100000
set_option linter.all false
theorem Zxa:∀(b:Nat) (t:Ty),t.size<=b->b<1099511627776->PC E 186 [.agg t.view] (.bool t.shape):=by
 intro b;induction b with
 |zero=>intro t h;have:=t.size_pos;omega
 |succ b ih=>
 intro t hsz hb;have hsz':=Ty.size_eq t;have hlen:=zg Ty.size Ty.size_pos t.args;have hsh:=Ty.shape_eq t;refine M.F Tryz.func186 ?_;refine M.w0 ?_;refine AW.cutT (ι:={n:Nat // arT t.kind=some n}) (fun n=>([(1,.ptr 0 0),(3,.i n.1)],⟨1,[(0,.var t.view)]⟩)) ?_ ?_
 ·refine AW.block ?_;(repeat' first|refine M.w0 ?_|refine M.cs ?_ ?_<;>intro h|fail)
  ·exact ⟨⟨0,by simp at h;simp[arT,h]⟩,(M.W rh1)⟩
  ·exact ⟨⟨0,by simp at h;simp[arT,h]⟩,(M.W rh1)⟩
  ·exact ⟨⟨0,by simp at h;simp[arT,h]⟩,(M.W rh1)⟩
  ·exact ⟨⟨2,by simp at h;simp[arT,h]⟩,(M.W rh1)⟩
  ·exact ⟨⟨2,by simp at h;simp[arT,h]⟩,(M.W rh1)⟩
  ·have:t.shape=false:=by simp at*;simp[hsh,arT, *]
   simp[this,zn,za,V.wk,V.wks]
 rintro⟨n,hn⟩;(repeat' first|refine M.w0 ?_|refine M.cs ?_ ?_<;>intro h|fail)
 ·have h1:¬t.args.length=n:=by simp at h;omega
  have:t.shape=false:=by simp[hsh,hn,h1]
  simp[this,zn,za,V.wk,V.wks]
 have hn':t.args.length=n:=by simp at h;omega
 refine M.rp t.args.length (fun m=>∀j (hj:j<t.args.length),j<m->(t.args[j]).shape=true)
  (fun m=>([(1,.ptr 0 0),(21,.s .ty t.args),(22,.i t.args.length),(23,.i m)],⟨1,[(0,.var t.view)]⟩))
  (by intro j hj h;omega) (M.W rh1) ?_ ?_
 ·intro m hm hP;have hs2:=zc Ty.size (List.getElem_mem hm);(repeat' first|refine M.w0 ?_|refine M.c2 (ih _ ?_ ?_) ?_|refine M.cs ?_ ?_<;>intro h|exact M.le|exact M.lt|fail)
  ·have h1:(t.args[m]).shape=false:=by simpa using h
   have:t.shape=false:=by rw[hsh,ul Ty.shape hm h1,Bool.and_false]
   simp[this,zn,za,V.wk,V.wks]
  ·have hh:(t.args[m]).shape=true:=by simpa using h
   exact⟨rfl,yj (p:=fun t=>Ty.shape t=true) hm hP hh,(M.W rh1)⟩
 ·intro hP;have:t.shape=true:=by simp only[hsh,hn,hn',Zbu Ty.shape t.args fun j hj=>hP j hj hj];simp
  refine M.w0 ?_;simp[this,zn,za,V.wk,V.wks]
theorem Ya7:∀(b:Nat) (t:Ty),t.size<=b->b<1099511627776->PC E 187 [.agg t.view] (.i t.size):=by
 intro b;induction b with
 |zero=>intro t h;have:=t.size_pos;omega
 |succ b ih=>
 intro t hsz hb;have hsz':=Ty.size_eq t;have hlen:=zg Ty.size Ty.size_pos t.args;refine M.F Tryz.func187 ?_;refine M.w0 ?_;refine M.rt t.args.length
  (fun m=>([(3,.i (1+((t.args.take m).map Ty.size).sum)),(7,.s .ty t.args),(8,.i t.args.length),(9,.i m)],⟨1,[(0,.var t.view)]⟩))
  (M.W rh1) ?_ ?_
 ·intro m hm hP;have hs1:=xd Ty.size t.args m hm;have hs2:=zc Ty.size (List.getElem_mem hm);have hs3:=ya Ty.size t.args (m+1);have e:(1+((((t.args.take (m+1)).map Ty.size).sum:Nat):Int))=1+(((t.args.take m).map Ty.size).sum:Nat)+t.args[m].size:=by rw[hs1];omega
  (repeat' first|refine M.w0 ?_|refine M.c2 (ih _ ?_ ?_) ?_|exact M.le|exact M.lt|fail);refine⟨rfl,trivial,?_⟩;simp only[e];exact(M.W rh1)
 ·intro hP;refine M.w0 ?_;simp[zn,za,hsz',V.wk,V.wks]
theorem Zbf(t:Ty)(ht:t.size<1099511627776):PC E 144 [.agg t.view] (.i t.err):=by
 have h1:=Zxa _ t (Nat.le_refl _) ht;have h2:=Ya7 _ t (Nat.le_refl _) ht;refine M.F Tryz.func144 ?_;(repeat' first|refine M.w2 @h1 @h2 ?_|refine M.cs ?_ ?_<;>intro h|fail);all_goals simp_all[zn,V.wk,V.wks,za,Ty.err]
 all_goals(first|omega|(split<;>first|omega|simp_all))
theorem Zme(t:Ty):PC E 146 [.agg t.view] (.bool t.isNo):=by
 refine M.F Tryz.func146 ?_;(repeat' first|refine M.w0 ?_|refine M.gs ?_ ?_<;>intro h|fail);all_goals simp_all[zn,V.wk,V.wks,za,Ty.isNo]
 rw[Bool.eq_iff_iff];simp
theorem Ye0(t:Ty)(ht:t.size<1099511627776):PC E 266 [.agg t.view] (.tup [.agg (if t.err=0 then t else noTy).view,.i (if t.err=0 then 0 else 4)]):=by
 have h1:=Zbf t ht;refine M.F Tryz.func266 ?_;(repeat' first|refine M.w1 @h1 ?_|refine M.cs ?_ ?_<;>intro h|fail);all_goals simp_all[zn,V.wk,V.wks,za,noTy,Ty.view]
theorem Yld(k:Int):PC E 188 [.i k] (.i (Zzl k)):=by
 refine M.F Tryz.func188 ?_;(repeat' first|refine M.v0 ?_|refine M.cs ?_ ?_<;>intro h|fail);all_goals
  simp only[beq_iff_eq,beq_eq_false_iff_ne,ne_eq] at*;simp[zn,V.wk,V.wks,za,Zzl, *]
theorem y7:∀(b:Nat) (t:Tm),t.full<=b->b<1099511627776->PC E 171 [.agg t.view] (.i t.size):=by
 intro b;induction b with
 |zero=>intro t h;have:=t.full_pos;omega
 |succ b ih=>
 intro t hsz hb;have hsz':=Tm.full_eq t;have hszz:=Tm.size_eq t;have hle:=Tm.size_le_full t;have hlen:=zg Tm.full Tm.full_pos t.args;refine M.F Tryz.func171 ?_;refine M.w0 ?_;refine M.rt t.args.length
  (fun m=>([(3,.i (1+((t.args.take m).map Tm.size).sum)),(7,.s .tm t.args),(8,.i t.args.length),(9,.i m)],⟨1,[(0,.var t.view)]⟩))
  (M.W rh1) ?_ ?_
 ·intro m hm hP;have hs1:=xd Tm.size t.args m hm;have hs2:=zc Tm.full (List.getElem_mem hm);have hs3:=ya Tm.size t.args (m+1);have e:(1+((((t.args.take (m+1)).map Tm.size).sum:Nat):Int))=1+(((t.args.take m).map Tm.size).sum:Nat)+t.args[m].size:=by rw[hs1];omega
  (repeat' first|refine M.w0 ?_|refine M.c2 (ih _ ?_ ?_) ?_|exact M.le|exact M.lt|fail);refine⟨rfl,trivial,?_⟩;simp only[e];exact(M.W rh1)
 ·intro hP;refine M.w0 ?_;simp[zn,za,hszz,V.wk,V.wks]
end Go.Ab
namespace Go.Ab
open Go Go.Proofs
set_option maxRecDepth 100000
set_option maxHeartbeats 4000000
set_option linter.all false
theorem Ymo(n k:Int)(hk:0<k/\k<1099511627776):PC E 38 [.i n,.i k] (.i (Yir n k)):=by
 have hb1:=Int.tmod_lt_of_pos n hk.1;have hb2:=Zxh n k hk.1;refine M.F Tryz.func38 ?_;refine M.w0 ?_
 rfl
theorem Za2(d:Dk)(n:Int)(hd:d.ok)(hn:n<1099511627776):AC E 12 [.ptr 0 0,.i n] ⟨1,[(0,.var d.cells)]⟩ (.i (d.next n).1) ⟨1,[(0,.var (d.next n).2.cells)]⟩:=by
 obtain⟨hd1,hd2⟩:=hd;have hm:¬n<1->∀x,PC E 38 [.i x,.i n] (.i (Yir x n)):=fun h x=>Ymo x n ⟨by omega,hn⟩;refine M.F Tryz.func12 ?_;(repeat' first|refine M.w0 ?_|refine M.c2 (hm (by simp_all) _) ?_|refine M.gs ?_ ?_<;>intro h|refine M.cs ?_ ?_<;>intro h|fail)
 ·have h':n<1:=by simpa using h
  have e:d.next n=(0,d):=dif_pos (.inl h')
  (exact M.n2 rh1 (h6:=(by(repeat'(first|exact trivial|refine And.intro ?_ ?_|refine⟨_,U,_,U,_,U,?_⟩|exact VLe.of_eq (by simp[Sto.upd,e,Dk.cells])));done)) (h8:=(by simp[zn,V.wk,V.wks,za,Ty.view,Tm.view,e,Dk.cells])))
 ·have h':d.l.length<=d.at_:=by simp at h;omega
  have e:d.next n=(0,d):=dif_pos (.inr h')
  (exact M.n2 rh1 (h6:=(by(repeat'(first|exact trivial|refine And.intro ?_ ?_|refine⟨_,U,_,U,_,U,?_⟩|exact VLe.of_eq (by simp[Sto.upd,e,Dk.cells])));done)) (h8:=(by simp[zn,V.wk,V.wks,za,Ty.view,Tm.view,e,Dk.cells])))
 ·rename_i h0;have h':¬(n<1\/d.l.length<=d.at_):=by simp at h h0;omega
  have e:d.next n=(Yir (d.l[d.at_]'(by omega)) n,⟨d.l,d.at_+1⟩):=dif_neg h'
  (exact M.n2 rh1 (h6:=(by(repeat'(first|exact trivial|refine And.intro ?_ ?_|refine⟨_,U,_,U,_,U,?_⟩|exact VLe.of_eq (by simp[Sto.upd,e,Dk.cells])));done)) (h8:=(by simp[zn,V.wk,V.wks,za,Ty.view,Tm.view,e,Dk.cells])))
theorem Yjz(l:List Int):PC E 7 [.s .int l] (.bool (decide (l.length<=500))):=by
 refine M.F Tryz.func7 ?_;refine M.w0 ?_;simp[zn,V.wk,V.wks];omega
theorem Yki(l:List Int):AC E 8 [.s .int l] ⟨0,[]⟩ (.ptr 0 0) ⟨1,[(0,.var (Dk.mk l 0).cells)]⟩:=by
 refine M.F Tryz.func8 ?_;refine M.w0 ?_
 (exact M.n2 rh1 (h8:=(by simp[zn,V.wk,V.wks,za,Ty.view,Tm.view,Dk.cells])))
end Go.Ab
namespace Go.Ab
open Go Go.Proofs
set_option maxRecDepth 100000
set_option linter.all false
theorem wh:∀(n:Nat) (x y:Ty),x.size<=n->n<1099511627776->PC E 47 [.agg x.view,.agg y.view] (.bool (decide (x=y))):=by
 intro n;induction n with
 |zero=>intro x y h;have:=x.size_pos;omega
 |succ n ih=>
 intro x y hsz hb;have hsz':=Ty.size_eq x;have hlen:=zg Ty.size Ty.size_pos x.args;have heq:=Ty.eq_iff x y;refine M.F Tryz.func47 ?_;(repeat' first|refine M.w0 ?_|refine M.gs ?_ ?_<;>intro h|refine M.cs ?_ ?_<;>intro h|fail)
 ·have:¬x=y:=by rw[heq];simp_all
  simp[this,zn,za,V.wk,V.wks]
 ·have:¬x=y:=by rintro rfl;simp at h
  simp[this,zn,za,V.wk,V.wks]
 ·rename_i hk;simp at h hk;have hl:x.args.length=y.args.length:=by omega
  refine M.rp x.args.length (fun m=>∀j (hj:j<x.args.length),j<m->x.args[j]=y.args[j]'(by omega))
   (fun m=>([(2,.ptr 0 0),(3,.ptr 1 0),(22,.i x.args.length),(23,.i m)],⟨2,[(0,.var x.view),(1,.var y.view)]⟩))
   (by intro j hj h;omega) (M.W rh2) ?_ ?_
  ·intro m hm hP;have hm':m<y.args.length:=by omega
   have hs2:=zc Ty.size (List.getElem_mem hm);(repeat' first|refine M.w0 ?_|refine M.c2 (ih _ _ ?_ ?_) ?_|refine M.cs ?_ ?_<;>intro h|exact M.le|exact M.lt|fail)
   ·have:¬x=y:=by rw[heq];exact fun hc=>Yae hm hm' (by simpa using h) hc.2
    simp[this,zn,za,V.wk,V.wks]
   ·exact ⟨rfl,Yj4 hl hm hP (by simpa using h),(M.W rh2)⟩
  ·intro hP;have:x=y:=heq.2 ⟨hk,Zwj hl hP⟩;refine M.w0 ?_;simp[this,zn,za,V.wk,V.wks]
theorem Zm3:∀(n:Nat) (x y:Tm),x.full<=n->n<1099511627776->PC E 109 [.agg x.view,.agg y.view] (.bool (decide (x=y))):=by
 intro n;induction n with
 |zero=>intro x y h;have:=x.full_pos;omega
 |succ n ih=>
 intro x y hsz hb;have hsz':=Tm.full_eq x;have hlen:=zg Tm.full Tm.full_pos x.args;have heq:=Tm.eq_iff x y;have hty:=wh _ x.ty y.ty (Nat.le_refl _) (by omega);refine M.F Tryz.func109 ?_;(repeat' first|refine M.w1 @hty ?_|refine M.gs ?_ ?_<;>intro h|refine M.cs ?_ ?_<;>intro h|fail)
 ·have:¬x=y:=by rw[heq];simp_all
  simp[this,zn,za,V.wk,V.wks]
 ·have:¬x=y:=by rw[heq];simp_all
  simp[this,zn,za,V.wk,V.wks]
 ·have:¬x=y:=by rw[heq];simp_all
  simp[this,zn,za,V.wk,V.wks]
 ·have:¬x=y:=by rintro rfl;simp at h
  simp[this,zn,za,V.wk,V.wks]
 ·rename_i h1 h2 h3;simp at h h1 h2 h3;have hl:x.args.length=y.args.length:=by omega
  refine M.rp x.args.length (fun m=>∀j (hj:j<x.args.length),j<m->x.args[j]=y.args[j]'(by omega))
   (fun m=>([(2,.ptr 0 0),(3,.ptr 1 0),(37,.i x.args.length),(38,.i m)],⟨2,[(0,.var x.view),(1,.var y.view)]⟩))
   (by intro j hj h;omega) (M.W rh2) ?_ ?_
  ·intro m hm hP;have hm':m<y.args.length:=by omega
   have hs2:=zc Tm.full (List.getElem_mem hm);(repeat' first|refine M.w0 ?_|refine M.c2 (ih _ _ ?_ ?_) ?_|refine M.cs ?_ ?_<;>intro h|exact M.le|exact M.lt|fail)
   ·have:¬x=y:=by rw[heq];exact fun hc=>Yae hm hm' (by simpa using h) hc.2.2.2
    simp[this,zn,za,V.wk,V.wks]
   ·exact ⟨rfl,Yj4 hl hm hP (by simpa using h),(M.W rh2)⟩
  ·intro hP;have:x=y:=heq.2 ⟨h1,h2,h3,Zwj hl hP⟩;refine M.w0 ?_;simp[this,zn,za,V.wk,V.wks]
end Go.Ab
