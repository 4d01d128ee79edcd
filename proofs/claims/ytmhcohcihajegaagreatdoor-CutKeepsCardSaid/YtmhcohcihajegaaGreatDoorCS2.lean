/- A part of this seat's proofs. No conditions. -/
import Derived.Test.YtmhcohcihajegaaGreatDoorCS1
namespace Go.Ab
open Go Go.Proofs
set_option maxRecDepth 100000
set_option maxHeartbeats 4000000
set_option linter.all false
theorem Ysj(n k:Int)(hk:0<k/\k<1099511627776):PC E 38 [.i n,.i k] (.i (MS n k)):=by
 have hb1:=Int.tmod_lt_of_pos n hk.1;have hb2:=YL n k hk.1;refine M.F Tryz.func38 ?_;refine M.w0 ?_
 rfl
theorem FX(d:Dk)(n:Int)(hd:d.ok)(hn:n<1099511627776):AC E 12 [.ptr 0 0,.i n] ⟨1,[(0,.var d.cells)]⟩ (.i (d.next n).1) ⟨1,[(0,.var (d.next n).2.cells)]⟩:=by
 obtain⟨hd1,hd2⟩:=hd;have hm:¬n<1->∀x,PC E 38 [.i x,.i n] (.i (MS x n)):=fun h x=>Ysj x n ⟨kn,hn⟩;refine M.F Tryz.func12 ?_;(repeat' first|refine M.w0 ?_|refine M.c2 (hm kP _) ?_|refine M.gs ?_ ?_<;>intro h|refine M.cs ?_ ?_<;>intro h|fail)
 .have h':n<1:=ku
  have e:d.next n=(0,d):=dif_pos (.inl h')
  (exact M.n2 AJ (h6:=(by(repeat'(first|exact trivial|refine And.intro ?_ ?_|refine⟨_,U,_,U,_,U,?_⟩|exact Ap.of_eq oa));done)) (h8:=nJ))
 .have h':d.l.length<=d.at_:=kS
  have e:d.next n=(0,d):=dif_pos (.inr h')
  (exact M.n2 AJ (h6:=(by(repeat'(first|exact trivial|refine And.intro ?_ ?_|refine⟨_,U,_,U,_,U,?_⟩|exact Ap.of_eq oa));done)) (h8:=nJ))
 .rename_i h0;have h':¬(n<1\/d.l.length<=d.at_):=by simp at h h0;omega
  have e:d.next n=(MS (d.l[d.at_]' kn) n,⟨d.l,d.at_+1⟩):=dif_neg h'
  (exact M.n2 AJ (h6:=(by(repeat'(first|exact trivial|refine And.intro ?_ ?_|refine⟨_,U,_,U,_,U,?_⟩|exact Ap.of_eq oa));done)) (h8:=nJ))
theorem Ysy(l:List Int):PC E 7 [.s .int l] (.bool (decide (l.length<=500))):=by
 refine M.F Tryz.func7 ?_;refine M.w0 ?_;simp[zn,V.wk,V.Ar];omega
theorem Ytc(l:List Int):AC E 8 [.s .int l] ⟨0,[]⟩ (.ptr 0 0) ⟨1,[(0,.var (Dk.mk l 0).cells)]⟩:=by
 refine M.F Tryz.func8 ?_;refine M.w0 ?_
 (exact M.n2 AJ (h8:=(by simp[zn,V.wk,V.Ar,za,Ty.view,Tm.view,Dk.cells])))
end Go.Ab
namespace Go.Ab
open Go Go.Proofs
set_option maxRecDepth 100000
set_option linter.all false
theorem Ybi:∀(b:Nat) (t:Ty),t.size<=b->b<1099511627776->PC E 186 [.agg t.view] (.bool t.shape):=by
 intro b;induction b with
 |zero=>intro t h;have:=t.size_pos;omega
 |succ b ih=>
 intro t hsz hb;have hsz':=Ty.size_eq t;have hlen:=ze Ty.size Ty.size_pos t.args;have hsh:=Ty.Ak t;refine M.F Tryz.func186 ?_;refine M.w0 ?_;refine AW.OJ (ι:={n:Nat // Ey t.kind=some n}) (fun n=>([(1,.ptr 0 0),(3,.i n.1)],⟨1,[(0,.var t.view)]⟩)) ?_ ?_
 .refine AW.block ?_;(repeat' first|refine M.w0 ?_|refine M.cs ?_ ?_<;>intro h|fail)
  .exact rE
  .exact rE
  .exact rE
  .exact sO
  .exact sO
  .have:t.shape=false:=by simp at*;simp[hsh,Ey, *]
   simp[this,zn,za,V.wk,V.Ar]
 rintro⟨n,hn⟩;(repeat' first|refine M.w0 ?_|refine M.cs ?_ ?_<;>intro h|fail)
 .have h1:¬t.args.length=n:=kS
  have:t.shape=false:=by simp[hsh,hn,h1]
  simp[this,zn,za,V.wk,V.Ar]
 have hn':t.args.length=n:=kS
 refine M.rp t.args.length (fun m=>∀j (hj:j<t.args.length),j<m->(t.args[j]).shape=true)
  (fun m=>([(1,.ptr 0 0),(21,.s .ty t.args),(22,.i t.args.length),(23,.i m)],⟨1,[(0,.var t.view)]⟩))
  lI (M.W AJ) ?_ ?_
 .intro m hm hP;have hs2:=zc Ty.size (fA hm);(repeat' first|refine M.w0 ?_|refine M.c2 (ih _ ?_ ?_) ?_|refine M.cs ?_ ?_<;>intro h|exact M.le|exact M.lt|fail)
  .have h1:(t.args[m]).shape=false:=ku
   have:t.shape=false:=by rw[hsh,u2 Ty.shape hm h1,jF]
   simp[this,zn,za,V.wk,V.Ar]
  .have hh:(t.args[m]).shape=true:=ku
   exact⟨rfl,ym (p:=fun t=>Ty.shape t=true) hm hP hh,(M.W AJ)⟩
 .intro hP;have:t.shape=true:=oG
  refine M.w0 ?_;simp[this,zn,za,V.wk,V.Ar]
theorem Yhs:∀(b:Nat) (t:Ty),t.size<=b->b<1099511627776->PC E 187 [.agg t.view] (.i t.size):=by
 intro b;induction b with
 |zero=>intro t h;have:=t.size_pos;omega
 |succ b ih=>
 intro t hsz hb;have hsz':=Ty.size_eq t;have hlen:=ze Ty.size Ty.size_pos t.args;refine M.F Tryz.func187 ?_;refine M.w0 ?_;refine M.rt t.args.length
  (fun m=>([(3,.i (1+((t.args.take m).map Ty.size).sum)),(7,.s .ty t.args),(8,.i t.args.length),(9,.i m)],⟨1,[(0,.var t.view)]⟩))
  (M.W AJ) ?_ ?_
 .intro m hm hP;have hs1:=yz Ty.size t.args m hm;have hs2:=zc Ty.size (fA hm);have hs3:=zw Ty.size t.args (m+1);have e:(1+((((t.args.take (m+1)).map Ty.size).sum:Nat):Int))=1+(((t.args.take m).map Ty.size).sum:Nat)+t.args[m].size:=by rw[hs1];omega
  (repeat' first|refine M.w0 ?_|refine M.c2 (ih _ ?_ ?_) ?_|exact M.le|exact M.lt|fail);refine⟨rfl,trivial,?_⟩;simp only[e];exact(M.W AJ)
 .intro hP;refine M.w0 ?_;simp[zn,za,hsz',V.wk,V.Ar]
theorem Nf(t:Ty)(ht:t.size<1099511627776):PC E 144 [.agg t.view] (.i t.err):=by
 have h1:=Ybi _ t (fB _) ht;have h2:=Yhs _ t (fB _) ht;refine M.F Tryz.func144 ?_;(repeat' first|refine M.w2 @h1 @h2 ?_|refine M.cs ?_ ?_<;>intro h|fail);all_goals simp_all[zn,V.wk,V.Ar,za,Ty.err]
 all_goals(first|omega|(split<;>first|omega|simp_all))
theorem Wa(t:Ty):PC E 146 [.agg t.view] (.bool t.Bv):=by
 refine M.F Tryz.func146 ?_;(repeat' first|refine M.w0 ?_|refine M.gs ?_ ?_<;>intro h|fail);all_goals simp_all[zn,V.wk,V.Ar,za,Ty.Bv]
 rw[ig];simp
theorem Yh(t:Ty)(ht:t.size<1099511627776):PC E 266 [.agg t.view] (.AP [.agg (if t.err=0 then t else BH).view,.i (if t.err=0 then 0 else 4)]):=by
 have h1:=Nf t ht;refine M.F Tryz.func266 ?_;(repeat' first|refine M.w1 @h1 ?_|refine M.cs ?_ ?_<;>intro h|fail);all_goals simp_all[zn,V.wk,V.Ar,za,BH,Ty.view]
def FO(b:Bool)(l:List (Int×Int)):Bool:=b&&l.all fun p=>decide (p.1<=536870912)
theorem Zq0(b:Bool)(l l':List (Int×Int)):FO (FO b l) l'=FO b (l++l'):=by simp[FO,Bool.and_assoc]
theorem cZ(b:Bool):FO b []=b:=by simp[FO]
theorem Yoy(b:Bool)(i bl:Int):AC E 177 [.i i,.i bl,.ptr 0 0] ⟨1,[(0,.var [.bool b])]⟩ (.AP []) ⟨1,[(0,.var [.bool (FO b [(i,bl)])])]⟩:=by
 refine M.F Tryz.func177 ?_;(repeat' first|refine M.w0 ?_|refine M.gs ?_ ?_<;>intro h|fail)
 ·exact qO
 ·exact qO
theorem Yed:∀(n:Nat) (t:Tm) (b:Bool) (bl:Int),t.full<=n->n<1099511627776->0<=bl->bl+n<1099511627776->AC E 129 [.agg t.view,.i bl,.ptr 0 0,.ptr 1 0] ⟨3,[(0,.var [.fn (.func 177) [] [.ptr 2 0]]),(1,.var [.fn (.func 129) [] [.ptr 0 0,.ptr 1 0]]),(2,.var [.bool b])]⟩ (.AP [])
 ⟨3,[(0,.var [.fn (.func 177) [] [.ptr 2 0]]),(1,.var [.fn (.func 129) [] [.ptr 0 0,.ptr 1 0]]),(2,.var [.bool (FO b (t.vars bl))])]⟩:=by
 intro n;induction n with
 |zero=>intro t b bl h;have:=t.Ad;omega
 |succ n ih=>
 intro t b bl hsz hb hbl hbn;have hsz':=Tm.Ag t;have hlen:=ze Tm.full Tm.Ad t.args;have hv:=Tm.AY bl t;refine M.F Tryz.func129 ?_;(repeat' first|refine M.w0 ?_|refine M.cv (Yoy _ _ _) [2] 0 ?_|refine M.cs ?_ ?_<;>intro h|fail);all_goals
  have hup:up t.kind bl<=bl+1:=kU
  have hup0:0<=up t.kind bl:=kU
  refine M.rt t.args.length
   (fun m=>([(1,.i (up t.kind bl)),(3,.ptr 1 0),(22,.s .tm t.args),(23,.i t.args.length),(24,.i m)],⟨4,[(0,.var [.fn (.func 177) [] [.ptr 2 0]]),(1,.var [.fn (.func 129) [] [.ptr 0 0,.ptr 1 0]]),(2,.var [.bool (FO b ((if t.kind=1 then [(t.index,bl)] else [])++(t.args.take m).flatMap (Tm.vars (up t.kind bl))))]),(3,.var t.view)]⟩))
   ?_ ?_ ?_
  .simp_all only[beq_iff_eq,beq_eq_false_iff_ne,ne_eq];exact(M.W D9 (hf:=(by(repeat'(first|exact trivial|refine And.intro ?_ ?_|refine⟨_,U,_,U,?_⟩|exact Ap.refl _|exact Ap.of_eq (by simp[Ao.AH,up, *,cZ])));done)) (he:=(by(repeat'(first|exact trivial|refine And.intro ?_ ?_|refine⟨_,U,_,U,_,U,?_⟩|exact Ap.refl _|exact Ap.of_eq (by simp[Ao.AH,up, *,cZ])));done)))
  .intro m hm hP;have hs2:=zc Tm.full (fA hm);have hc:=ih t.args[m] (FO b ((if t.kind=1 then [(t.index,bl)] else [])++(t.args.take m).flatMap (Tm.vars (up t.kind bl)))) (up t.kind bl) kn kn hup0 kn;(repeat' first|refine M.w0 ?_|refine M.cv (hc) [0,1,2] 0 ?_|fail);refine⟨rfl,trivial,?_⟩;exact(M.W D9 (he:=(by(repeat'(first|exact trivial|refine And.intro ?_ ?_|refine⟨_,U,_,U,_,U,?_⟩|exact Ap.refl _|exact Ap.of_eq (by simp[Ao.AH,Zq0,M6 _ _ _ hm])));done)))
  .intro hP;skip
   (exact M.n2 F8 (h6:=(by(repeat'(first|exact trivial|refine And.intro ?_ ?_|refine⟨_,U,_,U,_,U,?_⟩|exact Ap.refl _|exact Ap.of_eq (by simp[Ao.AH,hv])));done)) (h8:=pJ))
theorem Yg9(t:Tm)(b:Bool)(ht:t.full<1099511627776):AC E 81 [.agg t.view,.fn (.func 177) [] [.ptr 0 0]] ⟨1,[(0,.var [.bool b])]⟩ (.AP []) ⟨1,[(0,.var [.bool (FO b (t.vars 0))])]⟩:=by
 have hc:=Yed _ t b 0 (fB _) kn kn kn;refine M.F Tryz.func81 ?_;(repeat' first|refine M.w0 ?_|refine M.cv (hc) [2,3,0] 0 ?_|fail)
 (exact M.n2 AJ (h8:=(by simp[zn,V.wk,V.Ar,za,Ty.view,Tm.view,FO])))
theorem QY(t:Tm)(ht:t.full<1099511627776):PC E 122 [.agg t.view] (.bool t.near):=by
 have hc:=Yg9 t true ht;refine M.F Tryz.func122 ?_;(repeat' first|refine M.w0 ?_|refine M.cb (hc) [1] 0 ?_|fail);simp[zn,V.wk,V.Ar,FO,Tm.near]
end Go.Ab
