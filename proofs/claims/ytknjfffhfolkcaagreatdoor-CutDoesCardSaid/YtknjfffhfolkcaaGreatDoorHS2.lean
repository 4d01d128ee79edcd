/- A part of this seat's proofs. No conditions. -/
import Derived.Test.YtknjfffhfolkcaaGreatDoorHS1
namespace Go.Ab
open Go Go.Proofs
set_option maxRecDepth 100000
set_option linter.all false
theorem Yfe(at_ c i bl:Int)(hc:0<=c/\c<1099511627776)(hi:0<=i/\i<9223372036854775808)(hb:0<=bl/\bl<1099511627776):AC E 228 [.i i,.i bl,.ptr 0 0,.ptr 1 0] ⟨2,[(0,.var [.i at_]),(1,.var [.i c])]⟩ (.AD []) ⟨2,[(0,.var [.i at_]),(1,.var [.i (c+cnt at_ [(i,bl)])])]⟩:=by
 refine M.F Tryz.func228 ?_;(repeat' first|refine M.gw ?_|refine M.cs ?_ ?_<;>intro h|fail)
 .have:i-bl=at_:=by simpa using h
  (exact M.n2 [some 0,some 1] (h6:=(by(repeat'(first|exact trivial|refine And.intro ?_ ?_|refine⟨_,U,_,U,_,U,?_⟩|exact Ao.refl _|exact Ao.of_eq (by simp[Aq.Ay,HP,this])));done)) (h8:=(by simp[zk,V.wk,V.Ap,zc,Ty.view,Tm.view,HP,this])))
 .have:¬i-bl=at_:=by simpa using h
  (exact M.n2 [some 0,some 1] (h6:=(by(repeat'(first|exact trivial|refine And.intro ?_ ?_|refine⟨_,U,_,U,_,U,?_⟩|exact Ao.refl _|exact Ao.of_eq (by simp[Aq.Ay,HP,this])));done)) (h8:=(by simp[zk,V.wk,V.Ap,zc,Ty.view,Tm.view,HP,this])))
theorem Zsz(at_:Int):∀(n:Nat) (t:Tm) (c:Int) (bl:Int),t.full<=n->n<1099511627776->0<=bl->bl+n<1099511627776->0<=c->c+t.full<1099511627776->(∀p∈t.vars bl,0<=p.1/\p.1<9223372036854775808)->AC E 194 [.agg t.view,.i bl,.ptr 0 0,.ptr 1 0] ⟨4,[(0,.var [.fn (.func 228) [] [.ptr 2 0,.ptr 3 0]]),(1,.var [.fn (.func 194) [] [.ptr 0 0,.ptr 1 0]]),(2,.var [.i at_]),(3,.var [.i c])]⟩ (.AD [])
 ⟨4,[(0,.var [.fn (.func 228) [] [.ptr 2 0,.ptr 3 0]]),(1,.var [.fn (.func 194) [] [.ptr 0 0,.ptr 1 0]]),(2,.var [.i at_]),(3,.var [.i (c+cnt at_ (t.vars bl))])]⟩:=by
 intro n;induction n with
 |zero=>intro t b bl h;have:=t.Aa;omega
 |succ n ih=>
 intro t c bl hsz hb hbl hbn hc0 hcn hix;have hsz':=Tm.Af t;have hlen:=zd Tm.full Tm.Aa t.args;have hv:=Tm.AP bl t;have hi:t.kind=1->0<=t.index/\t.index<9223372036854775808:=fun h=>by simpa using hix (t.index,bl) (by rw[hv];simp[h])
 have hcb:t.kind=1->_:=fun h=>Yfe at_ c t.index bl (by omega) (hi h) (by omega);refine M.F Tryz.func194 ?_;(repeat' first|refine M.gw ?_|refine M.cv (hcb (by simpa using h)) [2,3] 0 ?_|refine M.cs ?_ ?_<;>intro h|fail);all_goals
  have hup:up t.kind bl<=bl+1:=by simp only[up];split<;>omega
  have hup0:0<=up t.kind bl:=by simp only[up];split<;>omega
  refine AW.range t.args.length (fun m=>True)
   (fun m=>([(1,.i (up t.kind bl)),(3,.ptr 1 0),(22,.s .tm t.args),(23,.i t.args.length),(24,.i m)],⟨5,[(0,.var [.fn (.func 228) [] [.ptr 2 0,.ptr 3 0]]),(1,.var [.fn (.func 194) [] [.ptr 0 0,.ptr 1 0]]),(2,.var [.i at_]),(3,.var [.i (c+cnt at_ ((if t.kind=1 then [(t.index,bl)] else [])++(t.args.take m).flatMap (Tm.vars (up t.kind bl))))]),(4,.var t.view)]⟩))
   (by omega) (fun m=>rfl) (fun m=>rfl) rfl trivial ?_ ?_ ?_
  .simp_all only[beq_iff_eq,beq_eq_false_iff_ne,ne_eq];exact(M.W [some 0,some 1,some 2,some 3,some 4] (hf:=(by(repeat'(first|exact trivial|refine And.intro ?_ ?_|refine⟨_,U,_,U,?_⟩|exact Ao.refl _|exact Ao.of_eq (by simp[Aq.Ay,up, *,vu,cnt])));done)) (he:=(by(repeat'(first|exact trivial|refine And.intro ?_ ?_|refine⟨_,U,_,U,_,U,?_⟩|exact Ao.refl _|exact Ao.of_eq (by simp[Aq.Ay,up, *,vu,cnt])));done)))
  .intro m hm hP;have hs2:=za Tm.full (Wi hm);have hs3:cnt at_ ((if t.kind=1 then [(t.index,bl)] else [])++(t.args.take m).flatMap (Tm.vars (up t.kind bl)))+t.args[m].full<=1+(t.args.map Tm.full).sum:=by
    have h1:=JK at_ ((if t.kind=1 then [(t.index,bl)] else [])++(t.args.take m).flatMap (Tm.vars (up t.kind bl)));have h2:=TF (t.args.take m) (Tm.vars (up t.kind bl)) fun x _=>x.Ce _;have h3:((t.args.take m).map Tm.size).sum<=((t.args.take m).map Tm.full).sum:=yw _ (fun x _=>x.Aj);have h4:=yk Tm.full t.args m hm;have h5:=zm Tm.full t.args (m+1);have h6:(if t.kind=1 then [(t.index,bl)] else []).length<=1:=by split<;>simp
    simp only[WD] at h1;omega
   have hix':∀p∈(t.args[m]).vars (up t.kind bl),0<=p.1/\p.1<9223372036854775808:=fun p hp=>hix p (by rw[hv];exact W7 _ (WL.2 ⟨_,Wi hm,hp⟩));have hc:=ih t.args[m] (c+cnt at_ ((if t.kind=1 then [(t.index,bl)] else [])++(t.args.take m).flatMap (Tm.vars (up t.kind bl)))) (up t.kind bl) (by omega) (by omega) hup0 (by omega) (by omega) (by omega) hix';(repeat' first|refine M.gw ?_|refine M.cv (hc) [0,1,2,3] 0 ?_|fail);refine⟨rfl,trivial,?_⟩;exact(M.W [some 0,some 1,some 2,some 3,some 4] (he:=(by(repeat'(first|exact trivial|refine And.intro ?_ ?_|refine⟨_,U,_,U,_,U,?_⟩|exact Ao.refl _|exact Ao.of_eq (by simp[Aq.Ay,vu,JN _ _ _ hm,Xy])));done)))
  .intro hP;skip
   (exact M.n2 [some 0,some 1,some 2,some 3] (h6:=(by(repeat'(first|exact trivial|refine And.intro ?_ ?_|refine⟨_,U,_,U,_,U,?_⟩|exact Ao.refl _|exact Ao.of_eq (by simp[Aq.Ay,hv])));done)) (h8:=(by simp[zk,V.wk,V.Ap,zc,Ty.view,Tm.view,hv])))
theorem Zyd(t:Tm)(at_:Int)(ht:t.full<549755813888)(hix:∀p∈t.vars 0,0<=p.1/\p.1<9223372036854775808):AC E 166 [.agg t.view,.fn (.func 228) [] [.ptr 0 0,.ptr 1 0]] ⟨2,[(0,.var [.i at_]),(1,.var [.i 0])]⟩ (.AD []) ⟨2,[(0,.var [.i at_]),(1,.var [.i (cnt at_ (t.vars 0))])]⟩:=by
 have hc:=Zsz at_ _ t 0 0 (Wj _) (by omega) (by omega) (by omega) (by omega) (by omega) hix;refine M.F Tryz.func166 ?_;(repeat' first|refine M.gw ?_|refine M.cv (hc) [3,4,0,1] 0 ?_|fail)
 (exact M.n2 [some 0,some 1] (h6:=(by(repeat'(first|exact trivial|refine And.intro ?_ ?_|refine⟨_,U,_,U,_,U,?_⟩|exact Ao.refl _|exact Ao.of_eq (by simp[Aq.Ay,cnt])));done)) (h8:=(by simp[zk,V.wk,V.Ap,zc,Ty.view,Tm.view,cnt])))
theorem Ydv(t:Tm)(at_:Int)(ht:t.full<549755813888)(hix:∀p∈t.vars 0,0<=p.1/\p.1<9223372036854775808):PC E 203 [.agg t.view,.i at_] (.i (cnt at_ (t.vars 0))):=by
 have hc:=Zyd t at_ ht hix;refine M.F Tryz.func203 ?_;(repeat' first|refine M.gw ?_|refine M.cb (hc) [1,2] 0 ?_|fail);simp[zk,V.wk,V.Ap]
theorem SF(t:Tm)(at_:Int)(ht:t.full<549755813888)(hix:∀p∈t.vars 0,0<=p.1/\p.1<1099511627776):PC E 203 [.agg t.view,.i at_] (.i (cnt at_ (t.vars 0))):=
 Ydv t at_ ht fun p hp=>by have:=hix p hp;omega
theorem Yh0(fr by_ i bl:Int)(hi:0<=i/\i<549755813888)(hb:0<=bl/\bl<1099511627776)(hy: -1099511627776<=by_/\by_<1099511627776):AC E 235 [.i i,.i bl,.ptr 0 0,.ptr 1 0] ⟨2,[(0,.var [.i fr]),(1,.var [.i by_])]⟩ (.agg (zx fr by_ i bl).view) ⟨2,[(0,.var [.i fr]),(1,.var [.i by_])]⟩:=by
 have hv:=PJ;refine M.F Tryz.func235 ?_;(repeat' first|refine M.gw ?_|refine M.c2 (hv _) ?_|refine M.cs ?_ ?_<;>intro h|fail)
 .have h':fr<=i-bl:=by simpa using h
  (exact M.n2 [some 0,some 1] (h8:=(by simp[zk,V.wk,V.Ap,zc,Ty.view,Tm.view,zx,h'])))
 .have h':¬fr<=i-bl:=by simpa using h
  (exact M.n2 [some 0,some 1] (h8:=(by simp[zk,V.wk,V.Ap,zc,Ty.view,Tm.view,zx,h'])))
theorem Yd6(fr by_:Int)(hy: -1099511627776<=by_/\by_<1099511627776):∀(n:Nat) (t:Tm) (bl:Int),t.full<=n->n<549755813888->0<=bl->bl+n<549755813888->(∀p∈t.vars bl,0<=p.1/\p.1<549755813888)->AC E 255 [.agg t.view,.i bl,.ptr 0 0,.ptr 1 0] ⟨4,[(0,.var [.fn (.func 235) [] [.ptr 2 0,.ptr 3 0]]),(1,.var [.fn (.func 255) [] [.ptr 0 0,.ptr 1 0]]),(2,.var [.i fr]),(3,.var [.i by_])]⟩ (.agg (t.re (zx fr by_) bl).view) ⟨4,[(0,.var [.fn (.func 235) [] [.ptr 2 0,.ptr 3 0]]),(1,.var [.fn (.func 255) [] [.ptr 0 0,.ptr 1 0]]),(2,.var [.i fr]),(3,.var [.i by_])]⟩:=by
 intro n;induction n with
 |zero=>intro t bl h;have:=t.Aa;omega
 |succ n ih=>
 intro t bl hsz hb hbl hbn hix;have hsz':=Tm.Af t;have hlen:=zd Tm.full Tm.Aa t.args;have hv:=Tm.AP bl t;have hre:=Tm.Bt (zx fr by_) bl t;have hi:t.kind=1->0<=t.index/\t.index<549755813888:=fun h=>by simpa using hix (t.index,bl) (by rw[hv];simp[h])
 have hcb:t.kind=1->_:=fun h=>Yh0 fr by_ t.index bl (hi h) (by omega) hy;have hown:=uk _ t.ty (Wj _) (by omega);refine M.F Tryz.func255 ?_;(repeat' first|refine M.gw ?_|refine M.cv (hcb (by simpa using h)) [2,3] 0 ?_|refine M.c2 (hown) ?_|refine M.cs ?_ ?_<;>intro h|fail)
 .have hk:t.kind=1:=by simpa using h
  (exact M.n2 [some 0,some 1,some 2,some 3] (h8:=(by simp[zk,V.wk,V.Ap,zc,Ty.view,Tm.view,hre,hk])))
 all_goals
  rename_i hk1;have hup:up t.kind bl<=bl+1:=by simp only[up];split<;>omega
  have hup0:0<=up t.kind bl:=by simp only[up];split<;>omega
  have hk1':¬t.kind=1:=by simpa using hk1
  refine AW.range t.args.length (fun m=>True)
   (fun m=>([(1,.i (up t.kind bl)),(3,.ptr 1 0),(6,.ptr 5 0),(7,.ptr 6 0),(32,.s .tm t.args),(33,.i t.args.length),(34,.i m)],⟨8,[(0,.var [.fn (.func 235) [] [.ptr 2 0,.ptr 3 0]]),(1,.var [.fn (.func 255) [] [.ptr 0 0,.ptr 1 0]]),(2,.var [.i fr]),(3,.var [.i by_]),(4,.var t.view),(5,.var [.i 0,.i 0,.i 0,.slice .nil (.t .ty []),.slice .nil (.t .tm [])]),(6,.var [.i t.kind,.i t.index,.i t.ty.kind,.s .ty t.ty.args,.slice (.own 7) (.t .tm ((t.args.take m).map (Tm.re (zx fr by_) (up t.kind bl))))]),(7,.row)]⟩))
   (by omega) (fun m=>rfl) (fun m=>rfl) rfl trivial ?_ ?_ ?_
  .simp_all only[beq_iff_eq,beq_eq_false_iff_ne,ne_eq];exact(M.W [some 0,some 1,some 2,some 3,some 4,some 5,some 6,none] (hf:=(by(repeat'(first|exact trivial|refine And.intro ?_ ?_|refine⟨_,U,_,U,?_⟩|exact Ao.refl _|exact Ao.of_eq (by simp[Aq.Ay,up, *])));done)))
  .intro m hm hP;have hs2:=za Tm.full (Wi hm);have hix':∀p∈(t.args[m]).vars (up t.kind bl),0<=p.1/\p.1<549755813888:=fun p hp=>hix p (by rw[hv];exact W7 _ (WL.2 ⟨_,Wi hm,hp⟩));have hc:=ih t.args[m] (up t.kind bl) (by omega) (by omega) hup0 (by omega) hix';(repeat' first|refine M.gw ?_|refine M.cv (hc) [0,1,2,3] 0 ?_|fail);refine⟨rfl,trivial,?_⟩;exact(M.W [some 0,some 1,some 2,some 3,some 4,some 5,some 6,some 9] (he:=(by(repeat'(first|exact trivial|exact Or.inr ⟨_,U,rfl⟩|refine And.intro ?_ ?_|refine⟨_,U,_,U,_,U,?_⟩|exact Ao.refl _|exact Ao.of_eq (by simp[Aq.Ay,zy _ _ _ hm])));done)))
  .intro hP;(repeat' first|refine M.gw ?_|fail)
   (exact M.n2 [some 0,some 1,some 2,some 3] (h8:=(by simp[zk,V.wk,V.Ap,zc,Ty.view,Tm.view,hre,hk1'])))
theorem Ygk(fr by_:Int)(hy: -1099511627776<=by_/\by_<1099511627776)(t:Tm)(ht:t.full<274877906944)(hix:∀p∈t.vars 0,0<=p.1/\p.1<549755813888):AC E 234 [.agg t.view,.fn (.func 235) [] [.ptr 0 0,.ptr 1 0]] ⟨2,[(0,.var [.i fr]),(1,.var [.i by_])]⟩ (.agg (t.re (zx fr by_) 0).view) ⟨2,[(0,.var [.i fr]),(1,.var [.i by_])]⟩:=by
 have hc:=Yd6 fr by_ hy _ t 0 (Wj _) (by omega) (by omega) (by omega) hix;refine M.F Tryz.func234 ?_;(repeat' first|refine M.gw ?_|refine M.cv (hc) [3,5,0,1] 0 ?_|fail)
 (exact M.n2 [some 0,some 1] (h8:=(by simp[zk,V.wk,V.Ap,zc,Ty.view,Tm.view,hc])))
theorem VS(t:Tm)(fr by_:Int)(hy: -1099511627776<=by_/\by_<1099511627776)(ht:t.full<274877906944)(hix:∀p∈t.vars 0,0<=p.1/\p.1<549755813888):PC E 209 [.agg t.view,.i fr,.i by_] (.agg (t.re (zx fr by_) 0).view):=by
 have hc:=Ygk fr by_ hy t ht hix;refine M.F Tryz.func209 ?_;(repeat' first|refine M.gw ?_|refine M.cb (hc) [1,2] 0 ?_|fail);simp[zk,V.wk,V.Ap,zc,Ty.view,Tm.view]
theorem Yj6(at_:Int)(s:Tm)(i bl:Int)(hat:0<=at_/\at_<549755813888)(hs:s.full<274877906944)(hsi:∀p∈s.vars 0,0<=p.1/\p.1<549755813888)(hi:0<=i/\i<9223372036854775808)(hb:0<=bl/\bl<549755813888):AC E 253 [.i i,.i bl,.ptr 0 0,.ptr 1 0] ⟨2,[(0,.var [.i at_]),(1,.var s.view)]⟩ (.agg (y9 at_ s i bl).view) ⟨2,[(0,.var [.i at_]),(1,.var s.view)]⟩:=by
 have hv:=PJ;have hl:=VS s 0 (at_+bl) (by omega) hs hsi;refine M.F Tryz.func253 ?_;(repeat' first|refine M.gw ?_|refine M.c2 (hv _) ?_|refine M.c2 (hl) ?_|refine M.bl ?_|refine M.cs ?_ ?_<;>intro h|fail)
 .have h':i-bl=at_:=by simpa using h
  (exact M.n2 [some 0,some 1] (h8:=(by simp[zk,V.wk,V.Ap,zc,Ty.view,Tm.view,y9,h'])))
 .rename_i h0;have h0':¬i-bl=at_:=by simpa using h0
  have h':at_<i-bl:=by simpa using h
  (exact M.n2 [some 0,some 1] (h8:=(by simp[zk,V.wk,V.Ap,zc,Ty.view,Tm.view,y9,h',h0'])))
 .rename_i h0;have h0':¬i-bl=at_:=by simpa using h0
  have h':¬at_<i-bl:=by simpa using h
  (exact M.n2 [some 0,some 1] (h8:=(by simp[zk,V.wk,V.Ap,zc,Ty.view,Tm.view,y9,h',h0'])))
theorem Yha(at_:Int)(s:Tm)(hat:0<=at_/\at_<549755813888)(hs:s.full<274877906944)(hsi:∀p∈s.vars 0,0<=p.1/\p.1<549755813888):∀(n:Nat) (t:Tm) (bl:Int),t.full<=n->n<549755813888->0<=bl->bl+n<549755813888->(∀p∈t.vars bl,0<=p.1/\p.1<9223372036854775808)->AC E 255 [.agg t.view,.i bl,.ptr 0 0,.ptr 1 0] ⟨4,[(0,.var [.fn (.func 253) [] [.ptr 2 0,.ptr 3 0]]),(1,.var [.fn (.func 255) [] [.ptr 0 0,.ptr 1 0]]),(2,.var [.i at_]),(3,.var s.view)]⟩ (.agg (t.re (y9 at_ s) bl).view) ⟨4,[(0,.var [.fn (.func 253) [] [.ptr 2 0,.ptr 3 0]]),(1,.var [.fn (.func 255) [] [.ptr 0 0,.ptr 1 0]]),(2,.var [.i at_]),(3,.var s.view)]⟩:=by
 intro n;induction n with
 |zero=>intro t bl h;have:=t.Aa;omega
 |succ n ih=>
 intro t bl hsz hb hbl hbn hix;have hsz':=Tm.Af t;have hlen:=zd Tm.full Tm.Aa t.args;have hv:=Tm.AP bl t;have hre:=Tm.Bt (y9 at_ s) bl t;have hi:t.kind=1->0<=t.index/\t.index<9223372036854775808:=fun h=>by simpa using hix (t.index,bl) (by rw[hv];simp[h])
 have hcb:t.kind=1->_:=fun h=>Yj6 at_ s t.index bl hat hs hsi (hi h) (by omega);have hown:=uk _ t.ty (Wj _) (by omega);refine M.F Tryz.func255 ?_;(repeat' first|refine M.gw ?_|refine M.cv (hcb (by simpa using h)) [2,3] 0 ?_|refine M.c2 (hown) ?_|refine M.cs ?_ ?_<;>intro h|fail)
 .have hk:t.kind=1:=by simpa using h
  (exact M.n2 [some 0,some 1,some 2,some 3] (h8:=(by simp[zk,V.wk,V.Ap,zc,Ty.view,Tm.view,hre,hk])))
 all_goals
  rename_i hk1;have hup:up t.kind bl<=bl+1:=by simp only[up];split<;>omega
  have hup0:0<=up t.kind bl:=by simp only[up];split<;>omega
  have hk1':¬t.kind=1:=by simpa using hk1
  refine AW.range t.args.length (fun m=>True)
   (fun m=>([(1,.i (up t.kind bl)),(3,.ptr 1 0),(6,.ptr 5 0),(7,.ptr 6 0),(32,.s .tm t.args),(33,.i t.args.length),(34,.i m)],⟨8,[(0,.var [.fn (.func 253) [] [.ptr 2 0,.ptr 3 0]]),(1,.var [.fn (.func 255) [] [.ptr 0 0,.ptr 1 0]]),(2,.var [.i at_]),(3,.var s.view),(4,.var t.view),(5,.var [.i 0,.i 0,.i 0,.slice .nil (.t .ty []),.slice .nil (.t .tm [])]),(6,.var [.i t.kind,.i t.index,.i t.ty.kind,.s .ty t.ty.args,.slice (.own 7) (.t .tm ((t.args.take m).map (Tm.re (y9 at_ s) (up t.kind bl))))]),(7,.row)]⟩))
   (by omega) (fun m=>rfl) (fun m=>rfl) rfl trivial ?_ ?_ ?_
  .simp_all only[beq_iff_eq,beq_eq_false_iff_ne,ne_eq];exact(M.W [some 0,some 1,some 2,some 3,some 4,some 5,some 6,none] (hf:=(by(repeat'(first|exact trivial|refine And.intro ?_ ?_|refine⟨_,U,_,U,?_⟩|exact Ao.refl _|exact Ao.of_eq (by simp[Aq.Ay,up, *])));done)))
  .intro m hm hP;have hs2:=za Tm.full (Wi hm);have hix':∀p∈(t.args[m]).vars (up t.kind bl),0<=p.1/\p.1<9223372036854775808:=fun p hp=>hix p (by rw[hv];exact W7 _ (WL.2 ⟨_,Wi hm,hp⟩));have hc:=ih t.args[m] (up t.kind bl) (by omega) (by omega) hup0 (by omega) hix';(repeat' first|refine M.gw ?_|refine M.cv (hc) [0,1,2,3] 0 ?_|fail);refine⟨rfl,trivial,?_⟩;exact(M.W [some 0,some 1,some 2,some 3,some 4,some 5,some 6,some 9] (he:=(by(repeat'(first|exact trivial|exact Or.inr ⟨_,U,rfl⟩|refine And.intro ?_ ?_|refine⟨_,U,_,U,_,U,?_⟩|exact Ao.refl _|exact Ao.of_eq (by simp[Aq.Ay,zy _ _ _ hm])));done)))
  .intro hP;(repeat' first|refine M.gw ?_|fail)
   (exact M.n2 [some 0,some 1,some 2,some 3] (h8:=(by simp[zk,V.wk,V.Ap,zc,Ty.view,Tm.view,hre,hk1'])))
theorem Yjb(at_:Int)(s:Tm)(hat:0<=at_/\at_<549755813888)(hs:s.full<274877906944)(hsi:∀p∈s.vars 0,0<=p.1/\p.1<549755813888)(t:Tm)(ht:t.full<274877906944)(hix:∀p∈t.vars 0,0<=p.1/\p.1<9223372036854775808):AC E 234 [.agg t.view,.fn (.func 253) [] [.ptr 0 0,.ptr 1 0]] ⟨2,[(0,.var [.i at_]),(1,.var s.view)]⟩ (.agg (t.re (y9 at_ s) 0).view) ⟨2,[(0,.var [.i at_]),(1,.var s.view)]⟩:=by
 have hc:=Yha at_ s hat hs hsi _ t 0 (Wj _) (by omega) (by omega) (by omega) hix;refine M.F Tryz.func234 ?_;(repeat' first|refine M.gw ?_|refine M.cv (hc) [3,5,0,1] 0 ?_|fail)
 (exact M.n2 [some 0,some 1] (h8:=(by simp[zk,V.wk,V.Ap,zc,Ty.view,Tm.view,hc])))
theorem Yi4(t:Tm)(at_:Int)(s:Tm)(hat:0<=at_/\at_<549755813888)(hs:s.full<274877906944)(hsi:∀p∈s.vars 0,0<=p.1/\p.1<549755813888)(ht:t.full<274877906944)(hix:∀p∈t.vars 0,0<=p.1/\p.1<9223372036854775808):PC E 231 [.agg t.view,.i at_,.agg s.view] (.agg (t.re (y9 at_ s) 0).view):=by
 have hc:=Yjb at_ s hat hs hsi t ht hix;refine M.F Tryz.func231 ?_;(repeat' first|refine M.gw ?_|refine M.cb (hc) [1,2] 0 ?_|fail);simp[zk,V.wk,V.Ap,zc,Ty.view,Tm.view]
theorem SM(t:Tm)(at_:Int)(s:Tm)(hat:0<=at_/\at_<549755813888)(hs:s.full<274877906944)(hsi:∀p∈s.vars 0,0<=p.1/\p.1<549755813888)(ht:t.full<274877906944)(hix:∀p∈t.vars 0,0<=p.1/\p.1<549755813888):PC E 231 [.agg t.view,.i at_,.agg s.view] (.agg (t.re (y9 at_ s) 0).view):=
 Yi4 t at_ s hat hs hsi ht fun p hp=>by have:=hix p hp;omega
end Go.Ab
namespace Go.Ab
open Go Go.Proofs
set_option maxRecDepth 100000
set_option maxHeartbeats 4000000
set_option linter.all false
theorem VO(n k:Int)(hk:0<k/\k<1099511627776):PC E 17 [.i n,.i k] (.i (G3 n k)):=by
 have hb1:=Int.tmod_lt_of_pos n hk.1;have hb2:=V7 n k hk.1;refine M.F Tryz.func17 ?_;(repeat' first|refine M.gw ?_|fail)
 rfl
theorem v6(d:Dk)(n:Int)(hd:d.ok)(hn:n<1099511627776):AC E 24 [.ptr 0 0,.i n] ⟨1,[(0,.var d.cells)]⟩ (.i (d.next n).1) ⟨1,[(0,.var (d.next n).2.cells)]⟩:=by
 obtain⟨hd1,hd2⟩:=hd;have hm:¬n<1->∀x,PC E 17 [.i x,.i n] (.i (G3 x n)):=fun h x=>VO x n ⟨by omega,hn⟩;refine M.F Tryz.func24 ?_;(repeat' first|refine M.gw ?_|refine M.c2 (hm (by simp_all) _) ?_|refine M.gs ?_ ?_<;>intro h|refine M.cs ?_ ?_<;>intro h|fail)
 .have h':n<1:=by simpa using h
  have e:d.next n=(0,d):=dif_pos (.inl h')
  (exact M.n2 [some 0] (h6:=(by(repeat'(first|exact trivial|refine And.intro ?_ ?_|refine⟨_,U,_,U,_,U,?_⟩|exact Ao.of_eq (by simp[Aq.Ay,e,Dk.cells])));done)) (h8:=(by simp[zk,V.wk,V.Ap,zc,Ty.view,Tm.view,e,Dk.cells])))
 .have h':d.l.length<=d.at_:=by simp at h;omega
  have e:d.next n=(0,d):=dif_pos (.inr h')
  (exact M.n2 [some 0] (h6:=(by(repeat'(first|exact trivial|refine And.intro ?_ ?_|refine⟨_,U,_,U,_,U,?_⟩|exact Ao.of_eq (by simp[Aq.Ay,e,Dk.cells])));done)) (h8:=(by simp[zk,V.wk,V.Ap,zc,Ty.view,Tm.view,e,Dk.cells])))
 .rename_i h0;have h':¬(n<1\/d.l.length<=d.at_):=by simp at h h0;omega
  have e:d.next n=(G3 (d.l[d.at_]'(by omega)) n,⟨d.l,d.at_+1⟩):=dif_neg h'
  (exact M.n2 [some 0] (h6:=(by(repeat'(first|exact trivial|refine And.intro ?_ ?_|refine⟨_,U,_,U,_,U,?_⟩|exact Ao.of_eq (by simp[Aq.Ay,e,Dk.cells])));done)) (h8:=(by simp[zk,V.wk,V.Ap,zc,Ty.view,Tm.view,e,Dk.cells])))
theorem Yi3(l:List Int):PC E 5 [.s .int l] (.bool (decide (l.length<=500))):=by
 refine M.F Tryz.func5 ?_;(repeat' first|refine M.gw ?_|fail);simp[zk,V.wk,V.Ap];omega
theorem Yjr(l:List Int):AC E 7 [.s .int l] ⟨0,[]⟩ (.ptr 0 0) ⟨1,[(0,.var (Dk.mk l 0).cells)]⟩:=by
 refine M.F Tryz.func7 ?_;(repeat' first|refine M.gw ?_|fail)
 (exact M.n2 [some 0] (h8:=(by simp[zk,V.wk,V.Ap,zc,Ty.view,Tm.view,Dk.cells])))
end Go.Ab
namespace Go.Ab
open Go Go.Proofs
set_option maxRecDepth 100000
set_option linter.all false
theorem Jv:∀(n:Nat) (k:Int) (d:Dk),k<=n->n<=20->-100<=k->d.ok->AC E 31 [.ptr 0 0,.i k] ⟨1,[(0,.var d.cells)]⟩ (.agg (d.type k.toNat).1.view) ⟨1,[(0,.var (d.type k.toNat).2.cells)]⟩:=by
 intro n;induction n with
 |zero=>
  intro k d hk hn hk' hd;have h1:=v6 d 7 hd (by omega);have e:=Dk.En k d;refine AC.mk Tryz.func31 rfl rfl rfl rfl rfl (Wz rfl) ?_;repeat'(first|((with_reducible refine D.nil ?_);refine AX.Bd ?_)|((with_reducible refine D.move ?_);refine L.mv U U U ?_)|((with_reducible refine D.assign ?_);refine L.C6 U U U ?_)|((with_reducible refine D.bin ?_);first|refine L.sb U U U U (by omega) ?_|refine L.bn U U U U U ?_)|((with_reducible refine D.call ?_);first|(apply L.Kr (h1) [0] 0 rfl;rfl;rfl;rfl;rfl;rfl;rfl;(focus((repeat'(first|exact trivial|refine And.intro ?_ ?_|refine⟨_,U,_,U,_,U,?_⟩|exact Ao.refl _));done));rfl;rfl;rfl;rfl)|refine L.c2 (vk) U U U U ?_|refine L.c2 (ul) U U U U ?_|refine L.c2 (Ra) U U U U ?_)|((with_reducible refine D.alloc ?_);refine L.al U U U ?_)|((with_reducible refine D.store ?_);refine L.st U U U U U U U U U ?_)|((with_reducible refine D.aw ?_);first|((with_reducible refine D.blk ?_);refine AW.block ?_)|refine K.sq (AW.AV ?_)|refine K.sq (K.sq ?_)|refine AW.AV ?_|refine AW.B4 U ?_|refine AW.Dq U (fun h=> ?_) (fun h=> ?_)|refine AW.skip ?_|refine AW.ret ?_)|with_reducible refine K.tN ?_|with_reducible refine K.bN ?_|with_reducible refine K.tR ?_|with_reducible refine K.bR ?_)
  all_goals first
   |(exfalso;simp at*;omega)
   |(simp only[beq_iff_eq,beq_eq_false_iff_ne,ne_eq,decide_eq_true_eq,decide_eq_false_iff_not,gt_iff_lt] at*
     simp[*] at e
     (exact K.n2 [some 0] U U U U U (by(repeat'(first|exact trivial|refine And.intro ?_ ?_|refine⟨_,U,_,U,_,U,?_⟩|exact Ao.of_eq (by simp[Aq.Ay,e])));done) U (by simp[zk,V.wk,V.Ap,zc,Ty.view,Tm.view,e])))
 |succ n ih=>
  intro k d hk hn hk' hd;have h1:=v6 d 7 hd (by omega);have e:=Dk.En k d;have i1:k>0->_:=fun h=>ih (k-1) (d.next 7).2 (by omega) (by omega) (by omega) (Dk.AH hd 7);have i2:k>0->_:=fun h=>ih (k-1) ((d.next 7).2.type (k-1).toNat).2 (by omega) (by omega) (by omega) (Dk.Bu _ _ (Dk.AH hd 7));have i3:=SS ((d.next 7).2.type (k-1).toNat).1 ((((d.next 7).2.type (k-1).toNat).2).type (k-1).toNat).1 (Dk.Cx _ _ (by omega)) (Dk.Cx _ _ (by omega));have i4:=IJ ((d.next 7).2.type (k-1).toNat).1 ((((d.next 7).2.type (k-1).toNat).2).type (k-1).toNat).1 (Dk.Cx _ _ (by omega)) (Dk.Cx _ _ (by omega));refine AC.mk Tryz.func31 rfl rfl rfl rfl rfl (Wz rfl) ?_;repeat'(first|((with_reducible refine D.nil ?_);refine AX.Bd ?_)|((with_reducible refine D.move ?_);refine L.mv U U U ?_)|((with_reducible refine D.assign ?_);refine L.C6 U U U ?_)|((with_reducible refine D.bin ?_);first|refine L.sb U U U U (by omega) ?_|refine L.bn U U U U U ?_)|((with_reducible refine D.call ?_);first|(apply L.Kr (h1) [0] 0 rfl;rfl;rfl;rfl;rfl;rfl;rfl;(focus((repeat'(first|exact trivial|refine And.intro ?_ ?_|refine⟨_,U,_,U,_,U,?_⟩|exact Ao.refl _));done));rfl;rfl;rfl;rfl)|refine L.c2 (vk) U U U U ?_|refine L.c2 (ul) U U U U ?_|refine L.c2 (Ra) U U U U ?_|(apply L.Kr (i1 (by simp_all)) [0] 0 rfl;rfl;rfl;rfl;rfl;rfl;rfl;(focus((repeat'(first|exact trivial|refine And.intro ?_ ?_|refine⟨_,U,_,U,_,U,?_⟩|exact Ao.refl _));done));rfl;rfl;rfl;rfl)|(apply L.Kr (i2 (by simp_all)) [0] 0 rfl;rfl;rfl;rfl;rfl;rfl;rfl;(focus((repeat'(first|exact trivial|refine And.intro ?_ ?_|refine⟨_,U,_,U,_,U,?_⟩|exact Ao.refl _));done));rfl;rfl;rfl;rfl)|refine L.c2 (i3) U U U U ?_|refine L.c2 (i4) U U U U ?_)|((with_reducible refine D.alloc ?_);refine L.al U U U ?_)|((with_reducible refine D.store ?_);refine L.st U U U U U U U U U ?_)|((with_reducible refine D.aw ?_);first|((with_reducible refine D.blk ?_);refine AW.block ?_)|refine K.sq (AW.AV ?_)|refine K.sq (K.sq ?_)|refine AW.AV ?_|refine AW.B4 U ?_|refine AW.Dq U (fun h=> ?_) (fun h=> ?_)|refine AW.skip ?_|refine AW.ret ?_)|with_reducible refine K.tN ?_|with_reducible refine K.bN ?_|with_reducible refine K.tR ?_|with_reducible refine K.bR ?_)
  all_goals
   simp only[beq_iff_eq,beq_eq_false_iff_ne,ne_eq,decide_eq_true_eq,decide_eq_false_iff_not,gt_iff_lt] at*;simp[*] at e
   (exact K.n2 [some 0] U U U U U (by(repeat'(first|exact trivial|refine And.intro ?_ ?_|refine⟨_,U,_,U,_,U,?_⟩|exact Ao.of_eq (by simp[Aq.Ay,e])));done) U (by simp[zk,V.wk,V.Ap,zc,Ty.view,Tm.view,e]))
theorem Zto(n:Nat)(hn:n<100000):PC E 103 [.i n] (.agg (Er n).view):=by
 have h1:=CH 4 [] (by simp);refine M.F Tryz.func103 ?_;(repeat' first|refine M.gw ?_|refine M.c2 (h1) ?_|fail);refine K.sq (AW.down n (fun m=>m<=n)
  (fun m=>([(0,.i m),(2,.ptr 0 0),(3,.ptr 1 0)],⟨2,[(0,.var [.i 0,.i 0,.i 0,.slice .nil (.t .ty []),.slice .nil (.t .tm [])]),(1,.var (Er (n-m)).view)]⟩))
  (by omega) (fun m=>rfl) rfl (Wj _) ?_ ?_ ?_)
 .simp only[X6];exact(M.W [some 0,some 1])
 .intro m hm hP;have e:Er (n-m)= .mk 5 0 (.mk 0 []) [Er (n-(m+1))]:=by rw[show n-m=(n-(m+1))+1 by omega];rfl
  (repeat' first|refine M.gw ?_|fail);refine⟨rfl,by omega,?_⟩;simp only[e];exact(M.W [some 0,some 1])
 .intro _;(repeat' first|refine M.gw ?_|fail);simp[zk,V.wk,V.Ap,zc,Ty.view,Tm.view]
theorem Zz4(n:Int):PC E 66 [.i n] (.AD [.agg (if 0<=n/\n<4096 then Er n.toNat else A4).view,.i (if n<0 then 1 else if n>=4096 then 4 else 0)]):=by
 have h1:¬n<0->¬n>=4096->PC E 103 [.i n] _:=fun h h'=>by
  have:=Zto n.toNat (by omega);rw[show((n.toNat:Nat):Int)=n by omega] at this;exact this
 refine M.F Tryz.func66 ?_;(repeat' first|refine M.gw ?_|refine M.c2 (h1 (by simp_all) (by simp_all)) ?_|refine M.cs ?_ ?_<;>intro h|fail)
 .have h':n<0:=by simpa using h
  have h2:¬(0<=n/\n<4096):=by omega
  simp[zk,V.wk,V.Ap,zc,Ty.view,Tm.view,A4,h',h2]
 .rename_i h0;have h':¬n<0:=by simpa using h0
  have h'':n>=4096:=by simpa using h
  have h2:¬(0<=n/\n<4096):=by omega
  simp[zk,V.wk,V.Ap,zc,Ty.view,Tm.view,A4,h',h'',h2]
 .rename_i h0;have h':¬n<0:=by simpa using h0
  have h'':¬n>=4096:=by simpa using h
  have h2:0<=n/\n<4096:=by omega
  simp[zk,V.wk,V.Ap,zc,Ty.view,Tm.view,A4,h',h'',h2]
theorem uq(g l:List Ty)(h:g.length+l.length<1000000):PC E 71 [.s .ty g,.s .ty l] (.s .ty (g++l)):=by
 refine M.F Tryz.func71 ?_;(repeat' first|refine M.gw ?_|fail);simp[zk,V.wk,V.Ap,zc,Ty.view,Tm.view]
theorem Gq(t:Tm)(ht:t.full<549755813888):PC E 109 [.agg t.view] (.agg (Tm.mk 2 0 (.mk 1 []) [t]).view):=by
 have h1:=Ft 2 (.mk 1 []) [t] (by simp;omega) (by simp[Ty.size_eq]);refine M.F Tryz.func109 ?_;(repeat' first|refine M.gw ?_|refine M.c2 (vk) ?_|refine M.c2 (h1) ?_|fail);simp[zk,V.wk,V.Ap,zc,Ty.view,Tm.view]
theorem GS(n:Int):PC E 21 [.i n] (.agg (xy n).view):=by
 have h1:=Zz4 n;refine M.F Tryz.func21 ?_;(repeat' first|refine M.gw ?_|refine M.c2 (h1) ?_|fail);simp[zk,V.wk,V.Ap,zc,Ty.view,Tm.view,xy]
theorem Zx5(d:Dk)(hd:d.ok):AC E 26 [.ptr 0 0] ⟨1,[(0,.var d.cells)]⟩ (.s .ty d.ctx.1) ⟨1,[(0,.var d.ctx.2.cells)]⟩:=by
 have h1:=v6 d 4 hd (by omega);have hb:=Dk.Bv d 4 (by omega);obtain⟨c,hc⟩:∃c:Nat,(d.next 4).1=c:=⟨(d.next 4).1.toNat,by omega⟩;rw[hc] at h1 hb;have hx:d.ctx=(d.next 4).2.types c:=by simp only[Dk.ctx,hc];rfl
 refine M.F Tryz.func26 ?_;(repeat' first|refine M.gw ?_|refine M.cb (h1) [0] 0 ?_|fail);refine AW.down c (fun m=>m<=c)
  (fun m=>([(0,.ptr 0 0),(3,.slice (.own 1) (.t .ty ((d.next 4).2.types (c-m)).1)),(4,.i m)],⟨2,[(0,.var ((d.next 4).2.types (c-m)).2.cells),(1,.row)]⟩))
  (by omega) (fun m=>rfl) rfl (Wj _) ?_ ?_ ?_
 .simp only[X6];exact(M.W [some 0,none])
 .intro m hm hP;have e:=Dk.DM (c-(m+1)) (d.next 4).2;rw[show c-(m+1)+1=c-m by omega] at e;have h2:=Jv 1 1 ((d.next 4).2.types (c-(m+1))).2 (by omega) (by omega) (by omega) (Dk.DH _ _ (Dk.AH hd 4));have hl:=Dk.Dh (c-(m+1)) (d.next 4).2;(repeat' first|refine M.gw ?_|refine M.cb (h2) [0] 0 ?_|fail);refine⟨rfl,by omega,?_⟩;simp only[e];exact(M.W [some 0,some 2])
 .intro _;(repeat' first|refine M.gw ?_|fail)
  (exact M.n2 [some 0] (h6:=(by(repeat'(first|exact trivial|refine And.intro ?_ ?_|refine⟨_,U,_,U,_,U,?_⟩|exact Ao.of_eq (by simp[Aq.Ay,hx])));done)) (h8:=(by simp[zk,V.wk,V.Ap,zc,Ty.view,Tm.view,hx])))
theorem Qc(b f n:Tm)(h:b.full+f.full+n.full<549755813888):PC E 110 [.agg b.view,.agg f.view,.agg n.view] (.agg (Tm.mk 6 0 (.mk 1 []) [b,f,n]).view):=by
 have h1:=Ft 6 (.mk 1 []) [b,f,n] (by simp;omega) (by simp[Ty.size_eq]);refine M.F Tryz.func110 ?_;(repeat' first|refine M.gw ?_|refine M.c2 (vk) ?_|refine M.c2 (h1) ?_|fail);simp[zk,V.wk,V.Ap,zc,Ty.view,Tm.view]
theorem R1:PC E 82 [] (.agg Cr.view):=by
 have h0:=Ek 0;have h1:=Ek 1;have h2:=CH 5 [vT 0] (by simp[Tm.full,Tm.Au,Ty.size,Ty.sizes,vT]);have h3:=Gq (sT (vT 0)) (by simp[Tm.full,Tm.Au,Ty.size,Ty.sizes,vT,sT]);have h4:=Gq (CU (sT (vT 0))) (by simp[Tm.full,Tm.Au,Ty.size,Ty.sizes,vT,sT,CU]);have h5:=Qc (vT 1) G7 (vT 0) (by simp[Tm.full,Tm.Au,Ty.size,Ty.sizes,vT,sT,CU,G7]);have h6:=Gq (EJ (vT 1) G7 (vT 0)) (by simp[Tm.full,Tm.Au,Ty.size,Ty.sizes,vT,sT,CU,G7,EJ]);have h7:=Gq (CU (EJ (vT 1) G7 (vT 0))) (by simp[Tm.full,Tm.Au,Ty.size,Ty.sizes,vT,sT,CU,G7,EJ]);refine M.F Tryz.func82 ?_;(repeat' first|refine M.gw ?_|refine M.c2 (h0) ?_|refine M.c2 (h1) ?_|refine M.c2 (h2) ?_|refine M.c2 (h3) ?_|refine M.c2 (h4) ?_|refine M.c2 (h5) ?_|refine M.c2 (h6) ?_|refine M.c2 (h7) ?_|fail)
 rfl
theorem Yik:PC E 111 [] (.agg CA.view):=by
 have h0:=Ek 0;have h1:=Ek 1;have h2:=CH 4 [] (by simp);have h3:=Gq (vT 1) (by simp[Tm.full,Tm.Au,Ty.size,Ty.sizes,vT,sT]);have h4:=Gq (CU (vT 1)) (by simp[Tm.full,Tm.Au,Ty.size,Ty.sizes,vT,sT,CU]);have h5:=Qc zT (CU (CU (vT 1))) (vT 0) (by simp[Tm.full,Tm.Au,Ty.size,Ty.sizes,vT,zT,CU,G7]);have h6:=Gq (EJ zT (CU (CU (vT 1))) (vT 0)) (by simp[Tm.full,Tm.Au,Ty.size,Ty.sizes,vT,zT,CU,G7,EJ]);refine M.F Tryz.func111 ?_;(repeat' first|refine M.gw ?_|refine M.c2 (h0) ?_|refine M.c2 (h1) ?_|refine M.c2 (h2) ?_|refine M.c2 (h3) ?_|refine M.c2 (h4) ?_|refine M.c2 (h5) ?_|refine M.c2 (h6) ?_|fail)
 rfl
theorem Yjj:PC E 83 [] (.agg D3.view):=by
 have h0:=Ek 0;have h1:=Ek 1;have hp:=Yik;have h2:=CH 3 [CA,vT 0] (by simp[Tm.full,Tm.Au,Ty.size,Ty.sizes,vT,zT,CU,CA,EJ]);have h3:=Gq (A0 CA (vT 0)) (by simp[Tm.full,Tm.Au,Ty.size,Ty.sizes,vT,zT,CU,CA,EJ,A0]);have h4:=Gq (CU (A0 CA (vT 0))) (by simp[Tm.full,Tm.Au,Ty.size,Ty.sizes,vT,zT,CU,CA,EJ,A0]);have h5:=Qc (vT 1) ID (vT 0) (by simp[Tm.full,Tm.Au,Ty.size,Ty.sizes,vT,zT,CU,CA,EJ,A0,ID]);have h6:=Gq (EJ (vT 1) ID (vT 0)) (by simp[Tm.full,Tm.Au,Ty.size,Ty.sizes,vT,zT,CU,CA,EJ,A0,ID]);have h7:=Gq (CU (EJ (vT 1) ID (vT 0))) (by simp[Tm.full,Tm.Au,Ty.size,Ty.sizes,vT,zT,CU,CA,EJ,A0,ID]);refine M.F Tryz.func83 ?_;(repeat' first|refine M.gw ?_|refine M.c2 (h0) ?_|refine M.c2 (h1) ?_|refine M.c2 (hp) ?_|refine M.c2 (h2) ?_|refine M.c2 (h3) ?_|refine M.c2 (h4) ?_|refine M.c2 (h5) ?_|refine M.c2 (h6) ?_|refine M.c2 (h7) ?_|fail)
 rfl
theorem Om:∀(f:Tm) (l:List Tm),f.full+2*l.length+(l.map Tm.full).sum<274877906944->PC E 81 [.agg f.view,.s .tm l] (.agg (l.foldl A0 f).view):=by
 intro f l hl;have hlen:=zd Tm.full Tm.Aa l;have hfull:∀m,m<=l.length->((l.take m).foldl A0 f).full<=f.full+2*m+((l.take m).map Tm.full).sum:=by
  intro m;induction m with
  |zero=>intro _;simp
  |succ m ih=>
   intro hm;have h1:=ih (by omega);have h2:=yk Tm.full l m (by omega);rw[<-Wv (by omega:m<l.length),YY,Wv (by omega:m<l.length),h2];simp only[Zf,List.foldl_nil,A0,Tm.full,Tm.Au,Ty.size,Ty.sizes];omega
 refine M.F Tryz.func81 ?_;(repeat' first|refine M.gw ?_|fail);refine AW.range l.length (fun m=>True)
  (fun m=>([(2,.ptr 0 0),(4,.ptr 1 0),(7,.s .tm l),(8,.i l.length),(9,.i m)],⟨2,[(0,.var ((l.take m).foldl A0 f).view),(1,.var [.i 0,.i 0,.i 0,.slice .nil (.t .ty []),.slice .nil (.t .tm [])])]⟩))
  (by omega) (fun m=>rfl) (fun m=>rfl) rfl trivial (M.W [some 0,some 1]) ?_ ?_
 .intro m hm hP;have e:(l.take (m+1)).foldl A0 f=A0 ((l.take m).foldl A0 f) l[m]:=by rw[<-Wv hm,YY];rfl
  have h2:=zm Tm.full l (m+1);have h3:=yk Tm.full l m hm;have h4:=hfull m (by omega);have h1:=CH 3 [(l.take m).foldl A0 f,l[m]] (by simp only[Wn,WI,Wt,WU];omega);(repeat' first|refine M.gw ?_|refine M.c2 (h1) ?_|fail);refine⟨rfl,trivial,?_⟩;exact(M.W [some 0,some 1] (he:=(by(repeat'(first|exact trivial|refine And.intro ?_ ?_|refine⟨_,U,_,U,_,U,?_⟩|exact Ao.refl _|exact Ao.of_eq (by simp[Aq.Ay,e,A0])));done)))
 .intro _;(repeat' first|refine M.gw ?_|fail);simp[zk,V.wk,V.Ap,zc,Ty.view,Tm.view]
end Go.Ab
