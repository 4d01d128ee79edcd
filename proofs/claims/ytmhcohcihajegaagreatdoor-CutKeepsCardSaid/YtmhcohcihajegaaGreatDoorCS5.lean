/- A part of this seat's proofs. No conditions. -/
import Derived.Test.YtmhcohcihajegaaGreatDoorCDT1
import Derived.Test.YtmhcohcihajegaaGreatDoorCS3
namespace Go.Ab
open Go Go.Proofs
set_option maxRecDepth 100000
set_option linter.all false
theorem Yp6(fr by_ i bl:Int)(hi:0<=i/\i<549755813888)(hb:0<=bl/\bl<1099511627776)(hy: -1099511627776<=by_/\by_<1099511627776):AC E 180 [.i i,.i bl,.ptr 0 0,.ptr 1 0] ⟨2,[(0,.var [.i fr]),(1,.var [.i by_])]⟩ (.agg (zi fr by_ i bl).view) ⟨2,[(0,.var [.i fr]),(1,.var [.i by_])]⟩:=by
 have hv:=TW;refine M.F Tryz.func180 ?_;(repeat' first|refine M.w0 ?_|refine M.c2 (hv _) ?_|refine M.cs ?_ ?_<;>intro h|fail)
 .have h':fr<=i-bl:=ku
  (exact M.n2 Bo (h8:=o7))
 .have h':¬fr<=i-bl:=ku
  (exact M.n2 Bo (h8:=o7))
theorem Yk2(fr by_:Int)(hy: -1099511627776<=by_/\by_<1099511627776):∀(n:Nat) (t:Tm) (bl:Int),t.full<=n->n<549755813888->0<=bl->bl+n<549755813888->(∀p∈t.vars bl,0<=p.1/\p.1<549755813888)->AC E 216 [.agg t.view,.i bl,.ptr 0 0,.ptr 1 0] ⟨4,[(0,.var [.fn (.func 180) [] [.ptr 2 0,.ptr 3 0]]),(1,.var [.fn (.func 216) [] [.ptr 0 0,.ptr 1 0]]),(2,.var [.i fr]),(3,.var [.i by_])]⟩ (.agg (t.re (zi fr by_) bl).view) ⟨4,[(0,.var [.fn (.func 180) [] [.ptr 2 0,.ptr 3 0]]),(1,.var [.fn (.func 216) [] [.ptr 0 0,.ptr 1 0]]),(2,.var [.i fr]),(3,.var [.i by_])]⟩:=by
 intro n;induction n with
 |zero=>intro t bl h;have:=t.Ad;omega
 |succ n ih=>
 intro t bl hsz hb hbl hbn hix;have hsz':=Tm.Ag t;have hlen:=ze Tm.full Tm.Ad t.args;have hv:=Tm.AY bl t;have hre:=Tm.A4 (zi fr by_) bl t;have hi:t.kind=1->0<=t.index/\t.index<549755813888:=fun h=>mG
 have hcb:t.kind=1->_:=fun h=>Yp6 fr by_ t.index bl (hi h) kn hy;have hown:=It _ t.ty (fB _) kn;refine M.F Tryz.func216 ?_;(repeat' first|refine M.w0 ?_|refine M.cv (hcb ku) [2,3] 0 ?_|refine M.c2 (hown) ?_|refine M.cs ?_ ?_<;>intro h|fail)
 .exact sG
 all_goals
  rename_i hk1;have hup:up t.kind bl<=bl+1:=kU
  have hup0:0<=up t.kind bl:=kU
  have hk1':¬t.kind=1:=by simpa using hk1
  refine M.rt t.args.length
   (fun m=>([(1,.i (up t.kind bl)),(3,.ptr 1 0),(6,.ptr 5 0),(7,.ptr 6 0),(32,.s .tm t.args),(33,.i t.args.length),(34,.i m)],⟨8,[(0,.var [.fn (.func 180) [] [.ptr 2 0,.ptr 3 0]]),(1,.var [.fn (.func 216) [] [.ptr 0 0,.ptr 1 0]]),(2,.var [.i fr]),(3,.var [.i by_]),(4,.var t.view),(5,.var [.i 0,.i 0,.i 0,.slice .nil (.t .ty []),.slice .nil (.t .tm [])]),(6,.var [.i t.kind,.i t.index,.i t.ty.kind,.s .ty t.ty.args,.slice (.own 7) (.t .tm ((t.args.take m).map (Tm.re (zi fr by_) (up t.kind bl))))]),(7,.row)]⟩))
   ?_ ?_ ?_
  .exact qa
  .intro m hm hP;have hs2:=zc Tm.full (fA hm);have hix':∀p∈(t.args[m]).vars (up t.kind bl),0<=p.1/\p.1<549755813888:=fun p hp=>hix p mJ;have hc:=ih t.args[m] (up t.kind bl) kn kn hup0 kn hix';(repeat' first|refine M.w0 ?_|refine M.cv (hc) [0,1,2,3] 0 ?_|fail);refine⟨rfl,trivial,?_⟩;exact(M.W [some 0,some 1,some 2,some 3,some 4,some 5,some 6,some 9] (he:=(by(repeat'(first|exact trivial|exact Or.inr ⟨_,U,rfl⟩|refine And.intro ?_ ?_|refine⟨_,U,_,U,_,U,?_⟩|exact Ap.refl _|exact Ap.of_eq kO));done)))
  .exact sg
theorem Yo4(fr by_:Int)(hy: -1099511627776<=by_/\by_<1099511627776)(t:Tm)(ht:t.full<274877906944)(hix:∀p∈t.vars 0,0<=p.1/\p.1<549755813888):AC E 179 [.agg t.view,.fn (.func 180) [] [.ptr 0 0,.ptr 1 0]] ⟨2,[(0,.var [.i fr]),(1,.var [.i by_])]⟩ (.agg (t.re (zi fr by_) 0).view) ⟨2,[(0,.var [.i fr]),(1,.var [.i by_])]⟩:=by
 have hc:=Yk2 fr by_ hy _ t 0 (fB _) kn kn kn hix;refine M.F Tryz.func179 ?_;(repeat' first|refine M.w0 ?_|refine M.cv (hc) [3,5,0,1] 0 ?_|fail)
 (exact M.n2 Bo (h8:=lN))
theorem eL(t:Tm)(fr by_:Int)(hy: -1099511627776<=by_/\by_<1099511627776)(ht:t.full<274877906944)(hix:∀p∈t.vars 0,0<=p.1/\p.1<549755813888):PC E 132 [.agg t.view,.i fr,.i by_] (.agg (t.re (zi fr by_) 0).view):=by
 have hc:=Yo4 fr by_ hy t ht hix;refine M.F Tryz.func132 ?_;(repeat' first|refine M.w0 ?_|refine M.cb (hc) [1,2] 0 ?_|fail);simp[zn,V.wk,V.Ar,za,Ty.view,Tm.view]
theorem Ys2(at_:Int)(s:Tm)(i bl:Int)(hat:0<=at_/\at_<549755813888)(hs:s.full<274877906944)(hsi:∀p∈s.vars 0,0<=p.1/\p.1<549755813888)(hi:0<=i/\i<9223372036854775808)(hb:0<=bl/\bl<549755813888):AC E 267 [.i i,.i bl,.ptr 0 0,.ptr 1 0] ⟨2,[(0,.var [.i at_]),(1,.var s.view)]⟩ (.agg (yq at_ s i bl).view) ⟨2,[(0,.var [.i at_]),(1,.var s.view)]⟩:=by
 have hv:=TW;have hl:=eL s 0 (at_+bl) kn hs hsi;refine M.F Tryz.func267 ?_;(repeat' first|refine M.w0 ?_|refine M.c2 (hv _) ?_|refine M.c2 (hl) ?_|refine M.bl ?_|refine M.cs ?_ ?_<;>intro h|fail)
 .have h':i-bl=at_:=ku
  (exact M.n2 Bo (h8:=(by simp[zn,V.wk,V.Ar,za,Ty.view,Tm.view,yq,h'])))
 .rename_i h0;have h0':¬i-bl=at_:=k8
  have h':at_<i-bl:=ku
  (exact M.n2 Bo (h8:=oR))
 .rename_i h0;have h0':¬i-bl=at_:=k8
  have h':¬at_<i-bl:=ku
  (exact M.n2 Bo (h8:=oR))
theorem Yqu(at_:Int)(s:Tm)(hat:0<=at_/\at_<549755813888)(hs:s.full<274877906944)(hsi:∀p∈s.vars 0,0<=p.1/\p.1<549755813888):∀(n:Nat) (t:Tm) (bl:Int),t.full<=n->n<549755813888->0<=bl->bl+n<549755813888->(∀p∈t.vars bl,0<=p.1/\p.1<9223372036854775808)->AC E 216 [.agg t.view,.i bl,.ptr 0 0,.ptr 1 0] ⟨4,[(0,.var [.fn (.func 267) [] [.ptr 2 0,.ptr 3 0]]),(1,.var [.fn (.func 216) [] [.ptr 0 0,.ptr 1 0]]),(2,.var [.i at_]),(3,.var s.view)]⟩ (.agg (t.re (yq at_ s) bl).view) ⟨4,[(0,.var [.fn (.func 267) [] [.ptr 2 0,.ptr 3 0]]),(1,.var [.fn (.func 216) [] [.ptr 0 0,.ptr 1 0]]),(2,.var [.i at_]),(3,.var s.view)]⟩:=by
 intro n;induction n with
 |zero=>intro t bl h;have:=t.Ad;omega
 |succ n ih=>
 intro t bl hsz hb hbl hbn hix;have hsz':=Tm.Ag t;have hlen:=ze Tm.full Tm.Ad t.args;have hv:=Tm.AY bl t;have hre:=Tm.A4 (yq at_ s) bl t;have hi:t.kind=1->0<=t.index/\t.index<9223372036854775808:=fun h=>mG
 have hcb:t.kind=1->_:=fun h=>Ys2 at_ s t.index bl hat hs hsi (hi h) kn;have hown:=It _ t.ty (fB _) kn;refine M.F Tryz.func216 ?_;(repeat' first|refine M.w0 ?_|refine M.cv (hcb ku) [2,3] 0 ?_|refine M.c2 (hown) ?_|refine M.cs ?_ ?_<;>intro h|fail)
 .exact sG
 all_goals
  rename_i hk1;have hup:up t.kind bl<=bl+1:=kU
  have hup0:0<=up t.kind bl:=kU
  have hk1':¬t.kind=1:=by simpa using hk1
  refine M.rt t.args.length
   (fun m=>([(1,.i (up t.kind bl)),(3,.ptr 1 0),(6,.ptr 5 0),(7,.ptr 6 0),(32,.s .tm t.args),(33,.i t.args.length),(34,.i m)],⟨8,[(0,.var [.fn (.func 267) [] [.ptr 2 0,.ptr 3 0]]),(1,.var [.fn (.func 216) [] [.ptr 0 0,.ptr 1 0]]),(2,.var [.i at_]),(3,.var s.view),(4,.var t.view),(5,.var [.i 0,.i 0,.i 0,.slice .nil (.t .ty []),.slice .nil (.t .tm [])]),(6,.var [.i t.kind,.i t.index,.i t.ty.kind,.s .ty t.ty.args,.slice (.own 7) (.t .tm ((t.args.take m).map (Tm.re (yq at_ s) (up t.kind bl))))]),(7,.row)]⟩))
   ?_ ?_ ?_
  .exact qa
  .intro m hm hP;have hs2:=zc Tm.full (fA hm);have hix':∀p∈(t.args[m]).vars (up t.kind bl),0<=p.1/\p.1<9223372036854775808:=fun p hp=>hix p mJ;have hc:=ih t.args[m] (up t.kind bl) kn kn hup0 kn hix';(repeat' first|refine M.w0 ?_|refine M.cv (hc) [0,1,2,3] 0 ?_|fail);refine⟨rfl,trivial,?_⟩;exact(M.W [some 0,some 1,some 2,some 3,some 4,some 5,some 6,some 9] (he:=(by(repeat'(first|exact trivial|exact Or.inr ⟨_,U,rfl⟩|refine And.intro ?_ ?_|refine⟨_,U,_,U,_,U,?_⟩|exact Ap.refl _|exact Ap.of_eq kO));done)))
  .exact sg
theorem Yt5(at_:Int)(s:Tm)(hat:0<=at_/\at_<549755813888)(hs:s.full<274877906944)(hsi:∀p∈s.vars 0,0<=p.1/\p.1<549755813888)(t:Tm)(ht:t.full<274877906944)(hix:∀p∈t.vars 0,0<=p.1/\p.1<9223372036854775808):AC E 179 [.agg t.view,.fn (.func 267) [] [.ptr 0 0,.ptr 1 0]] ⟨2,[(0,.var [.i at_]),(1,.var s.view)]⟩ (.agg (t.re (yq at_ s) 0).view) ⟨2,[(0,.var [.i at_]),(1,.var s.view)]⟩:=by
 have hc:=Yqu at_ s hat hs hsi _ t 0 (fB _) kn kn kn hix;refine M.F Tryz.func179 ?_;(repeat' first|refine M.w0 ?_|refine M.cv (hc) [3,5,0,1] 0 ?_|fail)
 (exact M.n2 Bo (h8:=lN))
theorem Ys8(t:Tm)(at_:Int)(s:Tm)(hat:0<=at_/\at_<549755813888)(hs:s.full<274877906944)(hsi:∀p∈s.vars 0,0<=p.1/\p.1<549755813888)(ht:t.full<274877906944)(hix:∀p∈t.vars 0,0<=p.1/\p.1<9223372036854775808):PC E 250 [.agg t.view,.i at_,.agg s.view] (.agg (t.re (yq at_ s) 0).view):=by
 have hc:=Yt5 at_ s hat hs hsi t ht hix;refine M.F Tryz.func250 ?_;(repeat' first|refine M.w0 ?_|refine M.cb (hc) [1,2] 0 ?_|fail);simp[zn,V.wk,V.Ar,za,Ty.view,Tm.view]
theorem YS(t:Tm)(at_:Int)(s:Tm)(hat:0<=at_/\at_<549755813888)(hs:s.full<274877906944)(hsi:∀p∈s.vars 0,0<=p.1/\p.1<549755813888)(ht:t.full<274877906944)(hix:∀p∈t.vars 0,0<=p.1/\p.1<549755813888):PC E 250 [.agg t.view,.i at_,.agg s.view] (.agg (t.re (yq at_ s) 0).view):=
 Ys8 t at_ s hat hs hsi ht fun p hp=>by have:=hix p hp;omega
theorem Zsk(t:Tm)(fr by_:Int)(ht:t.full<274877906944):PC E 209 [.agg t.view,.i fr,.i by_] (.AP [.agg (if wm t fr by_=0 then t.re (zi fr by_) 0 else AB).view,.i (wm t fr by_)]):=by
 have h1:=Yma t kn;have h2:=ZM fr;have h3:=ZM by_;have h4:=QY t kn;have h5:t.err=0->t.near=true->(0<=by_/\by_<=4096)->_:=fun h hn hy=>eL t fr by_ kn ht (Uz h hn);refine M.F Tryz.func209 ?_;(repeat' first|refine M.w4 @h1 @h2 @h3 @h4 ?_|refine M.c2 (h5 kP kP kP) ?_|refine M.gs ?_ ?_<;>intro h|refine M.cs ?_ ?_<;>intro h|fail)
 .have e':t.err≠0:=ku
  have e:wm t fr by_=t.err:=by simp only[wm];rw[if_pos e']
  simp[zn,V.wk,V.Ar,za,Ty.view,Tm.view,e,AB,e']
 .rename_i h0;have e':¬t.err≠0:=k8
  have e:wm t fr by_=1:=by simp only[wm];rw[if_neg e',if_pos (.inl (by intro hc;simp[hc] at h))]
  simp[zn,V.wk,V.Ar,za,Ty.view,Tm.view,e,AB]
 .rename_i h0 h1;have e':¬t.err≠0:=k8
  have e:wm t fr by_=1:=by simp only[wm];rw[if_neg e',if_pos (.inr (.inl (by intro hc;simp[hc] at h)))]
  simp[zn,V.wk,V.Ar,za,Ty.view,Tm.view,e,AB]
 .rename_i h0 h1 h2;have e':¬t.err≠0:=k8
  have e:wm t fr by_=1:=by simp only[wm];rw[if_neg e',if_pos (.inr (.inr ku))]
  simp[zn,V.wk,V.Ar,za,Ty.view,Tm.view,e,AB]
 .rename_i h0 h1 h2;have e':¬t.err≠0:=k8
  have e:wm t fr by_=0:=by
   simp only[wm];rw[if_neg e',if_neg];rintro(hc|hc|hc)
   .simp at h1;omega
   .simp at h2;omega
   .simp[hc] at h
  simp[zn,V.wk,V.Ar,za,Ty.view,Tm.view,e,AB]
theorem Yrb(g:List Ty)(t:Ty)(hg:(g.map Ty.size).sum<1099511627776):PC E 117 [.s .ty g,.agg t.view] (.s .int (v9 g t)):=by
 have hlen:=ze Ty.size Ty.size_pos g;refine M.F Tryz.func117 ?_;refine M.w0 ?_;refine M.rt g.length
  (fun m=>([(0,.s .ty g),(3,.ptr 0 0),(5,.slice (.own 1) (.t .int (((List.range m).filter fun i=>decide (g[g.length-1-i]? =some t)).map Int.ofNat))),(8,.i g.length),(9,.i m)],⟨2,[(0,.var t.view),(1,.row)]⟩))
  (M.W Rb) ?_ ?_
 .intro m hm hP;have hm2:g.length-1-m<g.length:=kn
  have hs2:=zc Ty.size (fA hm2);have hsame:=wz _ g[g.length-1-m] t (fB _) kn;have hg:g[g.length-1-m]? =some g[g.length-1-m]:=fG hm2;have hfl:(List.filter (fun i=>decide (g[g.length-1-i]? =some t)) (List.range m)).length<=m:=by have:=i6 (fun i=>decide (g[g.length-1-i]? =some t)) (List.range m);simpa using this
  refine M.w0 ?_;refine L.Fc (g.length-1-m) rfl rfl rfl rfl kn rfl rfl kn ?_;(repeat' first|refine M.w1 @hsame ?_|refine M.cs ?_ ?_<;>intro h|fail)
  .exact ⟨rfl,trivial,(M.W [some 0,some 2] (hf:=(by(repeat'(first|exact trivial|refine And.intro ?_ ?_|refine⟨_,U,_,U,?_⟩|exact Ap.refl _|exact Ap.of_eq (by simp[Ao.AH,List.range_succ,hg,of_decide_eq_true h])));done)))⟩
  .exact ⟨rfl,trivial,(M.W Bo (hf:=(by(repeat'(first|exact trivial|refine And.intro ?_ ?_|refine⟨_,U,_,U,?_⟩|exact Ap.refl _|exact Ap.of_eq (by simp[Ao.AH,List.range_succ,hg,of_decide_eq_false h])));done)))⟩
 .intro _;refine M.w0 ?_;simp[zn,V.wk,V.Ar]
  rfl
end Go.Ab
namespace Go.Ab
open Go Go.Proofs
set_option maxRecDepth 100000
set_option maxHeartbeats 4000000
set_option linter.all false
theorem OZ(k:Int):PC E 130 [.i k] (.bool (wc k)):=by
 refine M.F Tryz.func130 ?_;(repeat' first|refine M.w0 ?_|refine M.gs ?_ ?_<;>intro h|fail);all_goals(simp_all[zn,V.wk,V.Ar,za,wc];try omega)
theorem Yib(f:Fm)(ht:f.ty.size<1099511627776):PC E 246 [.agg f.view] (.bool f.head):=by
 have h1:=Vh f.ty;have h2:=Vk f.ty ht;have hok:=Ty.Fq f.ty;obtain⟨k,h,ts,fs⟩:=f;simp only[Fm.AO] at*;have hk:k=1\/k=2\/k=3\/k=4\/k=5\/k=6\/k=7\/(k≠1/\k≠2/\k≠3/\k≠4/\k≠5/\k≠6/\k≠7):=kn
 rcases hk with rfl|rfl|rfl|rfl|rfl|rfl|rfl|hk
 .cases hn:h.Bv with
  |false=>
   rw[hn] at h1;refine M.F Tryz.func246 ?_;refine M.v1 @h1 ?_;simp[zn,V.wk,V.Ar,za,Fm.head,hn]
  |true=>
   rw[hn] at h1;refine M.F Tryz.func246 ?_;(repeat' first|refine M.w1 @h1 ?_|refine M.gs ?_ ?_<;>intro h|refine M.bl ?_|fail)
   .have h':ts.length=2:=kS
    have e:((fs.length:Int)==0)=(fs.length==0):=by rw[ig];simp
    simp[zn,V.wk,V.Ar,za,Fm.head,hn,h',e]
   .have h':¬ts.length=2:=kS
    simp[zn,V.wk,V.Ar,za,Fm.head,hn,h']
 all_goals first
  |(cases hn:h.Bv with
    |false=>
     rw[hn] at h1;refine M.F Tryz.func246 ?_;(repeat' first|refine M.v1 @h1 ?_|refine M.cs ?_ ?_<;>intro h|fail);simp[zn,V.wk,V.Ar,za,Fm.head,hn];done
    |true=>
     rw[hn] at h1;refine M.F Tryz.func246 ?_;(repeat' first|refine M.w1 @h1 ?_|refine M.gs ?_ ?_<;>intro h|refine M.bl ?_|fail)
     .have h':ts.length=0:=by simp at h;simp[h]
      have e:((fs.length:Int)==2)=(fs.length==2):=m6
      simp[zn,V.wk,V.Ar,za,Fm.head,hn,h',e]
     .have h':¬ts.length=0:=by simp at h;simpa using h
      simp[zn,V.wk,V.Ar,za,Fm.head,hn,h'];done)
  |(by_cases hn:h.err=0
    .rw[hn] at h2;refine M.F Tryz.func246 ?_;(repeat' first|refine M.w1 @h2 ?_|refine M.gs ?_ ?_<;>intro h|refine M.bl ?_|refine M.cs ?_ ?_<;>intro h|fail)
     .have h':ts.length=0:=by simp at h;simp[h]
      have e:((fs.length:Int)==1)=(fs.length==1):=m6
      simp[zn,V.wk,V.Ar,za,Fm.head,hok,hn,h',e]
     .have h':¬ts.length=0:=by simp at h;simpa using h
      simp[zn,V.wk,V.Ar,za,Fm.head,hok,hn,h'];done
    .have hb:(h.err !=0)=true:=by simpa using hn
     refine M.F Tryz.func246 ?_;(repeat' first|refine M.w1 @h2 ?_|refine M.gs ?_ ?_<;>intro h|refine M.bl ?_|refine M.cs ?_ ?_<;>intro h|fail)
     .simp[zn,V.wk,V.Ar,za,Fm.head,hok,hn]
     all_goals(exfalso;simp_all;done))
  |(refine M.F Tryz.func246 ?_
    (repeat' first|refine M.v0 ?_|refine M.cs ?_ ?_<;>intro h|fail);all_goals first
     |(exfalso;simp_all;done)
     |(simp[zn,V.wk,V.Ar,za,Fm.head,hk];done))
theorem Zl8:∀(b:Nat) (f:Fm),f.full<=b->b<1099511627776->PC E 223 [.agg f.view] (.AP [.i f.nodes,.bool f.shape]):=by
 intro b;induction b with
 |zero=>intro f h;have:=f.Ad;omega
 |succ b ih=>
 intro f hsz hb;have hsz':=f.Ag;have hse:=f.size_eq;have hle:=f.An;have hlen:=ze Fm.full Fm.Ad f.args;have hlen2:=ze Tm.full Tm.Ad f.terms;have hsh:=f.Ak;have h1:=Yib f kn;cases hh:f.head with
 |false=>
  rw[hh] at h1 hsh;have e:f.shape=false:=by rw[hsh];rfl
  rw[show f.nodes=0 by simp[Fm.nodes,e],e];refine M.F Tryz.func223 ?_;refine M.w1 @h1 ?_
  rfl
 |true=>
 rw[hh] at h1 hsh;refine M.F Tryz.func223 ?_;refine M.w1 @h1 ?_;refine M.rp f.terms.length (fun m=>∀j (hj:j<f.terms.length),j<m->(f.terms[j]).shape=true)
  (fun m=>([(1,.ptr 0 0),(4,.i (1+((f.terms.take m).map Tm.size).sum:Nat)),(17,.s .tm f.terms),(18,.i f.terms.length),(19,.i m)],⟨1,[(0,.var f.view)]⟩))
  (fun j hj h=>kn) (M.W AJ) ?_ ?_
 .intro m hm hP;have hs1:=yz Tm.size f.terms m hm;have hs2:=zc Tm.full (fA hm);have hs3:=zw Tm.size f.terms m;have hs4:=x6 (f:=Tm.size) (g:=Tm.full) f.terms fun x _=>x.An;have hs5:=f.terms[m].An;have hc:=eR _ f.terms[m] (fB _) kn;cases hx:(f.terms[m]).shape with
  |false=>
   rw[show LN f.terms[m]= .AP [.i 0,.bool false] by simp[LN,Tm.nodes,hx]] at hc;have e:f.shape=false:=by rw[hsh,u2 Tm.shape hm hx];rfl
   rw[show f.nodes=0 by simp[Fm.nodes,e],e];refine M.w1 @hc ?_
   rfl
  |true=>
   rw[show LN f.terms[m]= .AP [.i f.terms[m].size,.bool true] by simp[LN,Tm.nodes,hx]] at hc;refine M.w1 @hc ?_;refine⟨rfl,ym (p:=fun t=>Tm.shape t=true) hm hP hx,?_⟩;simp only[hs1];exact(M.W AJ (hf:=(by(repeat'(first|exact trivial|refine And.intro ?_ ?_|refine⟨_,U,_,U,?_⟩|exact Ap.refl _|exact Ap.of_eq lJ));done)))
 .intro hP;have hpt:=Gy Tm.shape f.terms fun j hj=>hP j hj hj;rw[hpt] at hsh;simp only[fH];refine M.w0 ?_;refine M.rp f.args.length (fun m=>∀j (hj:j<f.args.length),j<m->(f.args[j]).shape=true)
   (fun m=>([(1,.ptr 0 0),(4,.i (1+(f.terms.map Tm.size).sum+((f.args.take m).map Fm.size).sum:Nat)),(35,.s .fm f.args),(36,.i f.args.length),(37,.i m)],⟨1,[(0,.var f.view)]⟩))
   (fun j hj h=>kn) (M.W AJ) ?_ ?_
  .intro m hm hP;have hs0:=x6 (f:=Tm.size) (g:=Tm.full) f.terms fun x _=>x.An;have hs1:=yz Fm.size f.args m hm;have hs2:=zc Fm.full (fA hm);have hs3:=zw Fm.size f.args m;have hs4:=x6 (f:=Fm.size) (g:=Fm.full) f.args fun x _=>x.An;have hs5:=f.args[m].An;have hc:=ih f.args[m] kn kn;cases hx:(f.args[m]).shape with
   |false=>
    rw[hx,show(f.args[m]).nodes=0 by simp[Fm.nodes,hx]] at hc;have e:f.shape=false:=by rw[hsh,u2 Fm.shape hm hx];rfl
    rw[show f.nodes=0 by simp[Fm.nodes,e],e];refine M.w1 @hc ?_
    rfl
   |true=>
    rw[hx,show(f.args[m]).nodes=(f.args[m]).size by simp[Fm.nodes,hx]] at hc;refine M.w1 @hc ?_;refine⟨rfl,ym (p:=fun t=>Fm.shape t=true) hm hP hx,?_⟩;simp only[hs1];exact(M.W AJ (hf:=(by(repeat'(first|exact trivial|refine And.intro ?_ ?_|refine⟨_,U,_,U,?_⟩|exact Ap.refl _|exact Ap.of_eq lJ));done)))
  .intro hP;have hpa:=Gy Fm.shape f.args fun j hj=>hP j hj hj;rw[hpa] at hsh;have e:f.shape=true:=hsh;rw[show f.nodes=f.size by simp[Fm.nodes,e],e,hse];simp only[fH];refine M.w0 ?_
   rfl
theorem VU(f:Fm)(hf:f.full<1099511627776):PC E 203 [.agg f.view] (.AP [.i f.num,.i f.err]):=by
 have h1:=Zl8 _ f (fB _) hf;have hle:=f.An;cases hs:f.shape with
 |false=>
  have e:f.err=2:=by simp[Fm.err,hs]
  rw[hs,show f.nodes=0 by simp[Fm.nodes,hs]] at h1;rw[show f.num=0 by simp[Fm.num,e],e];refine M.F Tryz.func203 ?_;(repeat' first|refine M.w1 @h1 ?_|refine M.zb ?_|fail)
  rfl
 |true=>
  rw[hs,show f.nodes=f.size by simp[Fm.nodes,hs]] at h1;by_cases hz:f.size>4096
  .have e:f.err=4:=mX
   rw[show f.num=0 by simp[Fm.num,e],e];refine M.F Tryz.func203 ?_;(repeat' first|refine M.w1 @h1 ?_|refine M.zb ?_|refine M.cs ?_ ?_<;>intro h|fail)
   .rfl
   .exact qW
  .have e:f.err=0:=mX
   rw[show f.num=f.size by simp[Fm.num,e],e];refine M.F Tryz.func203 ?_;(repeat' first|refine M.w1 @h1 ?_|refine M.zb ?_|refine M.cs ?_ ?_<;>intro h|fail)
   .exact qW
   .rfl
theorem Js(k:Int):PC E 164 [.i k] (.AP [.agg (Ds k),.bool (B6 k).isSome]):=by
 by_cases hk:1<=k/\k<=20
 .have:k=1\/k=2\/k=3\/k=4\/k=5\/k=6\/k=7\/k=8\/k=9\/k=10\/k=11\/k=12\/k=13\/k=14\/k=15\/k=16\/k=17\/k=18\/k=19\/k=20:=kn
  rcases this with rfl|rfl|rfl|rfl|rfl|rfl|rfl|rfl|rfl|rfl|rfl|rfl|rfl|rfl|rfl|rfl|rfl|rfl|rfl|rfl;all_goals(refine M.F Tryz.func164 ?_)
  all_goals(refine M.w0 ?_)
  all_goals(first|(refine L.Dq 1 rfl rfl rfl rfl rfl ?_ ?_ rfl ?_;decide;decide)|(refine L.Dq 2 rfl rfl rfl rfl rfl ?_ ?_ rfl ?_;decide;decide)|(refine L.Dq 3 rfl rfl rfl rfl rfl ?_ ?_ rfl ?_;decide;decide)|(refine L.Dq 4 rfl rfl rfl rfl rfl ?_ ?_ rfl ?_;decide;decide)|(refine L.Dq 5 rfl rfl rfl rfl rfl ?_ ?_ rfl ?_;decide;decide)|(refine L.Dq 6 rfl rfl rfl rfl rfl ?_ ?_ rfl ?_;decide;decide)|(refine L.Dq 7 rfl rfl rfl rfl rfl ?_ ?_ rfl ?_;decide;decide)|(refine L.Dq 8 rfl rfl rfl rfl rfl ?_ ?_ rfl ?_;decide;decide)|(refine L.Dq 9 rfl rfl rfl rfl rfl ?_ ?_ rfl ?_;decide;decide)|(refine L.Dq 10 rfl rfl rfl rfl rfl ?_ ?_ rfl ?_;decide;decide)|(refine L.Dq 11 rfl rfl rfl rfl rfl ?_ ?_ rfl ?_;decide;decide)|(refine L.Dq 12 rfl rfl rfl rfl rfl ?_ ?_ rfl ?_;decide;decide)|(refine L.Dq 13 rfl rfl rfl rfl rfl ?_ ?_ rfl ?_;decide;decide)|(refine L.Dq 14 rfl rfl rfl rfl rfl ?_ ?_ rfl ?_;decide;decide)|(refine L.Dq 15 rfl rfl rfl rfl rfl ?_ ?_ rfl ?_;decide;decide)|(refine L.Dq 16 rfl rfl rfl rfl rfl ?_ ?_ rfl ?_;decide;decide)|(refine L.Dq 17 rfl rfl rfl rfl rfl ?_ ?_ rfl ?_;decide;decide)|(refine L.Dq 18 rfl rfl rfl rfl rfl ?_ ?_ rfl ?_;decide;decide)|(refine L.Dq 19 rfl rfl rfl rfl rfl ?_ ?_ rfl ?_;decide;decide)|(refine L.Dq 20 rfl rfl rfl rfl rfl ?_ ?_ rfl ?_;decide;decide))
  all_goals(refine M.w0 ?_)
  all_goals rfl
 .have e:B6 k=none:=by
   unfold B6
   repeat rw[if_neg kn]
  have e2:Ds k=[.bool false,.bool false,.i 0,.i 0,.i 0,.i 0,.i 0,.i 0]:=by unfold Ds;rw[e]
  rw[e,e2];refine M.F Tryz.func164 ?_;(repeat' first|refine M.w0 ?_|refine M.gs ?_ ?_<;>intro h|refine M.cs ?_ ?_<;>intro h|fail);all_goals first
   |rfl
   |(exfalso;simp at*;omega)
end Go.Ab
