/- A part of this seat's proofs. No conditions. -/
import Derived.Test.YtmhcohcihajegaaGreatDoorHS1
namespace Go.Ab
open Go Go.Proofs
set_option maxRecDepth 100000
set_option linter.all false
theorem Zdf(i:Int):PC E 62 [.i i] (.agg (Tm.mk 1 i (.mk 0 []) []).view):=by
 refine M.F Tryz.func62 ?_;refine M.w0 ?_;simp[zn,V.wk,V.wks,za,Ty.view,Tm.view]
theorem Yjf(i:Int):PC E 181 [.i i] (.agg (Tm.mk 1 i (.mk 0 []) []).view):=by
 refine M.F Tryz.func181 ?_;refine M.w0 ?_;simp[zn,V.wk,V.wks,za,Ty.view,Tm.view]
theorem u6:PC E 52 [] (.agg (Ty.mk 1 []).view):=by
 refine M.F Tryz.func52 ?_;refine M.w0 ?_;simp[zn,V.wk,V.wks,za,Ty.view,Tm.view]
theorem Za3:PC E 65 [] (.agg (Ty.mk 2 []).view):=by
 refine M.F Tryz.func65 ?_;refine M.w0 ?_;simp[zn,V.wk,V.wks,za,Ty.view,Tm.view]
theorem Zxb:PC E 114 [] (.agg (Ty.mk 5 []).view):=by
 refine M.F Tryz.func114 ?_;refine M.w0 ?_;simp[zn,V.wk,V.wks,za,Ty.view,Tm.view]
theorem Ykl(x y:Ty)(hx:x.size<1099511627776)(hy:y.size<1099511627776):PC E 115 [.agg x.view,.agg y.view] (.agg (Ty.mk 3 [x,y]).view):=by
 have h1:=vq _ x (Nat.le_refl _) hx;have h2:=vq _ y (Nat.le_refl _) hy;refine M.F Tryz.func115 ?_;refine M.w2 @h1 @h2 ?_;simp[zn,V.wk,V.wks,za,Ty.view,Tm.view]
theorem Zrj(x y:Ty)(hx:x.size<1099511627776)(hy:y.size<1099511627776):PC E 116 [.agg x.view,.agg y.view] (.agg (Ty.mk 4 [x,y]).view):=by
 have h1:=vq _ x (Nat.le_refl _) hx;have h2:=vq _ y (Nat.le_refl _) hy;refine M.F Tryz.func116 ?_;refine M.w2 @h1 @h2 ?_;simp[zn,V.wk,V.wks,za,Ty.view,Tm.view]
theorem Zma(t:Ty):PC E 200 [.agg t.view] (.bool t.isNo):=by
 refine M.F Tryz.func200 ?_;(repeat' first|refine M.w0 ?_|refine M.gs ?_ ?_<;>intro h|fail);all_goals simp_all[zn,V.wk,V.wks,za,Ty.isNo]
 rw[Bool.eq_iff_iff];simp
theorem Yhh(k:Int):PC E 245 [.i k] (.bool (we k)):=by
 refine M.F Tryz.func245 ?_;(repeat' first|refine M.w0 ?_|refine M.gs ?_ ?_<;>intro h|fail);all_goals simp_all[zn,V.wk,V.wks,za,we]
theorem Zi9(t:Ty)(ht:t.size<1099511627776):PC E 199 [.agg t.view] (.tup [.i t.num,.i t.err]):=by
 have h1:=Zq3 _ t (Nat.le_refl _) ht;refine M.F Tryz.func199 ?_;(repeat' first|refine M.w1 @h1 ?_|refine M.zb ?_|refine M.cs ?_ ?_<;>intro h|fail);all_goals simp_all[zn,V.wk,V.wks,za,Ty.num,Ty.err,Ty.nodes]
 all_goals(first|omega|(split<;>first|omega|simp_all))
theorem Yfv(k:Int):PC E 244 [.i k] (.tup [.i ((arK k).getD 0),.bool (arK k).isSome]):=by
 refine M.F Tryz.func244 ?_;(repeat' first|refine M.w0 ?_|refine M.gs ?_ ?_<;>intro h|refine M.cs ?_ ?_<;>intro h|fail)
 ·have:arK k=none:=by simp at h;simp only[arK];(repeat' rw[if_neg (by omega)])
  simp[this,zn,V.wk,V.wks,za]
 ·have:arK k=none:=by simp at h;simp only[arK];(repeat' rw[if_neg (by omega)])
  simp[this,zn,V.wk,V.wks,za]
 ·rename_i h0;simp at h h0;have:k=1\/k=2\/k=3\/k=4\/k=5\/k=6\/k=7\/k=8\/k=9\/k=10\/k=11\/k=12\/k=13:=by omega
  rcases this with rfl|rfl|rfl|rfl|rfl|rfl|rfl|rfl|rfl|rfl|rfl|rfl|rfl
  ·refine L.ixa 1 rfl rfl rfl rfl rfl ?_ ?_ rfl ?_
   ·decide
   ·decide
   refine M.w0 ?_
   rfl
  ·refine L.ixa 2 rfl rfl rfl rfl rfl ?_ ?_ rfl ?_
   ·decide
   ·decide
   refine M.w0 ?_
   rfl
  ·refine L.ixa 3 rfl rfl rfl rfl rfl ?_ ?_ rfl ?_
   ·decide
   ·decide
   refine M.w0 ?_
   rfl
  ·refine L.ixa 4 rfl rfl rfl rfl rfl ?_ ?_ rfl ?_
   ·decide
   ·decide
   refine M.w0 ?_
   rfl
  ·refine L.ixa 5 rfl rfl rfl rfl rfl ?_ ?_ rfl ?_
   ·decide
   ·decide
   refine M.w0 ?_
   rfl
  ·refine L.ixa 6 rfl rfl rfl rfl rfl ?_ ?_ rfl ?_
   ·decide
   ·decide
   refine M.w0 ?_
   rfl
  ·refine L.ixa 7 rfl rfl rfl rfl rfl ?_ ?_ rfl ?_
   ·decide
   ·decide
   refine M.w0 ?_
   rfl
  ·refine L.ixa 8 rfl rfl rfl rfl rfl ?_ ?_ rfl ?_
   ·decide
   ·decide
   refine M.w0 ?_
   rfl
  ·refine L.ixa 9 rfl rfl rfl rfl rfl ?_ ?_ rfl ?_
   ·decide
   ·decide
   refine M.w0 ?_
   rfl
  ·refine L.ixa 10 rfl rfl rfl rfl rfl ?_ ?_ rfl ?_
   ·decide
   ·decide
   refine M.w0 ?_
   rfl
  ·refine L.ixa 11 rfl rfl rfl rfl rfl ?_ ?_ rfl ?_
   ·decide
   ·decide
   refine M.w0 ?_
   rfl
  ·refine L.ixa 12 rfl rfl rfl rfl rfl ?_ ?_ rfl ?_
   ·decide
   ·decide
   refine M.w0 ?_
   rfl
  ·refine L.ixa 13 rfl rfl rfl rfl rfl ?_ ?_ rfl ?_
   ·decide
   ·decide
   refine M.w0 ?_
   rfl
end Go.Ab
namespace Go.Ab
open Go Go.Proofs
set_option maxRecDepth 100000
set_option maxHeartbeats 4000000
set_option linter.all false
theorem Za8:∀(b:Nat) (t:Tm),t.full<=b->b<1099511627776->PC E 86 [.agg t.view] (.agg t.view):=by
 intro b;induction b with
 |zero=>intro t h;have:=t.full_pos;omega
 |succ b ih=>
 intro t hsz hb;have hsz':=Tm.full_eq t;have hlen:=zg Tm.full Tm.full_pos t.args;have hty:=vq _ t.ty (Nat.le_refl _) (by omega);refine M.F Tryz.func86 ?_;refine M.w0 ?_;refine M.rt t.args.length
  (fun m=>([(1,.ptr 0 0),(2,.ptr 1 0),(3,.slice (.own 2) (.t .tm (t.args.take m))),(7,.s .tm t.args),(8,.i t.args.length),(9,.i m)],⟨3,[(0,.var t.view),(1,.var [.i 0,.i 0,.i 0,.slice .nil (.t .ty []),.slice .nil (.t .tm [])]),(2,.row)]⟩))
  (M.W rn2) ?_ ?_
 ·intro m hm hP;have hs2:=zc Tm.full (List.getElem_mem hm);(repeat' first|refine M.w0 ?_|refine M.c2 (ih _ ?_ ?_) ?_|exact M.le|exact M.lt|fail);exact⟨rfl,trivial,(M.W [some 0,some 1,some 4] (hf:=(by(repeat'(first|exact trivial|refine And.intro ?_ ?_|refine⟨_,U,_,U,?_⟩|exact VLe.refl _|exact VLe.of_eq (by simp[Sto.upd,List.take_append_getElem])));done)))⟩
 ·intro hP;refine M.w1 @hty ?_;simp[zn,V.wk,V.wks,za,Ty.view,Tm.view]
theorem n_c(k:Int)(l:List Tm)(hl:(l.map Tm.full).sum<1099511627776):PC E 37 [.i k,.s .tm l] (.agg (Tm.mk k 0 (.mk 0 []) l).view):=by
 have hlen:=zg Tm.full Tm.full_pos l;refine M.F Tryz.func37 ?_;refine M.w0 ?_;refine M.rt l.length
  (fun m=>([(0,.i k),(4,.ptr 0 0),(5,.slice (.own 1) (.t .tm (l.take m))),(8,.s .tm l),(9,.i l.length),(10,.i m)],⟨2,[(0,.var [.i 0,.i 0,.i 0,.slice .nil (.t .ty []),.slice .nil (.t .tm [])]),(1,.row)]⟩))
  (M.W rn1) ?_ ?_
 ·intro m hm hP;have hs2:=zc Tm.full (List.getElem_mem hm);(repeat' first|refine M.w0 ?_|refine M.c2 (Za8 _ _ (Nat.le_refl _) ?_) ?_|exact M.lt|fail);exact⟨rfl,trivial,(M.W [some 0,some 3] (hf:=(by(repeat'(first|exact trivial|refine And.intro ?_ ?_|refine⟨_,U,_,U,?_⟩|exact VLe.refl _|exact VLe.of_eq (by simp[Sto.upd,List.take_append_getElem])));done)))⟩
 ·intro hP;refine M.w0 ?_;simp[zn,V.wk,V.wks,za,Ty.view,Tm.view]
theorem t_c(k:Int)(s:Ty)(l:List Tm)(hl:(l.map Tm.full).sum<1099511627776)(hs:s.size<1099511627776):PC E 96 [.i k,.agg s.view,.s .tm l] (.agg (Tm.mk k 0 s l).view):=by
 have h1:=n_c k l hl;have h2:=vq _ s (Nat.le_refl _) hs;refine M.F Tryz.func96 ?_;refine M.w2 @h1 @h2 ?_;simp[zn,V.wk,V.wks,za,Ty.view,Tm.view]
theorem Ty.ok_err(t:Ty):t.ok=(t.err==0):=by
 simp only[Ty.ok,Ty.err];cases t.shape
 ·simp
 ·by_cases h:t.size<=64
  ·have:¬t.size>64:=by omega
   simp[h,this]
  ·have:t.size>64:=by omega
   simp[h,this]
theorem Tm.head_eq(t:Tm):t.head=(!(!(arK t.kind).isSome)&& !((t.args.length:Int) !=(((arK t.kind).getD 0:Nat):Int))&& !decide (t.index<0)&&(!(t.index !=0)|| !(t.kind !=1))&&(bif we t.kind then !(t.ty.err !=0) else !(!t.ty.isNo))):=by
 simp only[Tm.head,Ty.ok_err];cases hk:arK t.kind with
 |none=>simp
 |some n=>
  have h1:(t.args.length==n)= !((t.args.length:Int) !=((n:Nat):Int)):=by rw[Bool.eq_iff_iff];simp;omega
  have h2:decide (0<=t.index)= !decide (t.index<0):=by rw[Bool.eq_iff_iff];simp
  simp[h1,h2,bne]
theorem Zjm:∀(b:Nat) (t:Tm),t.full<=b->b<1099511627776->PC E 222 [.agg t.view] (Ziw t):=by
 intro b;induction b with
 |zero=>intro t h;have:=t.full_pos;omega
 |succ b ih=>
 intro t hsz hb;have hsz':=Tm.full_eq t;have hszz:=Tm.size_eq t;have hle:=Tm.size_le_full t;have hlen:=zg Tm.full Tm.full_pos t.args;have hsh:=Tm.shape_eq t;have h1:=Yfv t.kind;have h2:=Yhh t.kind;have h3:=Zma t.ty;have h4:=Zi9 t.ty (by omega);have bad:t.shape=false->(V.tup [.i 0,.bool false])=Ziw t:=fun h=>by simp[Ziw,Tm.nodes,h]
 refine M.F Tryz.func222 ?_;(repeat' first|refine M.w4 @h1 @h2 @h3 @h4 ?_|refine M.gs ?_ ?_<;>intro h|refine M.cs ?_ ?_<;>intro h|fail);all_goals first
  |(have hd:t.head=false:=by rw[t.head_eq];simp_all
    have:t.shape=false:=by rw[hsh,hd,Bool.false_and]
    simp[Tm.nodes,this,zn,za,V.wk,V.wks];done)
  |(have hd:t.head=true:=by rw[t.head_eq];simp_all
    refine M.rp t.args.length (fun m=>∀j (hj:j<t.args.length),j<m->(t.args[j]).shape=true)
     (fun m=>([(1,.ptr 0 0),(8,.i (1+((t.args.take m).map Tm.size).sum)),(59,.s .tm t.args),(60,.i t.args.length),(61,.i m)],⟨1,[(0,.var t.view)]⟩))
     (by intro j hj h;omega) (M.W rh1) ?_ ?_
    ·intro m hm hP;have hs1:=xd Tm.size t.args m hm;have hs2:=zc Tm.full (List.getElem_mem hm);have hs3:=ya Tm.size t.args (m+1);have hs4:=Tm.nodes_le t.args[m];have hs5:=Tm.size_le_full t.args[m];(repeat' first|refine M.w0 ?_|refine M.c2 (ih _ ?_ ?_) ?_|refine M.cs ?_ ?_<;>intro h|exact M.le|exact M.lt|fail)
     ·have h1:(t.args[m]).shape=false:=by simpa using h
      have:t.shape=false:=by rw[hsh,ul Tm.shape hm h1,Bool.and_false]
      simp[Tm.nodes,this,zn,za,V.wk,V.wks]
     ·have hh:(t.args[m]).shape=true:=by simpa using h
      refine⟨rfl,yj (p:=fun t=>Tm.shape t=true) hm hP hh,?_⟩;have e:(1+((((t.args.take (m+1)).map Tm.size).sum:Nat):Int))=1+(((t.args.take m).map Tm.size).sum:Nat)+t.args[m].nodes:=by simp only[Tm.nodes,hh,hs1];simp;omega
      simp only[e];exact(M.W rh1)
    ·intro hP;have:t.shape=true:=by simp only[hsh,hd,Zbu Tm.shape t.args fun j hj=>hP j hj hj];simp
     refine M.w0 ?_;simp[Tm.nodes,this,zn,za,hszz,V.wk,V.wks])
theorem Zom(t:Tm)(ht:t.full<1099511627776):PC E 202 [.agg t.view] (.tup [.i t.num,.i t.err]):=by
 have h1:=Zjm _ t (Nat.le_refl _) ht;refine M.F Tryz.func202 ?_;(repeat' first|refine M.w1 @h1 ?_|refine M.zb ?_|refine M.cs ?_ ?_<;>intro h|fail);all_goals simp_all[zn,V.wk,V.wks,za,Tm.num,Tm.err,Tm.nodes]
 all_goals(first|omega|(split<;>first|omega|simp_all))
end Go.Ab
