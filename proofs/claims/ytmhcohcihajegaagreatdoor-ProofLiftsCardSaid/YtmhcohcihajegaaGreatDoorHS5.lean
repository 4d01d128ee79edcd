/- A part of this seat's proofs. No conditions. -/
import Derived.Test.YtmhcohcihajegaaGreatDoorHDT1
import Derived.Test.YtmhcohcihajegaaGreatDoorHS2
namespace Go.Ab
open Go Go.Proofs
set_option maxRecDepth 100000
set_option linter.all false
theorem Ykn(g:List Ty)(t:Ty)(hg:(g.map Ty.size).sum<1099511627776):PC E 117 [.s .ty g,.agg t.view] (.s .int (vj g t)):=by
 have hlen:=zg Ty.size Ty.size_pos g;refine M.F Tryz.func117 ?_;refine M.w0 ?_;refine M.rt g.length
  (fun m=>([(0,.s .ty g),(3,.ptr 0 0),(5,.slice (.own 1) (.t .int (((List.range m).filter fun i=>decide (g[g.length-1-i]? =some t)).map Int.ofNat))),(8,.i g.length),(9,.i m)],⟨2,[(0,.var t.view),(1,.row)]⟩))
  (M.W rn1) ?_ ?_
 ·intro m hm hP;have hm2:g.length-1-m<g.length:=by omega
  have hs2:=zc Ty.size (List.getElem_mem hm2);have hsame:=wh _ g[g.length-1-m] t (Nat.le_refl _) (by omega);have hg:g[g.length-1-m]? =some g[g.length-1-m]:=List.getElem?_eq_getElem hm2;have hfl:(List.filter (fun i=>decide (g[g.length-1-i]? =some t)) (List.range m)).length<=m:=by have:=List.length_filter_le (fun i=>decide (g[g.length-1-i]? =some t)) (List.range m);simpa using this
  refine M.w0 ?_;refine L.ixt (g.length-1-m) rfl rfl rfl rfl (by omega) rfl rfl (by omega) ?_;(repeat' first|refine M.w1 @hsame ?_|refine M.cs ?_ ?_<;>intro h|fail)
  ·exact ⟨rfl,trivial,(M.W [some 0,some 2] (hf:=(by(repeat'(first|exact trivial|refine And.intro ?_ ?_|refine⟨_,U,_,U,?_⟩|exact VLe.refl _|exact VLe.of_eq (by simp[Sto.upd,List.range_succ,hg,of_decide_eq_true h])));done)))⟩
  ·exact ⟨rfl,trivial,(M.W rh2 (hf:=(by(repeat'(first|exact trivial|refine And.intro ?_ ?_|refine⟨_,U,_,U,?_⟩|exact VLe.refl _|exact VLe.of_eq (by simp[Sto.upd,List.range_succ,hg,of_decide_eq_false h])));done)))⟩
 ·intro _;refine M.w0 ?_;simp[zn,V.wk,V.wks]
  rfl
end Go.Ab
namespace Go.Ab
open Go Go.Proofs
set_option maxRecDepth 100000
set_option maxHeartbeats 4000000
set_option linter.all false
theorem Za6(k:Int):PC E 164 [.i k] (.tup [.agg (ruC k),.bool (ndP k).isSome]):=by
 by_cases hk:1<=k/\k<=20
 ·have:k=1\/k=2\/k=3\/k=4\/k=5\/k=6\/k=7\/k=8\/k=9\/k=10\/k=11\/k=12\/k=13\/k=14\/k=15\/k=16\/k=17\/k=18\/k=19\/k=20:=by omega
  rcases this with rfl|rfl|rfl|rfl|rfl|rfl|rfl|rfl|rfl|rfl|rfl|rfl|rfl|rfl|rfl|rfl|rfl|rfl|rfl|rfl;all_goals(refine M.F Tryz.func164 ?_)
  all_goals(refine M.w0 ?_)
  all_goals(first|(refine L.ixa 1 rfl rfl rfl rfl rfl ?_ ?_ rfl ?_;decide;decide)|(refine L.ixa 2 rfl rfl rfl rfl rfl ?_ ?_ rfl ?_;decide;decide)|(refine L.ixa 3 rfl rfl rfl rfl rfl ?_ ?_ rfl ?_;decide;decide)|(refine L.ixa 4 rfl rfl rfl rfl rfl ?_ ?_ rfl ?_;decide;decide)|(refine L.ixa 5 rfl rfl rfl rfl rfl ?_ ?_ rfl ?_;decide;decide)|(refine L.ixa 6 rfl rfl rfl rfl rfl ?_ ?_ rfl ?_;decide;decide)|(refine L.ixa 7 rfl rfl rfl rfl rfl ?_ ?_ rfl ?_;decide;decide)|(refine L.ixa 8 rfl rfl rfl rfl rfl ?_ ?_ rfl ?_;decide;decide)|(refine L.ixa 9 rfl rfl rfl rfl rfl ?_ ?_ rfl ?_;decide;decide)|(refine L.ixa 10 rfl rfl rfl rfl rfl ?_ ?_ rfl ?_;decide;decide)|(refine L.ixa 11 rfl rfl rfl rfl rfl ?_ ?_ rfl ?_;decide;decide)|(refine L.ixa 12 rfl rfl rfl rfl rfl ?_ ?_ rfl ?_;decide;decide)|(refine L.ixa 13 rfl rfl rfl rfl rfl ?_ ?_ rfl ?_;decide;decide)|(refine L.ixa 14 rfl rfl rfl rfl rfl ?_ ?_ rfl ?_;decide;decide)|(refine L.ixa 15 rfl rfl rfl rfl rfl ?_ ?_ rfl ?_;decide;decide)|(refine L.ixa 16 rfl rfl rfl rfl rfl ?_ ?_ rfl ?_;decide;decide)|(refine L.ixa 17 rfl rfl rfl rfl rfl ?_ ?_ rfl ?_;decide;decide)|(refine L.ixa 18 rfl rfl rfl rfl rfl ?_ ?_ rfl ?_;decide;decide)|(refine L.ixa 19 rfl rfl rfl rfl rfl ?_ ?_ rfl ?_;decide;decide)|(refine L.ixa 20 rfl rfl rfl rfl rfl ?_ ?_ rfl ?_;decide;decide))
  all_goals(refine M.w0 ?_)
  all_goals rfl
 ·have e:ndP k=none:=by
   unfold ndP
   repeat rw[if_neg (by omega)]
  have e2:ruC k=[.bool false,.bool false,.i 0,.i 0,.i 0,.i 0,.i 0,.i 0]:=by unfold ruC;rw[e]
  rw[e,e2];refine M.F Tryz.func164 ?_;(repeat' first|refine M.w0 ?_|refine M.gs ?_ ?_<;>intro h|refine M.cs ?_ ?_<;>intro h|fail);all_goals first
   |rfl
   |(exfalso;simp at*;omega)
end Go.Ab
namespace Go.Ab
open Go Go.Proofs
set_option maxRecDepth 100000
set_option linter.all false
theorem Zyg(n:Nat)(hn:n<100000):PC E 135 [.i n] (.agg (Zb1 n).view):=by
 have h1:=n_c 4 [] (by simp);refine M.F Tryz.func135 ?_;refine M.w1 @h1 ?_;refine K.sq (AW.down n (fun m=>m<=n)
  (fun m=>([(0,.i m),(2,.ptr 0 0),(3,.ptr 1 0)],⟨2,[(0,.var [.i 0,.i 0,.i 0,.slice .nil (.t .ty []),.slice .nil (.t .tm [])]),(1,.var (Zb1 (n-m)).view)]⟩))
  (by omega) (fun m=>rfl) rfl (Nat.le_refl _) ?_ ?_ ?_)
 ·simp only[Nat.sub_self];exact(M.W rh2)
 ·intro m hm hP;have e:Zb1 (n-m)= .mk 5 0 (.mk 0 []) [Zb1 (n-(m+1))]:=by rw[show n-m=(n-(m+1))+1 by omega];rfl
  refine M.w0 ?_;refine⟨rfl,by omega,?_⟩;simp only[e];exact(M.W rh2)
 ·intro _;refine M.w0 ?_;simp[zn,V.wk,V.wks,za,Ty.view,Tm.view]
theorem Ycf(n:Int):PC E 87 [.i n] (.tup [.agg (if 0<=n/\n<4096 then Zb1 n.toNat else noTm).view,.i (if n<0 then 1 else if n>=4096 then 4 else 0)]):=by
 have h1:¬n<0->¬n>=4096->PC E 135 [.i n] _:=fun h h'=>by
  have:=Zyg n.toNat (by omega);rw[show((n.toNat:Nat):Int)=n by omega] at this;exact this
 refine M.F Tryz.func87 ?_;(repeat' first|refine M.w0 ?_|refine M.c2 (h1 (by simp_all) (by simp_all)) ?_|refine M.cs ?_ ?_<;>intro h|fail)
 ·have h':n<0:=by simpa using h
  have h2:¬(0<=n/\n<4096):=by omega
  simp[zn,V.wk,V.wks,za,Ty.view,Tm.view,noTm,h',h2]
 ·rename_i h0;have h':¬n<0:=by simpa using h0
  have h'':n>=4096:=by simpa using h
  have h2:¬(0<=n/\n<4096):=by omega
  simp[zn,V.wk,V.wks,za,Ty.view,Tm.view,noTm,h',h'',h2]
 ·rename_i h0;have h':¬n<0:=by simpa using h0
  have h'':¬n>=4096:=by simpa using h
  have h2:0<=n/\n<4096:=by omega
  simp[zn,V.wk,V.wks,za,Ty.view,Tm.view,noTm,h',h'',h2]
theorem Za5(g l:List Ty)(h:g.length+l.length<1000000):PC E 90 [.s .ty g,.s .ty l] (.s .ty (g++l)):=by
 refine M.F Tryz.func90 ?_;refine M.w0 ?_;simp[zn,V.wk,V.wks,za,Ty.view,Tm.view]
theorem Ziv(t:Tm)(ht:t.full<549755813888):PC E 138 [.agg t.view] (.agg (Tm.mk 2 0 (.mk 1 []) [t]).view):=by
 have h1:=t_c 2 (.mk 1 []) [t] (by simp;omega) (by simp[Ty.size_eq]);refine M.F Tryz.func138 ?_;refine M.w2 @u6 @h1 ?_;simp[zn,V.wk,V.wks,za,Ty.view,Tm.view]
theorem Ybk(n:Int):PC E 29 [.i n] (.agg (Zhy n).view):=by
 have h1:=Ycf n;refine M.F Tryz.func29 ?_;refine M.w1 @h1 ?_;simp[zn,V.wk,V.wks,za,Ty.view,Tm.view,Zhy]
theorem Yar(d:Dk)(hd:d.ok):AC E 32 [.ptr 0 0] ⟨1,[(0,.var d.cells)]⟩ (.s .ty d.ctx.1) ⟨1,[(0,.var d.ctx.2.cells)]⟩:=by
 have h1:=Za2 d 4 hd (by omega);have hb:=Dk.next_bd d 4 (by omega);obtain⟨c,hc⟩:∃c:Nat,(d.next 4).1=c:=⟨(d.next 4).1.toNat,by omega⟩;rw[hc] at h1 hb;have hx:d.ctx=(d.next 4).2.types c:=by simp only[Dk.ctx,hc];rfl
 refine M.F Tryz.func32 ?_;refine M.w1 @h1 ?_;refine AW.down c (fun m=>m<=c)
  (fun m=>([(0,.ptr 0 0),(3,.slice (.own 1) (.t .ty ((d.next 4).2.types (c-m)).1)),(4,.i m)],⟨2,[(0,.var ((d.next 4).2.types (c-m)).2.cells),(1,.row)]⟩))
  (by omega) (fun m=>rfl) rfl (Nat.le_refl _) ?_ ?_ ?_
 ·simp only[Nat.sub_self];exact(M.W rn1)
 ·intro m hm hP;have e:=Dk.types_snoc (c-(m+1)) (d.next 4).2;rw[show c-(m+1)+1=c-m by omega] at e;have h2:=Zlg 1 1 ((d.next 4).2.types (c-(m+1))).2 (by omega) (by omega) (by omega) (Dk.types_ok _ _ (Dk.next_ok hd 4));have hl:=Dk.types_len (c-(m+1)) (d.next 4).2;refine M.w1 @h2 ?_;refine⟨rfl,by omega,?_⟩;simp only[e];exact(M.W [some 0,some 2])
 ·intro _;refine M.w0 ?_
  (exact M.n2 rh1 (h6:=(by(repeat'(first|exact trivial|refine And.intro ?_ ?_|refine⟨_,U,_,U,_,U,?_⟩|exact VLe.of_eq (by simp[Sto.upd,hx])));done)) (h8:=(by simp[zn,V.wk,V.wks,za,Ty.view,Tm.view,hx])))
theorem Ygk(b f n:Tm)(h:b.full+f.full+n.full<549755813888):PC E 139 [.agg b.view,.agg f.view,.agg n.view] (.agg (Tm.mk 6 0 (.mk 1 []) [b,f,n]).view):=by
 have h1:=t_c 6 (.mk 1 []) [b,f,n] (by simp;omega) (by simp[Ty.size_eq]);refine M.F Tryz.func139 ?_;refine M.w2 @u6 @h1 ?_;simp[zn,V.wk,V.wks,za,Ty.view,Tm.view]
theorem Yer:PC E 94 [] (.agg plusT.view):=by
 have h0:=Zdf 0;have h1:=Zdf 1;have h2:=n_c 5 [vT 0] (by simp[Tm.full,Tm.fulls,Ty.size,Ty.sizes,vT]);have h3:=Ziv (sT (vT 0)) (by simp[Tm.full,Tm.fulls,Ty.size,Ty.sizes,vT,sT]);have h4:=Ziv (ve (sT (vT 0))) (by simp[Tm.full,Tm.fulls,Ty.size,Ty.sizes,vT,sT,ve]);have h5:=Ygk (vT 1) addF (vT 0) (by simp[Tm.full,Tm.fulls,Ty.size,Ty.sizes,vT,sT,ve,addF]);have h6:=Ziv (Zer (vT 1) addF (vT 0)) (by simp[Tm.full,Tm.fulls,Ty.size,Ty.sizes,vT,sT,ve,addF,Zer]);have h7:=Ziv (ve (Zer (vT 1) addF (vT 0))) (by simp[Tm.full,Tm.fulls,Ty.size,Ty.sizes,vT,sT,ve,addF,Zer]);refine M.F Tryz.func94 ?_;(repeat' first|refine M.w6 @h0 @h1 @h2 @h3 @h4 @h5 ?_|refine M.c2 (h6) ?_|refine M.c2 (h7) ?_|fail)
 rfl
theorem Yj3:PC E 174 [] (.agg predT.view):=by
 have h0:=Zdf 0;have h1:=Zdf 1;have h2:=n_c 4 [] (by simp);have h3:=Ziv (vT 1) (by simp[Tm.full,Tm.fulls,Ty.size,Ty.sizes,vT,sT]);have h4:=Ziv (ve (vT 1)) (by simp[Tm.full,Tm.fulls,Ty.size,Ty.sizes,vT,sT,ve]);have h5:=Ygk zT (ve (ve (vT 1))) (vT 0) (by simp[Tm.full,Tm.fulls,Ty.size,Ty.sizes,vT,zT,ve,addF]);have h6:=Ziv (Zer zT (ve (ve (vT 1))) (vT 0)) (by simp[Tm.full,Tm.fulls,Ty.size,Ty.sizes,vT,zT,ve,addF,Zer]);refine M.F Tryz.func174 ?_;(repeat' first|refine M.w6 @h0 @h1 @h2 @h3 @h4 @h5 ?_|refine M.c2 (h6) ?_|fail)
 rfl
theorem Yl3:PC E 118 [] (.agg subT.view):=by
 have h0:=Zdf 0;have h1:=Zdf 1;have hp:=Yj3;have h2:=n_c 3 [predT,vT 0] (by simp[Tm.full,Tm.fulls,Ty.size,Ty.sizes,vT,zT,ve,predT,Zer]);have h3:=Ziv (apT predT (vT 0)) (by simp[Tm.full,Tm.fulls,Ty.size,Ty.sizes,vT,zT,ve,predT,Zer,apT]);have h4:=Ziv (ve (apT predT (vT 0))) (by simp[Tm.full,Tm.fulls,Ty.size,Ty.sizes,vT,zT,ve,predT,Zer,apT]);have h5:=Ygk (vT 1) subF (vT 0) (by simp[Tm.full,Tm.fulls,Ty.size,Ty.sizes,vT,zT,ve,predT,Zer,apT,subF]);have h6:=Ziv (Zer (vT 1) subF (vT 0)) (by simp[Tm.full,Tm.fulls,Ty.size,Ty.sizes,vT,zT,ve,predT,Zer,apT,subF]);have h7:=Ziv (ve (Zer (vT 1) subF (vT 0))) (by simp[Tm.full,Tm.fulls,Ty.size,Ty.sizes,vT,zT,ve,predT,Zer,apT,subF]);refine M.F Tryz.func118 ?_;(repeat' first|refine M.w6 @h0 @h1 @hp @h2 @h3 @h4 ?_|refine M.c2 (h5) ?_|refine M.c2 (h6) ?_|refine M.c2 (h7) ?_|fail)
 rfl
theorem Zjx:∀(f:Tm) (l:List Tm),f.full+2*l.length+(l.map Tm.full).sum<274877906944->PC E 93 [.agg f.view,.s .tm l] (.agg (l.foldl apT f).view):=by
 intro f l hl;have hlen:=zg Tm.full Tm.full_pos l;have hfull:∀m,m<=l.length->((l.take m).foldl apT f).full<=f.full+2*m+((l.take m).map Tm.full).sum:=by
  intro m;induction m with
  |zero=>intro _;simp
  |succ m ih=>
   intro hm;have h1:=ih (by omega);have h2:=xd Tm.full l m (by omega);rw[<-List.take_append_getElem (by omega:m<l.length),List.foldl_append,List.take_append_getElem (by omega:m<l.length),h2];simp only[List.foldl_cons,List.foldl_nil,apT,Tm.full,Tm.fulls,Ty.size,Ty.sizes];omega
 refine M.F Tryz.func93 ?_;refine M.w0 ?_;refine M.rt l.length
  (fun m=>([(2,.ptr 0 0),(4,.ptr 1 0),(7,.s .tm l),(8,.i l.length),(9,.i m)],⟨2,[(0,.var ((l.take m).foldl apT f).view),(1,.var [.i 0,.i 0,.i 0,.slice .nil (.t .ty []),.slice .nil (.t .tm [])])]⟩))
  (M.W rh2) ?_ ?_
 ·intro m hm hP;have e:(l.take (m+1)).foldl apT f=apT ((l.take m).foldl apT f) l[m]:=by rw[<-List.take_append_getElem hm,List.foldl_append];rfl
  have h2:=ya Tm.full l (m+1);have h3:=xd Tm.full l m hm;have h4:=hfull m (by omega);have h1:=n_c 3 [(l.take m).foldl apT f,l[m]] (by simp only[List.map_cons,List.map_nil,List.sum_cons,List.sum_nil];omega);refine M.w1 @h1 ?_;refine⟨rfl,trivial,?_⟩;exact(M.W rh2 (he:=(by(repeat'(first|exact trivial|refine And.intro ?_ ?_|refine⟨_,U,_,U,_,U,?_⟩|exact VLe.refl _|exact VLe.of_eq (by simp[Sto.upd,e,apT])));done)))
 ·intro _;refine M.w0 ?_;simp[zn,V.wk,V.wks,za,Ty.view,Tm.view]
end Go.Ab
