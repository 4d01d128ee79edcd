/- A part of this seat's proofs. No conditions. -/
import Derived.Test.YtlikcaapgaalhaaGreatDoorRows
import Derived.Test.YtlikcaapgaalhaaGreatDoorED1
namespace Go.Ab
open Go Go.Proofs
def tab:List (TypeId×TI):=[
 (2,⟨1,[.int .i64 0],.int .i64⟩),
 (3,⟨1,[.int .i64 0],.int .i64⟩),
 (4,⟨1,[.bool false],.bool⟩),
 (5,⟨1,[.int .u8 0],.int .u8⟩),
 (9,⟨1,[.str ⟨#[]⟩],.str⟩),
 (12,⟨1,[.int .u64 0],.int .u64⟩),
 (13,⟨2,[.str ⟨#[]⟩,.int .u64 0],.strct [(0,1,false),(1,1,false)]⟩),
 (20,⟨1,[.raw .nilIface],.other⟩),
 (21,⟨1,[.int .i32 0],.int .i32⟩),
 (22,⟨1,[.slice .nil (.t .int [])],.slc (some .int) 1 8⟩),
 (25,⟨1,[.nilp],.other⟩),
 (27,⟨1,[.slice .nil (.t .ty [])],.slc (some .ty) 2 32⟩),
 (30,⟨1,[.slice .nil (.t .tm [])],.slc (some .tm) 5 72⟩),
 (31,⟨2,[.int .i64 0,.slice .nil (.t .ty [])],.strct [(0,1,false),(1,1,false)]⟩),
 (32,⟨2,[.int .i64 0,.slice .nil (.t .ty [])],.strct [(0,1,false),(1,1,false)]⟩),
 (33,⟨1,[.slice .nil (.t .fm [])],.slc (some .fm) 5 88⟩),
 (34,⟨5,[.int .i64 0,.int .i64 0,.slice .nil (.t .ty []),.slice .nil (.t .tm []),.slice .nil (.t .fm [])],.strct [(0,1,false),(1,2,true),(3,1,false),(4,1,false)]⟩),
 (35,⟨5,[.int .i64 0,.int .i64 0,.slice .nil (.t .ty []),.slice .nil (.t .tm []),.slice .nil (.t .fm [])],.strct [(0,1,false),(1,2,true),(3,1,false),(4,1,false)]⟩),
 (37,⟨5,[.int .i64 0,.int .i64 0,.int .i64 0,.slice .nil (.t .ty []),.slice .nil (.t .tm [])],.strct [(0,1,false),(1,1,false),(2,2,true),(4,1,false)]⟩),
 (38,⟨5,[.int .i64 0,.int .i64 0,.int .i64 0,.slice .nil (.t .ty []),.slice .nil (.t .tm [])],.strct [(0,1,false),(1,1,false),(2,2,true),(4,1,false)]⟩),
 (44,⟨1,[.int .i64 0],.int .i64⟩),
 (49,⟨2,[.slice .nil (.t .ty []),.slice .nil (.t .fm [])],.strct [(0,1,false),(1,1,false)]⟩),
 (50,⟨2,[.slice .nil (.t .ty []),.slice .nil (.t .fm [])],.strct [(0,1,false),(1,1,false)]⟩),
 (51,⟨7,[.slice .nil (.t .ty []),.slice .nil (.t .fm []),.int .i64 0,.int .i64 0,.slice .nil (.t .ty []),.slice .nil (.t .tm []),.slice .nil (.t .fm [])],.strct [(0,2,true),(2,5,true)]⟩),
 (52,⟨7,[.slice .nil (.t .ty []),.slice .nil (.t .fm []),.int .i64 0,.int .i64 0,.slice .nil (.t .ty []),.slice .nil (.t .tm []),.slice .nil (.t .fm [])],.strct [(0,2,true),(2,5,true)]⟩),
 (53,⟨1,[.slice .nil (.t .st [])],.slc (some .st) 4 64⟩),
 (56,⟨1,[.slice .nil (.t .pf [])],.slc (some .pf) 7 120⟩),
 (57,⟨7,[.int .i64 0,.int .i64 0,.int .i64 0,.slice .nil (.t .ty []),.slice .nil (.t .tm []),.slice .nil (.t .fm []),.slice .nil (.t .pf [])],.strct [(0,1,false),(1,1,false),(2,2,true),(4,1,false),(5,1,false),(6,1,false)]⟩),
 (58,⟨7,[.int .i64 0,.int .i64 0,.int .i64 0,.slice .nil (.t .ty []),.slice .nil (.t .tm []),.slice .nil (.t .fm []),.slice .nil (.t .pf [])],.strct [(0,1,false),(1,1,false),(2,2,true),(4,1,false),(5,1,false),(6,1,false)]⟩),
 (66,⟨2,[.slice .nil (.t .int []),.int .i64 0],.strct [(0,1,false),(1,1,false)]⟩),
 (67,⟨2,[.slice .nil (.t .int []),.int .i64 0],.strct [(0,1,false),(1,1,false)]⟩),
 (86,⟨4,[.int .i64 0,.int .i64 0,.slice .nil (.t .tm []),.slice .nil (.t .fm [])],.strct [(0,1,false),(1,1,false),(2,1,false),(3,1,false)]⟩),
 (87,⟨4,[.int .i64 0,.int .i64 0,.slice .nil (.t .tm []),.slice .nil (.t .fm [])],.strct [(0,1,false),(1,1,false),(2,1,false),(3,1,false)]⟩),
 (88,⟨1,[.slice .nil (.t .gl [])],.slc (some .gl) 7 136⟩),
 (93,⟨6,[.int .i64 0,.int .i64 0,.slice .nil (.t .ty []),.slice .nil (.t .tm []),.slice .nil (.t .fm []),.slice .nil (.t .int [])],.strct [(0,5,true),(5,1,false)]⟩),
 (94,⟨6,[.int .i64 0,.int .i64 0,.slice .nil (.t .ty []),.slice .nil (.t .tm []),.slice .nil (.t .fm []),.slice .nil (.t .int [])],.strct [(0,5,true),(5,1,false)]⟩),
 (100,⟨1,[.nilp],.other⟩),
 (101,⟨1,[.raw (.map none)],.other⟩),
 (102,⟨2,[.int .i64 0,.raw (.map none)],.strct [(0,1,false),(1,1,false)]⟩),
 (103,⟨2,[.int .i64 0,.raw (.map none)],.strct [(0,1,false),(1,1,false)]⟩),
 (123,⟨3,[.slice .nil (.t .fm []),.slice .nil (.t .ty []),.slice .nil (.t .fm [])],.strct [(0,1,false),(1,1,false),(2,1,false)]⟩),
 (124,⟨3,[.slice .nil (.t .fm []),.slice .nil (.t .ty []),.slice .nil (.t .fm [])],.strct [(0,1,false),(1,1,false),(2,1,false)]⟩),
 (131,⟨1,[.nilf],.other⟩),
 (132,⟨1,[.nilf],.other⟩),
 (141,⟨1,[.slice .nil (.t .sz [])],.slc (some .sz) 3 40⟩),
 (144,⟨1,[.nilf],.other⟩),
 (160,⟨3,[.int .i64 0,.slice .nil (.t .ty []),.int .i64 0],.strct [(0,2,true),(2,1,false)]⟩),
 (161,⟨3,[.int .i64 0,.slice .nil (.t .ty []),.int .i64 0],.strct [(0,2,true),(2,1,false)]⟩),
 (165,⟨1,[.nilf],.other⟩),
 (182,⟨5,[.int .i64 0,.int .i64 0,.int .i64 0,.bool false,.bool false],.strct [(0,1,false),(1,1,false),(2,1,false),(3,1,false),(4,1,false)]⟩),
 (183,⟨5,[.int .i64 0,.int .i64 0,.int .i64 0,.bool false,.bool false],.strct [(0,1,false),(1,1,false),(2,1,false),(3,1,false),(4,1,false)]⟩),
 (198,⟨1,[.nilf],.other⟩),
 (203,⟨1,[.raw (.map none)],.other⟩),
 (221,⟨14,[.int .i64 0,.int .i64 0,.int .i64 0,.int .i64 0,.int .i64 0,.int .i64 0,.int .i64 0,.int .i64 0,.int .i64 0,.int .i64 0,.int .i64 0,.int .i64 0,.int .i64 0,.int .i64 0],.arr 14 1 false⟩),
 (223,⟨9,[.int .i64 0,.slice .nil (.t .ty []),.int .i64 0,.int .i64 0,.slice .nil (.t .ty []),.int .i64 0,.int .i64 0,.slice .nil (.t .ty []),.int .i64 0],.arr 3 3 true⟩),
 (239,⟨1,[.int .u32 0],.int .u32⟩)]
set_option maxRecDepth 100000
theorem tab_ok:tab.all (fun p=>tiB Tryz.prog p.1 p.2)=true:=by kernel_rfl
def arV:List V:=[.i 0,.i 0,.i 1,.i 2,.i 0,.i 1,.i 3,.i 0,.i 2,.i 3,.i 2,.i 1,.i 1,.i 0]
noncomputable def E:Env:=⟨Tryz.prog,[(0,arV)],tab,tab_ok,[]⟩
end Go.Ab
namespace Go.Ab
open Go Go.Proofs
set_option maxRecDepth 100000
set_option linter.all false
theorem mixed:E.P.follows .mixedOrders=true:=Tryz.checked.mixed
theorem copyTy_c:∀(b:Nat) (t:Ty),t.size≤b→b<1099511627776→PC E 34 [.agg t.view] (.agg t.view):=by
 intro b
 induction b with
 |zero=>intro t h;have:=t.size_pos;omega
 |succ b ih=>
 intro t hsz hb
 have hsz':=Ty.size_eq t
 have hlen:=lsum_len Ty.size Ty.size_pos t.args
 refine M.F Tryz.func34 ?_
 refine M.w0 ?_
 refine M.rt t.args.length
  (fun m=>([(1,.ptr 0 0),(2,.ptr 1 0),(3,.slice (.own 2) (.t .ty (t.args.take m))),(7,.s .ty t.args),(8,.i t.args.length),(9,.i m)],⟨3,[(0,.var t.view),(1,.var [.i 0,.slice .nil (.t .ty [])]),(2,.row)]⟩))
  (M.W rn2) ?_ ?_
 ·intro m hm hP
  have hs2:=lsum_mem Ty.size (List.getElem_mem hm)
  repeat'(first|refine M.w0 ?_|refine M.c2 (ih _ ?_ ?_) ?_|exact M.le|exact M.lt|fail)
  exact⟨rfl,trivial,(M.W [some 0,some 1,some 4] (hf:=(by(repeat'(first|exact trivial|refine And.intro ?_ ?_|refine⟨_,U,_,U,?_⟩|exact VLe.refl _|exact VLe.of_eq (by simp[Sto.upd,List.take_append_getElem])));done)))⟩
 ·intro hP
  refine M.w0 ?_
  simp[tupV,V.wk,V.wks,constV,Ty.view,Tm.view]
theorem ownTy_c:∀(b:Nat) (t:Ty),t.size≤b→b<1099511627776→PC E 72 [.agg t.view] (.agg t.view):=by
 intro b
 induction b with
 |zero=>intro t h;have:=t.size_pos;omega
 |succ b ih=>
 intro t hsz hb
 have hsz':=Ty.size_eq t
 have hlen:=lsum_len Ty.size Ty.size_pos t.args
 refine M.F Tryz.func72 ?_
 refine M.w0 ?_
 refine M.rt t.args.length
  (fun m=>([(1,.ptr 0 0),(2,.ptr 1 0),(3,.ptr 2 0),(10,.s .ty t.args),(11,.i t.args.length),(12,.i m)],⟨4,[(0,.var t.view),(1,.var [.i 0,.slice .nil (.t .ty [])]),(2,.var [.i t.kind,.slice (.own 3) (.t .ty (t.args.take m))]),(3,.row)]⟩))
  (M.W rn3) ?_ ?_
 ·intro m hm hP
  have hs2:=lsum_mem Ty.size (List.getElem_mem hm)
  repeat'(first|refine M.w0 ?_|refine M.c2 (ih _ ?_ ?_) ?_|exact M.le|exact M.lt|fail)
  exact⟨rfl,trivial,(M.W [some 0,some 1,some 2,some 5] (he:=(by(repeat'(first|exact trivial|exact Or.inr ⟨_,U,rfl⟩|refine And.intro ?_ ?_|refine⟨_,U,_,U,_,U,?_⟩|exact VLe.refl _|exact VLe.of_eq (by simp[Sto.upd,List.take_append_getElem])));done)))⟩
 ·intro hP
  refine M.w0 ?_
  simp[tupV,V.wk,V.wks,constV,Ty.view,Tm.view]
theorem typeNodes_c:∀(b:Nat) (t:Ty),t.size≤b→b<1099511627776→PC E 214 [.agg t.view] (nodesT t):=by
 intro b
 induction b with
 |zero=>intro t h;have:=t.size_pos;omega
 |succ b ih=>
 intro t hsz hb
 have hsz':=Ty.size_eq t
 have hlen:=lsum_len Ty.size Ty.size_pos t.args
 have hsh:=Ty.shape_eq t
 refine M.F Tryz.func214 ?_
 refine M.w0 ?_
 refine AW.cutT (ι:={n:Nat // arT t.kind=some n}) (fun n=>([(1,.ptr 0 0),(4,.i n.1)],⟨1,[(0,.var t.view)]⟩)) ?_ ?_
 ·refine AW.block ?_
  repeat'(first|refine M.w0 ?_|refine M.cs ?_ ?_<;>intro h|fail)
  ·exact ⟨⟨0,by simp at h;simp[arT,h]⟩,(M.W rh1)⟩
  ·exact ⟨⟨0,by simp at h;simp[arT,h]⟩,(M.W rh1)⟩
  ·exact ⟨⟨0,by simp at h;simp[arT,h]⟩,(M.W rh1)⟩
  ·exact ⟨⟨2,by simp at h;simp[arT,h]⟩,(M.W rh1)⟩
  ·exact ⟨⟨2,by simp at h;simp[arT,h]⟩,(M.W rh1)⟩
  ·have:t.shape=false:=by simp at*;simp[hsh,arT, *]
   simp[nodesT,Ty.nodes,this,tupV,constV,V.wk,V.wks]
 rintro⟨n,hn⟩
 repeat'(first|refine M.w0 ?_|refine M.cs ?_ ?_<;>intro h|fail)
 ·have h1:¬t.args.length=n:=by simp at h;omega
  have:t.shape=false:=by simp[hsh,hn,h1]
  simp[nodesT,Ty.nodes,this,tupV,constV,V.wk,V.wks]
 have hn':t.args.length=n:=by simp at h;omega
 refine M.rp t.args.length (fun m=>∀j (hj:j<t.args.length),j<m→(t.args[j]).shape=true)
  (fun m=>([(1,.ptr 0 0),(5,.i (1+((t.args.take m).map Ty.size).sum)),(25,.s .ty t.args),(26,.i t.args.length),(27,.i m)],⟨1,[(0,.var t.view)]⟩))
  (by intro j hj h;omega) (M.W rh1) ?_ ?_
 ·intro m hm hP
  have hs1:=lsum_take Ty.size t.args m hm
  have hs2:=lsum_mem Ty.size (List.getElem_mem hm)
  have hs3:=lsum_take_le Ty.size t.args (m+1)
  have hs4:=Ty.nodes_le t.args[m]
  repeat'(first|refine M.w0 ?_|refine M.c2 (ih _ ?_ ?_) ?_|refine M.cs ?_ ?_<;>intro h|exact M.le|exact M.lt|fail)
  ·have h1:(t.args[m]).shape=false:=by simpa using h
   have:t.shape=false:=by rw[hsh,all_not Ty.shape hm h1,Bool.and_false]
   simp[nodesT,Ty.nodes,this,tupV,constV,V.wk,V.wks]
  ·have hh:(t.args[m]).shape=true:=by simpa using h
   refine⟨rfl,all_step (p:=fun t=>Ty.shape t=true) hm hP hh,?_⟩
   have e:(1+((((t.args.take (m+1)).map Ty.size).sum:Nat):Int))=1+(((t.args.take m).map Ty.size).sum:Nat)+t.args[m].nodes:=by simp only[Ty.nodes,hh,hs1];simp;omega
   simp only[e]
   exact(M.W rh1)
 ·intro hP
  have:t.shape=true:=by simp only[hsh,hn,hn',all_of Ty.shape t.args fun j hj=>hP j hj hj];simp
  refine M.w0 ?_
  simp[nodesT,Ty.nodes,this,tupV,constV,hsz',V.wk,V.wks]
theorem var_c(i:Int):PC E 11 [.i i] (.agg (Tm.mk 1 i (.mk 0 []) []).view):=by
 refine M.F Tryz.func11 ?_
 refine M.w0 ?_
 simp[tupV,V.wk,V.wks,constV,Ty.view,Tm.view]
theorem tvar_c(i:Int):PC E 146 [.i i] (.agg (Tm.mk 1 i (.mk 0 []) []).view):=by
 refine M.F Tryz.func146 ?_
 refine M.w0 ?_
 simp[tupV,V.wk,V.wks,constV,Ty.view,Tm.view]
theorem nat_c:PC E 9 [] (.agg (Ty.mk 1 []).view):=by
 refine M.F Tryz.func9 ?_
 refine M.w0 ?_
 simp[tupV,V.wk,V.wks,constV,Ty.view,Tm.view]
theorem list_c:PC E 30 [] (.agg (Ty.mk 2 []).view):=by
 refine M.F Tryz.func30 ?_
 refine M.w0 ?_
 simp[tupV,V.wk,V.wks,constV,Ty.view,Tm.view]
theorem unit_c:PC E 56 [] (.agg (Ty.mk 5 []).view):=by
 refine M.F Tryz.func56 ?_
 refine M.w0 ?_
 simp[tupV,V.wk,V.wks,constV,Ty.view,Tm.view]
theorem two_c(x y:Ty)(hx:x.size<1099511627776)(hy:y.size<1099511627776):PC E 57 [.agg x.view,.agg y.view] (.agg (Ty.mk 3 [x,y]).view):=by
 have h1:=copyTy_c _ x (Nat.le_refl _) hx
 have h2:=copyTy_c _ y (Nat.le_refl _) hy
 refine M.F Tryz.func57 ?_
 refine M.w2 @h1 @h2 ?_
 simp[tupV,V.wk,V.wks,constV,Ty.view,Tm.view]
theorem fun_c(x y:Ty)(hx:x.size<1099511627776)(hy:y.size<1099511627776):PC E 13 [.agg x.view,.agg y.view] (.agg (Ty.mk 4 [x,y]).view):=by
 have h1:=copyTy_c _ x (Nat.le_refl _) hx
 have h2:=copyTy_c _ y (Nat.le_refl _) hy
 refine M.F Tryz.func13 ?_
 refine M.w2 @h1 @h2 ?_
 simp[tupV,V.wk,V.wks,constV,Ty.view,Tm.view]
theorem noType_c(t:Ty):PC E 211 [.agg t.view] (.bool t.isNo):=by
 refine M.F Tryz.func211 ?_
 repeat'(first|refine M.w0 ?_|refine M.gs ?_ ?_<;>intro h|fail)
 all_goals simp_all[tupV,V.wk,V.wks,constV,Ty.isNo]
 rw[Bool.eq_iff_iff];simp
theorem typed_c(k:Int):PC E 213 [.i k] (.bool (typedK k)):=by
 refine M.F Tryz.func213 ?_
 repeat'(first|refine M.w0 ?_|refine M.gs ?_ ?_<;>intro h|fail)
 all_goals simp_all[tupV,V.wk,V.wks,constV,typedK]
theorem within_c(n:Int):PC E 111 [.i n] (.bool (decide (0≤n∧n≤4096))):=by
 refine M.F Tryz.func111 ?_
 repeat'(first|refine M.w0 ?_|refine M.gs ?_ ?_<;>intro h|fail)
 all_goals simp_all[tupV,V.wk,V.wks,constV]
 omega
theorem checkTy_c(t:Ty)(ht:t.size<1099511627776):PC E 188 [.agg t.view] (.tup [.i t.num,.i t.err]):=by
 have h1:=typeNodes_c _ t (Nat.le_refl _) ht
 refine M.F Tryz.func188 ?_
 repeat'(first|refine M.w1 @h1 ?_|refine M.zb ?_|refine M.cs ?_ ?_<;>intro h|fail)
 all_goals simp_all[tupV,V.wk,V.wks,constV,Ty.num,Ty.err,Ty.nodes]
 all_goals(first|omega|(split<;>first|omega|simp_all))
theorem arity_c(k:Int):PC E 212 [.i k] (.tup [.i ((arK k).getD 0),.bool (arK k).isSome]):=by
 refine M.F Tryz.func212 ?_
 repeat'(first|refine M.w0 ?_|refine M.gs ?_ ?_<;>intro h|refine M.cs ?_ ?_<;>intro h|fail)
 ·have:arK k=none:=by simp at h;simp only[arK];(repeat' rw[if_neg (by omega)])
  simp[this,tupV,V.wk,V.wks,constV]
 ·have:arK k=none:=by simp at h;simp only[arK];(repeat' rw[if_neg (by omega)])
  simp[this,tupV,V.wk,V.wks,constV]
 ·rename_i h0
  simp at h h0
  have:k=1∨k=2∨k=3∨k=4∨k=5∨k=6∨k=7∨k=8∨k=9∨k=10∨k=11∨k=12∨k=13:=by omega
  rcases this with rfl|rfl|rfl|rfl|rfl|rfl|rfl|rfl|rfl|rfl|rfl|rfl|rfl
  ·refine L.ixa 1 rfl rfl rfl rfl rfl ?_ ?_ rfl ?_
   ·decide
   ·decide
   refine M.w0 ?_
   rfl
  ·refine L.ixa 2 rfl rfl rfl rfl rfl ?_ ?_ rfl ?_
   ·decide
   ·decide
   refine M.w0 ?_
   rfl
  ·refine L.ixa 3 rfl rfl rfl rfl rfl ?_ ?_ rfl ?_
   ·decide
   ·decide
   refine M.w0 ?_
   rfl
  ·refine L.ixa 4 rfl rfl rfl rfl rfl ?_ ?_ rfl ?_
   ·decide
   ·decide
   refine M.w0 ?_
   rfl
  ·refine L.ixa 5 rfl rfl rfl rfl rfl ?_ ?_ rfl ?_
   ·decide
   ·decide
   refine M.w0 ?_
   rfl
  ·refine L.ixa 6 rfl rfl rfl rfl rfl ?_ ?_ rfl ?_
   ·decide
   ·decide
   refine M.w0 ?_
   rfl
  ·refine L.ixa 7 rfl rfl rfl rfl rfl ?_ ?_ rfl ?_
   ·decide
   ·decide
   refine M.w0 ?_
   rfl
  ·refine L.ixa 8 rfl rfl rfl rfl rfl ?_ ?_ rfl ?_
   ·decide
   ·decide
   refine M.w0 ?_
   rfl
  ·refine L.ixa 9 rfl rfl rfl rfl rfl ?_ ?_ rfl ?_
   ·decide
   ·decide
   refine M.w0 ?_
   rfl
  ·refine L.ixa 10 rfl rfl rfl rfl rfl ?_ ?_ rfl ?_
   ·decide
   ·decide
   refine M.w0 ?_
   rfl
  ·refine L.ixa 11 rfl rfl rfl rfl rfl ?_ ?_ rfl ?_
   ·decide
   ·decide
   refine M.w0 ?_
   rfl
  ·refine L.ixa 12 rfl rfl rfl rfl rfl ?_ ?_ rfl ?_
   ·decide
   ·decide
   refine M.w0 ?_
   rfl
  ·refine L.ixa 13 rfl rfl rfl rfl rfl ?_ ?_ rfl ?_
   ·decide
   ·decide
   refine M.w0 ?_
   rfl
end Go.Ab
namespace Go.Ab
open Go Go.Proofs
set_option maxRecDepth 100000
set_option maxHeartbeats 4000000
set_option linter.all false
theorem copyTm_c:∀(b:Nat) (t:Tm),t.full≤b→b<1099511627776→PC E 35 [.agg t.view] (.agg t.view):=by
 intro b
 induction b with
 |zero=>intro t h;have:=t.full_pos;omega
 |succ b ih=>
 intro t hsz hb
 have hsz':=Tm.full_eq t
 have hlen:=lsum_len Tm.full Tm.full_pos t.args
 have hty:=copyTy_c _ t.ty (Nat.le_refl _) (by omega)
 refine M.F Tryz.func35 ?_
 refine M.w0 ?_
 refine M.rt t.args.length
  (fun m=>([(1,.ptr 0 0),(2,.ptr 1 0),(3,.slice (.own 2) (.t .tm (t.args.take m))),(7,.s .tm t.args),(8,.i t.args.length),(9,.i m)],⟨3,[(0,.var t.view),(1,.var [.i 0,.i 0,.i 0,.slice .nil (.t .ty []),.slice .nil (.t .tm [])]),(2,.row)]⟩))
  (M.W rn2) ?_ ?_
 ·intro m hm hP
  have hs2:=lsum_mem Tm.full (List.getElem_mem hm)
  repeat'(first|refine M.w0 ?_|refine M.c2 (ih _ ?_ ?_) ?_|exact M.le|exact M.lt|fail)
  exact⟨rfl,trivial,(M.W [some 0,some 1,some 4] (hf:=(by(repeat'(first|exact trivial|refine And.intro ?_ ?_|refine⟨_,U,_,U,?_⟩|exact VLe.refl _|exact VLe.of_eq (by simp[Sto.upd,List.take_append_getElem])));done)))⟩
 ·intro hP
  refine M.w1 @hty ?_
  simp[tupV,V.wk,V.wks,constV,Ty.view,Tm.view]
theorem n_c(k:Int)(l:List Tm)(hl:(l.map Tm.full).sum<1099511627776):PC E 23 [.i k,.s .tm l] (.agg (Tm.mk k 0 (.mk 0 []) l).view):=by
 have hlen:=lsum_len Tm.full Tm.full_pos l
 refine M.F Tryz.func23 ?_
 refine M.w0 ?_
 refine M.rt l.length
  (fun m=>([(0,.i k),(4,.ptr 0 0),(5,.slice (.own 1) (.t .tm (l.take m))),(8,.s .tm l),(9,.i l.length),(10,.i m)],⟨2,[(0,.var [.i 0,.i 0,.i 0,.slice .nil (.t .ty []),.slice .nil (.t .tm [])]),(1,.row)]⟩))
  (M.W rn1) ?_ ?_
 ·intro m hm hP
  have hs2:=lsum_mem Tm.full (List.getElem_mem hm)
  repeat'(first|refine M.w0 ?_|refine M.c2 (copyTm_c _ _ (Nat.le_refl _) ?_) ?_|exact M.lt|fail)
  exact⟨rfl,trivial,(M.W [some 0,some 3] (hf:=(by(repeat'(first|exact trivial|refine And.intro ?_ ?_|refine⟨_,U,_,U,?_⟩|exact VLe.refl _|exact VLe.of_eq (by simp[Sto.upd,List.take_append_getElem])));done)))⟩
 ·intro hP
  refine M.w0 ?_
  simp[tupV,V.wk,V.wks,constV,Ty.view,Tm.view]
theorem t_c(k:Int)(s:Ty)(l:List Tm)(hl:(l.map Tm.full).sum<1099511627776)(hs:s.size<1099511627776):PC E 28 [.i k,.agg s.view,.s .tm l] (.agg (Tm.mk k 0 s l).view):=by
 have h1:=n_c k l hl
 have h2:=copyTy_c _ s (Nat.le_refl _) hs
 refine M.F Tryz.func28 ?_
 refine M.w2 @h1 @h2 ?_
 simp[tupV,V.wk,V.wks,constV,Ty.view,Tm.view]
theorem Ty.ok_err(t:Ty):t.ok=(t.err==0):=by
 simp only[Ty.ok,Ty.err]
 cases t.shape
 ·simp
 ·by_cases h:t.size≤64
  ·have:¬t.size>64:=by omega
   simp[h,this]
  ·have:t.size>64:=by omega
   simp[h,this]
theorem Tm.head_eq(t:Tm):t.head=(!(!(arK t.kind).isSome)&& !((t.args.length:Int) !=(((arK t.kind).getD 0:Nat):Int))&& !decide (t.index<0)&&(!(t.index !=0)|| !(t.kind !=1))&&(bif typedK t.kind then !(t.ty.err !=0) else !(!t.ty.isNo))):=by
 simp only[Tm.head,Ty.ok_err]
 cases hk:arK t.kind with
 |none=>simp
 |some n=>
  have h1:(t.args.length==n)= !((t.args.length:Int) !=((n:Nat):Int)):=by rw[Bool.eq_iff_iff];simp;omega
  have h2:decide (0≤t.index)= !decide (t.index<0):=by rw[Bool.eq_iff_iff];simp
  simp[h1,h2,bne]
theorem termNodes_c:∀(b:Nat) (t:Tm),t.full≤b→b<1099511627776→PC E 187 [.agg t.view] (nodesM t):=by
 intro b
 induction b with
 |zero=>intro t h;have:=t.full_pos;omega
 |succ b ih=>
 intro t hsz hb
 have hsz':=Tm.full_eq t
 have hszz:=Tm.size_eq t
 have hle:=Tm.size_le_full t
 have hlen:=lsum_len Tm.full Tm.full_pos t.args
 have hsh:=Tm.shape_eq t
 have h1:=arity_c t.kind
 have h2:=typed_c t.kind
 have h3:=noType_c t.ty
 have h4:=checkTy_c t.ty (by omega)
 have bad:t.shape=false→(V.tup [.i 0,.bool false])=nodesM t:=fun h=>by simp[nodesM,Tm.nodes,h]
 refine M.F Tryz.func187 ?_
 repeat'(first|refine M.w4 @h1 @h2 @h3 @h4 ?_|refine M.gs ?_ ?_<;>intro h|refine M.cs ?_ ?_<;>intro h|fail)
 all_goals first
  |(have hd:t.head=false:=by rw[t.head_eq];simp_all
    have:t.shape=false:=by rw[hsh,hd,Bool.false_and]
    simp[Tm.nodes,this,tupV,constV,V.wk,V.wks];done)
  |(have hd:t.head=true:=by rw[t.head_eq];simp_all
    refine M.rp t.args.length (fun m=>∀j (hj:j<t.args.length),j<m→(t.args[j]).shape=true)
     (fun m=>([(1,.ptr 0 0),(8,.i (1+((t.args.take m).map Tm.size).sum)),(59,.s .tm t.args),(60,.i t.args.length),(61,.i m)],⟨1,[(0,.var t.view)]⟩))
     (by intro j hj h;omega) (M.W rh1) ?_ ?_
    ·intro m hm hP
     have hs1:=lsum_take Tm.size t.args m hm
     have hs2:=lsum_mem Tm.full (List.getElem_mem hm)
     have hs3:=lsum_take_le Tm.size t.args (m+1)
     have hs4:=Tm.nodes_le t.args[m]
     have hs5:=Tm.size_le_full t.args[m]
     repeat'(first|refine M.w0 ?_|refine M.c2 (ih _ ?_ ?_) ?_|refine M.cs ?_ ?_<;>intro h|exact M.le|exact M.lt|fail)
     ·have h1:(t.args[m]).shape=false:=by simpa using h
      have:t.shape=false:=by rw[hsh,all_not Tm.shape hm h1,Bool.and_false]
      simp[Tm.nodes,this,tupV,constV,V.wk,V.wks]
     ·have hh:(t.args[m]).shape=true:=by simpa using h
      refine⟨rfl,all_step (p:=fun t=>Tm.shape t=true) hm hP hh,?_⟩
      have e:(1+((((t.args.take (m+1)).map Tm.size).sum:Nat):Int))=1+(((t.args.take m).map Tm.size).sum:Nat)+t.args[m].nodes:=by simp only[Tm.nodes,hh,hs1];simp;omega
      simp only[e]
      exact(M.W rh1)
    ·intro hP
     have:t.shape=true:=by simp only[hsh,hd,all_of Tm.shape t.args fun j hj=>hP j hj hj];simp
     refine M.w0 ?_
     simp[Tm.nodes,this,tupV,constV,hszz,V.wk,V.wks])
theorem checkTm_c(t:Tm)(ht:t.full<1099511627776):PC E 142 [.agg t.view] (.tup [.i t.num,.i t.err]):=by
 have h1:=termNodes_c _ t (Nat.le_refl _) ht
 refine M.F Tryz.func142 ?_
 repeat'(first|refine M.w1 @h1 ?_|refine M.zb ?_|refine M.cs ?_ ?_<;>intro h|fail)
 all_goals simp_all[tupV,V.wk,V.wks,constV,Tm.num,Tm.err,Tm.nodes]
 all_goals(first|omega|(split<;>first|omega|simp_all))
theorem size_c(t:Tm)(ht:t.full<1099511627776):PC E 116 [.agg t.view] (.tup [.i t.num,.i t.err]):=by
 have h1:=checkTm_c t ht
 refine M.F Tryz.func116 ?_
 refine M.w1 @h1 ?_
 simp[tupV,V.wk,V.wks,constV,Ty.view,Tm.view]
theorem check_c(t:Tm)(ht:t.full<1099511627776):PC E 110 [.agg t.view] (.i t.err):=by
 have h1:=checkTm_c t ht
 refine M.F Tryz.func110 ?_
 refine M.w1 @h1 ?_
 simp[tupV,V.wk,V.wks,constV,Ty.view,Tm.view]
end Go.Ab
namespace Go.Ab
open Go Go.Proofs
set_option maxRecDepth 100000
set_option linter.all false
theorem sameTy_c:∀(n:Nat) (x y:Ty),x.size≤n→n<1099511627776→PC E 31 [.agg x.view,.agg y.view] (.bool (decide (x=y))):=by
 intro n
 induction n with
 |zero=>intro x y h;have:=x.size_pos;omega
 |succ n ih=>
 intro x y hsz hb
 have hsz':=Ty.size_eq x
 have hlen:=lsum_len Ty.size Ty.size_pos x.args
 have heq:=Ty.eq_iff x y
 refine M.F Tryz.func31 ?_
 repeat'(first|refine M.w0 ?_|refine M.gs ?_ ?_<;>intro h|refine M.cs ?_ ?_<;>intro h|fail)
 ·have:¬x=y:=by rw[heq];simp_all
  simp[this,tupV,constV,V.wk,V.wks]
 ·have:¬x=y:=by rintro rfl;simp at h
  simp[this,tupV,constV,V.wk,V.wks]
 ·rename_i hk
  simp at h hk
  have hl:x.args.length=y.args.length:=by omega
  refine M.rp x.args.length (fun m=>∀j (hj:j<x.args.length),j<m→x.args[j]=y.args[j]'(by omega))
   (fun m=>([(2,.ptr 0 0),(3,.ptr 1 0),(22,.i x.args.length),(23,.i m)],⟨2,[(0,.var x.view),(1,.var y.view)]⟩))
   (by intro j hj h;omega) (M.W rh2) ?_ ?_
  ·intro m hm hP
   have hm':m<y.args.length:=by omega
   have hs2:=lsum_mem Ty.size (List.getElem_mem hm)
   repeat'(first|refine M.w0 ?_|refine M.c2 (ih _ _ ?_ ?_) ?_|refine M.cs ?_ ?_<;>intro h|exact M.le|exact M.lt|fail)
   ·have:¬x=y:=by rw[heq];exact fun hc=>list_ne hm hm' (by simpa using h) hc.2
    simp[this,tupV,constV,V.wk,V.wks]
   ·exact ⟨rfl,step2 hl hm hP (by simpa using h),(M.W rh2)⟩
  ·intro hP
   have:x=y:=heq.2 ⟨hk,list_eq hl hP⟩
   refine M.w0 ?_
   simp[this,tupV,constV,V.wk,V.wks]
theorem sameTy2_c:∀(n:Nat) (x y:Ty),x.size≤n→n<1099511627776→PC E 92 [.agg x.view,.agg y.view] (.bool (decide (x=y))):=by
 intro n
 induction n with
 |zero=>intro x y h;have:=x.size_pos;omega
 |succ n ih=>
 intro x y hsz hb
 have hsz':=Ty.size_eq x
 have hlen:=lsum_len Ty.size Ty.size_pos x.args
 have heq:=Ty.eq_iff x y
 refine M.F Tryz.func92 ?_
 repeat'(first|refine M.w0 ?_|refine M.gs ?_ ?_<;>intro h|refine M.cs ?_ ?_<;>intro h|fail)
 ·have:¬x=y:=by rw[heq];simp_all
  simp[this,tupV,constV,V.wk,V.wks]
 ·have:¬x=y:=by rintro rfl;simp at h
  simp[this,tupV,constV,V.wk,V.wks]
 ·rename_i hk
  simp at h hk
  have hl:x.args.length=y.args.length:=by omega
  refine M.rp x.args.length (fun m=>∀j (hj:j<x.args.length),j<m→x.args[j]=y.args[j]'(by omega))
   (fun m=>([(2,.ptr 0 0),(3,.ptr 1 0),(22,.s .ty x.args),(23,.i x.args.length),(24,.i m)],⟨2,[(0,.var x.view),(1,.var y.view)]⟩))
   (by intro j hj h;omega) (M.W rh2) ?_ ?_
  ·intro m hm hP
   have hm':m<y.args.length:=by omega
   have hs2:=lsum_mem Ty.size (List.getElem_mem hm)
   repeat'(first|refine M.w0 ?_|refine M.c2 (ih _ _ ?_ ?_) ?_|refine M.cs ?_ ?_<;>intro h|exact M.le|exact M.lt|fail)
   ·have:¬x=y:=by rw[heq];exact fun hc=>list_ne hm hm' (by simpa using h) hc.2
    simp[this,tupV,constV,V.wk,V.wks]
   ·exact ⟨rfl,step2 hl hm hP (by simpa using h),(M.W rh2)⟩
  ·intro hP
   have:x=y:=heq.2 ⟨hk,list_eq hl hP⟩
   refine M.w0 ?_
   simp[this,tupV,constV,V.wk,V.wks]
theorem sameTm_c:∀(n:Nat) (x y:Tm),x.full≤n→n<1099511627776→PC E 24 [.agg x.view,.agg y.view] (.bool (decide (x=y))):=by
 intro n
 induction n with
 |zero=>intro x y h;have:=x.full_pos;omega
 |succ n ih=>
 intro x y hsz hb
 have hsz':=Tm.full_eq x
 have hlen:=lsum_len Tm.full Tm.full_pos x.args
 have heq:=Tm.eq_iff x y
 have hty:=sameTy_c _ x.ty y.ty (Nat.le_refl _) (by omega)
 refine M.F Tryz.func24 ?_
 repeat'(first|refine M.w1 @hty ?_|refine M.gs ?_ ?_<;>intro h|refine M.cs ?_ ?_<;>intro h|fail)
 ·have:¬x=y:=by rw[heq];simp_all
  simp[this,tupV,constV,V.wk,V.wks]
 ·have:¬x=y:=by rw[heq];simp_all
  simp[this,tupV,constV,V.wk,V.wks]
 ·have:¬x=y:=by rw[heq];simp_all
  simp[this,tupV,constV,V.wk,V.wks]
 ·have:¬x=y:=by rintro rfl;simp at h
  simp[this,tupV,constV,V.wk,V.wks]
 ·rename_i h1 h2 h3
  simp at h h1 h2 h3
  have hl:x.args.length=y.args.length:=by omega
  refine M.rp x.args.length (fun m=>∀j (hj:j<x.args.length),j<m→x.args[j]=y.args[j]'(by omega))
   (fun m=>([(2,.ptr 0 0),(3,.ptr 1 0),(37,.i x.args.length),(38,.i m)],⟨2,[(0,.var x.view),(1,.var y.view)]⟩))
   (by intro j hj h;omega) (M.W rh2) ?_ ?_
  ·intro m hm hP
   have hm':m<y.args.length:=by omega
   have hs2:=lsum_mem Tm.full (List.getElem_mem hm)
   repeat'(first|refine M.w0 ?_|refine M.c2 (ih _ _ ?_ ?_) ?_|refine M.cs ?_ ?_<;>intro h|exact M.le|exact M.lt|fail)
   ·have:¬x=y:=by rw[heq];exact fun hc=>list_ne hm hm' (by simpa using h) hc.2.2.2
    simp[this,tupV,constV,V.wk,V.wks]
   ·exact ⟨rfl,step2 hl hm hP (by simpa using h),(M.W rh2)⟩
  ·intro hP
   have:x=y:=heq.2 ⟨h1,h2,h3,list_eq hl hP⟩
   refine M.w0 ?_
   simp[this,tupV,constV,V.wk,V.wks]
theorem sameTm2_c:∀(n:Nat) (x y:Tm),x.full≤n→n<1099511627776→PC E 134 [.agg x.view,.agg y.view] (.bool (decide (x=y))):=by
 intro n
 induction n with
 |zero=>intro x y h;have:=x.full_pos;omega
 |succ n ih=>
 intro x y hsz hb
 have hsz':=Tm.full_eq x
 have hlen:=lsum_len Tm.full Tm.full_pos x.args
 have heq:=Tm.eq_iff x y
 have hty:=sameTy2_c _ x.ty y.ty (Nat.le_refl _) (by omega)
 refine M.F Tryz.func134 ?_
 repeat'(first|refine M.w1 @hty ?_|refine M.gs ?_ ?_<;>intro h|refine M.cs ?_ ?_<;>intro h|fail)
 ·have:¬x=y:=by rw[heq];simp_all
  simp[this,tupV,constV,V.wk,V.wks]
 ·have:¬x=y:=by rw[heq];simp_all
  simp[this,tupV,constV,V.wk,V.wks]
 ·have:¬x=y:=by rw[heq];simp_all
  simp[this,tupV,constV,V.wk,V.wks]
 ·have:¬x=y:=by rintro rfl;simp at h
  simp[this,tupV,constV,V.wk,V.wks]
 ·rename_i h1 h2 h3
  simp at h h1 h2 h3
  have hl:x.args.length=y.args.length:=by omega
  refine M.rp x.args.length (fun m=>∀j (hj:j<x.args.length),j<m→x.args[j]=y.args[j]'(by omega))
   (fun m=>([(2,.ptr 0 0),(3,.ptr 1 0),(37,.s .tm x.args),(38,.i x.args.length),(39,.i m)],⟨2,[(0,.var x.view),(1,.var y.view)]⟩))
   (by intro j hj h;omega) (M.W rh2) ?_ ?_
  ·intro m hm hP
   have hm':m<y.args.length:=by omega
   have hs2:=lsum_mem Tm.full (List.getElem_mem hm)
   repeat'(first|refine M.w0 ?_|refine M.c2 (ih _ _ ?_ ?_) ?_|refine M.cs ?_ ?_<;>intro h|exact M.le|exact M.lt|fail)
   ·have:¬x=y:=by rw[heq];exact fun hc=>list_ne hm hm' (by simpa using h) hc.2.2.2
    simp[this,tupV,constV,V.wk,V.wks]
   ·exact ⟨rfl,step2 hl hm hP (by simpa using h),(M.W rh2)⟩
  ·intro hP
   have:x=y:=heq.2 ⟨h1,h2,h3,list_eq hl hP⟩
   refine M.w0 ?_
   simp[this,tupV,constV,V.wk,V.wks]
def nearF(b:Bool)(l:List (Int×Int)):Bool:=b&&l.all fun p=>decide (p.1≤536870912)
theorem nearF_append(b:Bool)(l l':List (Int×Int)):nearF (nearF b l) l'=nearF b (l++l'):=by simp[nearF,Bool.and_assoc]
theorem nearF_nil(b:Bool):nearF b []=b:=by simp[nearF]
theorem nearCb(b:Bool)(i bl:Int):AC E 143 [.i i,.i bl,.ptr 0 0] ⟨1,[(0,.var [.bool b])]⟩ (.tup []) ⟨1,[(0,.var [.bool (nearF b [(i,bl)])])]⟩:=by
 refine M.F Tryz.func143 ?_
 repeat'(first|refine M.w0 ?_|refine M.gs ?_ ?_<;>intro h|fail)
 ·(exact M.n2 rh1 (h6:=(by(repeat'(first|exact trivial|refine And.intro ?_ ?_|refine⟨_,U,_,U,_,U,?_⟩|exact VLe.of_eq (by simp[Sto.upd,nearF,h])));done)) (h8:=(by simp[tupV,V.wk,V.wks,constV,Ty.view,Tm.view,nearF,h])))
 ·(exact M.n2 rh1 (h6:=(by(repeat'(first|exact trivial|refine And.intro ?_ ?_|refine⟨_,U,_,U,_,U,?_⟩|exact VLe.of_eq (by simp[Sto.upd,nearF,h])));done)) (h8:=(by simp[tupV,V.wk,V.wks,constV,Ty.view,Tm.view,nearF,h])))
theorem nearEach1:∀(n:Nat) (t:Tm) (b:Bool) (bl:Int),t.full≤n→n<1099511627776→0≤bl→bl+n<1099511627776→AC E 132 [.agg t.view,.i bl,.ptr 0 0,.ptr 1 0] ⟨3,[(0,.var [.fn (.func 143) [] [.ptr 2 0]]),(1,.var [.fn (.func 132) [] [.ptr 0 0,.ptr 1 0]]),(2,.var [.bool b])]⟩ (.tup [])
 ⟨3,[(0,.var [.fn (.func 143) [] [.ptr 2 0]]),(1,.var [.fn (.func 132) [] [.ptr 0 0,.ptr 1 0]]),(2,.var [.bool (nearF b (t.vars bl))])]⟩:=by
 intro n
 induction n with
 |zero=>intro t b bl h;have:=t.full_pos;omega
 |succ n ih=>
 intro t b bl hsz hb hbl hbn
 have hsz':=Tm.full_eq t
 have hlen:=lsum_len Tm.full Tm.full_pos t.args
 have hv:=Tm.vars_eq bl t
 refine M.F Tryz.func132 ?_
 repeat'(first|refine M.w0 ?_|refine M.cv (nearCb _ _ _) [2] 0 ?_|refine M.cs ?_ ?_<;>intro h|fail)
 all_goals
  have hup:up t.kind bl≤bl+1:=by simp only[up];split<;>omega
  have hup0:0≤up t.kind bl:=by simp only[up];split<;>omega
  refine M.rt t.args.length
   (fun m=>([(1,.i (up t.kind bl)),(3,.ptr 1 0),(22,.s .tm t.args),(23,.i t.args.length),(24,.i m)],⟨4,[(0,.var [.fn (.func 143) [] [.ptr 2 0]]),(1,.var [.fn (.func 132) [] [.ptr 0 0,.ptr 1 0]]),(2,.var [.bool (nearF b ((if t.kind=1 then [(t.index,bl)] else [])++(t.args.take m).flatMap (Tm.vars (up t.kind bl))))]),(3,.var t.view)]⟩))
   ?_ ?_ ?_
  ·simp_all only[beq_iff_eq,beq_eq_false_iff_ne,ne_eq]
   exact(M.W rh4 (hf:=(by(repeat'(first|exact trivial|refine And.intro ?_ ?_|refine⟨_,U,_,U,?_⟩|exact VLe.refl _|exact VLe.of_eq (by simp[Sto.upd,up, *,nearF_nil])));done)) (he:=(by(repeat'(first|exact trivial|refine And.intro ?_ ?_|refine⟨_,U,_,U,_,U,?_⟩|exact VLe.refl _|exact VLe.of_eq (by simp[Sto.upd,up, *,nearF_nil])));done)))
  ·intro m hm hP
   have hs2:=lsum_mem Tm.full (List.getElem_mem hm)
   have hc:=ih t.args[m] (nearF b ((if t.kind=1 then [(t.index,bl)] else [])++(t.args.take m).flatMap (Tm.vars (up t.kind bl)))) (up t.kind bl) (by omega) (by omega) hup0 (by omega)
   repeat'(first|refine M.w0 ?_|refine M.cv (hc) [0,1,2] 0 ?_|fail)
   refine⟨rfl,trivial,?_⟩
   exact(M.W rh4 (he:=(by(repeat'(first|exact trivial|refine And.intro ?_ ?_|refine⟨_,U,_,U,_,U,?_⟩|exact VLe.refl _|exact VLe.of_eq (by simp[Sto.upd,nearF_append,flat_take _ _ _ hm])));done)))
  ·intro hP
   skip
   (exact M.n2 rh3 (h6:=(by(repeat'(first|exact trivial|refine And.intro ?_ ?_|refine⟨_,U,_,U,_,U,?_⟩|exact VLe.refl _|exact VLe.of_eq (by simp[Sto.upd,hv])));done)) (h8:=(by simp[tupV,V.wk,V.wks,constV,Ty.view,Tm.view,hv])))
theorem nearEach(t:Tm)(b:Bool)(ht:t.full<1099511627776):AC E 90 [.agg t.view,.fn (.func 143) [] [.ptr 0 0]] ⟨1,[(0,.var [.bool b])]⟩ (.tup []) ⟨1,[(0,.var [.bool (nearF b (t.vars 0))])]⟩:=by
 have hc:=nearEach1 _ t b 0 (Nat.le_refl _) (by omega) (by omega) (by omega)
 refine M.F Tryz.func90 ?_
 repeat'(first|refine M.w0 ?_|refine M.cv (hc) [2,3,0] 0 ?_|fail)
 (exact M.n2 rh1 (h8:=(by simp[tupV,V.wk,V.wks,constV,Ty.view,Tm.view,nearF])))
theorem near_c(t:Tm)(ht:t.full<1099511627776):PC E 112 [.agg t.view] (.bool t.near):=by
 have hc:=nearEach t true ht
 refine M.F Tryz.func112 ?_
 repeat'(first|refine M.w0 ?_|refine M.cb (hc) [1] 0 ?_|fail)
 simp[tupV,V.wk,V.wks,nearF,Tm.near]
theorem countCb(at_ c i bl:Int)(hc:0≤c∧c<1099511627776)(hi:0≤i∧i<9223372036854775808)(hb:0≤bl∧bl<1099511627776):AC E 191 [.i i,.i bl,.ptr 0 0,.ptr 1 0] ⟨2,[(0,.var [.i at_]),(1,.var [.i c])]⟩ (.tup []) ⟨2,[(0,.var [.i at_]),(1,.var [.i (c+cnt at_ [(i,bl)])])]⟩:=by
 refine M.F Tryz.func191 ?_
 repeat'(first|refine M.w0 ?_|refine M.cs ?_ ?_<;>intro h|fail)
 ·have:i-bl=at_:=by simpa using h
  (exact M.n2 rh2 (h6:=(by(repeat'(first|exact trivial|refine And.intro ?_ ?_|refine⟨_,U,_,U,_,U,?_⟩|exact VLe.refl _|exact VLe.of_eq (by simp[Sto.upd,cnt_one,this])));done)) (h8:=(by simp[tupV,V.wk,V.wks,constV,Ty.view,Tm.view,cnt_one,this])))
 ·have:¬i-bl=at_:=by simpa using h
  (exact M.n2 rh2 (h6:=(by(repeat'(first|exact trivial|refine And.intro ?_ ?_|refine⟨_,U,_,U,_,U,?_⟩|exact VLe.refl _|exact VLe.of_eq (by simp[Sto.upd,cnt_one,this])));done)) (h8:=(by simp[tupV,V.wk,V.wks,constV,Ty.view,Tm.view,cnt_one,this])))
theorem countEach1(at_:Int):∀(n:Nat) (t:Tm) (c:Int) (bl:Int),t.full≤n→n<1099511627776→0≤bl→bl+n<1099511627776→0≤c→c+t.full<1099511627776→(∀p∈t.vars bl,0≤p.1∧p.1<9223372036854775808)→AC E 132 [.agg t.view,.i bl,.ptr 0 0,.ptr 1 0] ⟨4,[(0,.var [.fn (.func 191) [] [.ptr 2 0,.ptr 3 0]]),(1,.var [.fn (.func 132) [] [.ptr 0 0,.ptr 1 0]]),(2,.var [.i at_]),(3,.var [.i c])]⟩ (.tup [])
 ⟨4,[(0,.var [.fn (.func 191) [] [.ptr 2 0,.ptr 3 0]]),(1,.var [.fn (.func 132) [] [.ptr 0 0,.ptr 1 0]]),(2,.var [.i at_]),(3,.var [.i (c+cnt at_ (t.vars bl))])]⟩:=by
 intro n
 induction n with
 |zero=>intro t b bl h;have:=t.full_pos;omega
 |succ n ih=>
 intro t c bl hsz hb hbl hbn hc0 hcn hix
 have hsz':=Tm.full_eq t
 have hlen:=lsum_len Tm.full Tm.full_pos t.args
 have hv:=Tm.vars_eq bl t
 have hi:t.kind=1→0≤t.index∧t.index<9223372036854775808:=fun h=>by simpa using hix (t.index,bl) (by rw[hv];simp[h])
 have hcb:t.kind=1→_:=fun h=>countCb at_ c t.index bl (by omega) (hi h) (by omega)
 refine M.F Tryz.func132 ?_
 repeat'(first|refine M.w0 ?_|refine M.cv (hcb (by simpa using h)) [2,3] 0 ?_|refine M.cs ?_ ?_<;>intro h|fail)
 all_goals
  have hup:up t.kind bl≤bl+1:=by simp only[up];split<;>omega
  have hup0:0≤up t.kind bl:=by simp only[up];split<;>omega
  refine M.rt t.args.length
   (fun m=>([(1,.i (up t.kind bl)),(3,.ptr 1 0),(22,.s .tm t.args),(23,.i t.args.length),(24,.i m)],⟨5,[(0,.var [.fn (.func 191) [] [.ptr 2 0,.ptr 3 0]]),(1,.var [.fn (.func 132) [] [.ptr 0 0,.ptr 1 0]]),(2,.var [.i at_]),(3,.var [.i (c+cnt at_ ((if t.kind=1 then [(t.index,bl)] else [])++(t.args.take m).flatMap (Tm.vars (up t.kind bl))))]),(4,.var t.view)]⟩))
   ?_ ?_ ?_
  ·simp_all only[beq_iff_eq,beq_eq_false_iff_ne,ne_eq]
   exact(M.W rh5 (hf:=(by(repeat'(first|exact trivial|refine And.intro ?_ ?_|refine⟨_,U,_,U,?_⟩|exact VLe.refl _|exact VLe.of_eq (by simp[Sto.upd,up, *,cnt_append,cnt])));done)) (he:=(by(repeat'(first|exact trivial|refine And.intro ?_ ?_|refine⟨_,U,_,U,_,U,?_⟩|exact VLe.refl _|exact VLe.of_eq (by simp[Sto.upd,up, *,cnt_append,cnt])));done)))
  ·intro m hm hP
   have hs2:=lsum_mem Tm.full (List.getElem_mem hm)
   have hs3:cnt at_ ((if t.kind=1 then [(t.index,bl)] else [])++(t.args.take m).flatMap (Tm.vars (up t.kind bl)))+t.args[m].full≤1+(t.args.map Tm.full).sum:=by
    have h1:=cnt_le at_ ((if t.kind=1 then [(t.index,bl)] else [])++(t.args.take m).flatMap (Tm.vars (up t.kind bl)))
    have h2:=flatLen (t.args.take m) (Tm.vars (up t.kind bl)) fun x _=>x.vars_len _
    have h3:((t.args.take m).map Tm.size).sum≤((t.args.take m).map Tm.full).sum:=lsum_le _ (fun x _=>x.size_le_full)
    have h4:=lsum_take Tm.full t.args m hm
    have h5:=lsum_take_le Tm.full t.args (m+1)
    have h6:(if t.kind=1 then [(t.index,bl)] else []).length≤1:=by split<;>simp
    simp only[List.length_append] at h1
    omega
   have hix':∀p∈(t.args[m]).vars (up t.kind bl),0≤p.1∧p.1<9223372036854775808:=fun p hp=>hix p (by rw[hv];exact List.mem_append_right _ (List.mem_flatMap.2 ⟨_,List.getElem_mem hm,hp⟩))
   have hc:=ih t.args[m] (c+cnt at_ ((if t.kind=1 then [(t.index,bl)] else [])++(t.args.take m).flatMap (Tm.vars (up t.kind bl)))) (up t.kind bl) (by omega) (by omega) hup0 (by omega) (by omega) (by omega) hix'
   repeat'(first|refine M.w0 ?_|refine M.cv (hc) [0,1,2,3] 0 ?_|fail)
   refine⟨rfl,trivial,?_⟩
   exact(M.W rh5 (he:=(by(repeat'(first|exact trivial|refine And.intro ?_ ?_|refine⟨_,U,_,U,_,U,?_⟩|exact VLe.refl _|exact VLe.of_eq (by simp[Sto.upd,cnt_append,flat_take _ _ _ hm,Int.add_assoc])));done)))
  ·intro hP
   skip
   (exact M.n2 rh4 (h6:=(by(repeat'(first|exact trivial|refine And.intro ?_ ?_|refine⟨_,U,_,U,_,U,?_⟩|exact VLe.refl _|exact VLe.of_eq (by simp[Sto.upd,hv])));done)) (h8:=(by simp[tupV,V.wk,V.wks,constV,Ty.view,Tm.view,hv])))
theorem countEach(t:Tm)(at_:Int)(ht:t.full<549755813888)(hix:∀p∈t.vars 0,0≤p.1∧p.1<9223372036854775808):AC E 90 [.agg t.view,.fn (.func 191) [] [.ptr 0 0,.ptr 1 0]] ⟨2,[(0,.var [.i at_]),(1,.var [.i 0])]⟩ (.tup []) ⟨2,[(0,.var [.i at_]),(1,.var [.i (cnt at_ (t.vars 0))])]⟩:=by
 have hc:=countEach1 at_ _ t 0 0 (Nat.le_refl _) (by omega) (by omega) (by omega) (by omega) (by omega) hix
 refine M.F Tryz.func90 ?_
 repeat'(first|refine M.w0 ?_|refine M.cv (hc) [3,4,0,1] 0 ?_|fail)
 (exact M.n2 rh2 (h6:=(by(repeat'(first|exact trivial|refine And.intro ?_ ?_|refine⟨_,U,_,U,_,U,?_⟩|exact VLe.refl _|exact VLe.of_eq (by simp[Sto.upd,cnt])));done)) (h8:=(by simp[tupV,V.wk,V.wks,constV,Ty.view,Tm.view,cnt])))
theorem count_w(t:Tm)(at_:Int)(ht:t.full<549755813888)(hix:∀p∈t.vars 0,0≤p.1∧p.1<9223372036854775808):PC E 149 [.agg t.view,.i at_] (.i (cnt at_ (t.vars 0))):=by
 have hc:=countEach t at_ ht hix
 refine M.F Tryz.func149 ?_
 repeat'(first|refine M.w0 ?_|refine M.cb (hc) [1,2] 0 ?_|fail)
 simp[tupV,V.wk,V.wks]
theorem count_c(t:Tm)(at_:Int)(ht:t.full<549755813888)(hix:∀p∈t.vars 0,0≤p.1∧p.1<1099511627776):PC E 149 [.agg t.view,.i at_] (.i (cnt at_ (t.vars 0))):=
 count_w t at_ ht fun p hp=>by have:=hix p hp;omega
theorem liftCb(fr by_ i bl:Int)(hi:0≤i∧i<549755813888)(hb:0≤bl∧bl<1099511627776)(hy: -1099511627776≤by_∧by_<1099511627776):AC E 145 [.i i,.i bl,.ptr 0 0,.ptr 1 0] ⟨2,[(0,.var [.i fr]),(1,.var [.i by_])]⟩ (.agg (liftG fr by_ i bl).view) ⟨2,[(0,.var [.i fr]),(1,.var [.i by_])]⟩:=by
 have hv:=tvar_c
 refine M.F Tryz.func145 ?_
 repeat'(first|refine M.w0 ?_|refine M.c2 (hv _) ?_|refine M.cs ?_ ?_<;>intro h|fail)
 ·have h':fr≤i-bl:=by simpa using h
  (exact M.n2 rh2 (h8:=(by simp[tupV,V.wk,V.wks,constV,Ty.view,Tm.view,liftG,h'])))
 ·have h':¬fr≤i-bl:=by simpa using h
  (exact M.n2 rh2 (h8:=(by simp[tupV,V.wk,V.wks,constV,Ty.view,Tm.view,liftG,h'])))
theorem liftRe1(fr by_:Int)(hy: -1099511627776≤by_∧by_<1099511627776):∀(n:Nat) (t:Tm) (bl:Int),t.full≤n→n<549755813888→0≤bl→bl+n<549755813888→(∀p∈t.vars bl,0≤p.1∧p.1<549755813888)→AC E 190 [.agg t.view,.i bl,.ptr 0 0,.ptr 1 0] ⟨4,[(0,.var [.fn (.func 145) [] [.ptr 2 0,.ptr 3 0]]),(1,.var [.fn (.func 190) [] [.ptr 0 0,.ptr 1 0]]),(2,.var [.i fr]),(3,.var [.i by_])]⟩ (.agg (t.re (liftG fr by_) bl).view) ⟨4,[(0,.var [.fn (.func 145) [] [.ptr 2 0,.ptr 3 0]]),(1,.var [.fn (.func 190) [] [.ptr 0 0,.ptr 1 0]]),(2,.var [.i fr]),(3,.var [.i by_])]⟩:=by
 intro n
 induction n with
 |zero=>intro t bl h;have:=t.full_pos;omega
 |succ n ih=>
 intro t bl hsz hb hbl hbn hix
 have hsz':=Tm.full_eq t
 have hlen:=lsum_len Tm.full Tm.full_pos t.args
 have hv:=Tm.vars_eq bl t
 have hre:=Tm.re_eq (liftG fr by_) bl t
 have hi:t.kind=1→0≤t.index∧t.index<549755813888:=fun h=>by simpa using hix (t.index,bl) (by rw[hv];simp[h])
 have hcb:t.kind=1→_:=fun h=>liftCb fr by_ t.index bl (hi h) (by omega) hy
 have hown:=ownTy_c _ t.ty (Nat.le_refl _) (by omega)
 refine M.F Tryz.func190 ?_
 repeat'(first|refine M.w0 ?_|refine M.cv (hcb (by simpa using h)) [2,3] 0 ?_|refine M.c2 (hown) ?_|refine M.cs ?_ ?_<;>intro h|fail)
 ·have hk:t.kind=1:=by simpa using h
  (exact M.n2 rh4 (h8:=(by simp[tupV,V.wk,V.wks,constV,Ty.view,Tm.view,hre,hk])))
 all_goals
  rename_i hk1
  have hup:up t.kind bl≤bl+1:=by simp only[up];split<;>omega
  have hup0:0≤up t.kind bl:=by simp only[up];split<;>omega
  have hk1':¬t.kind=1:=by simpa using hk1
  refine M.rt t.args.length
   (fun m=>([(1,.i (up t.kind bl)),(3,.ptr 1 0),(6,.ptr 5 0),(7,.ptr 6 0),(32,.s .tm t.args),(33,.i t.args.length),(34,.i m)],⟨8,[(0,.var [.fn (.func 145) [] [.ptr 2 0,.ptr 3 0]]),(1,.var [.fn (.func 190) [] [.ptr 0 0,.ptr 1 0]]),(2,.var [.i fr]),(3,.var [.i by_]),(4,.var t.view),(5,.var [.i 0,.i 0,.i 0,.slice .nil (.t .ty []),.slice .nil (.t .tm [])]),(6,.var [.i t.kind,.i t.index,.i t.ty.kind,.s .ty t.ty.args,.slice (.own 7) (.t .tm ((t.args.take m).map (Tm.re (liftG fr by_) (up t.kind bl))))]),(7,.row)]⟩))
   ?_ ?_ ?_
  ·simp_all only[beq_iff_eq,beq_eq_false_iff_ne,ne_eq]
   exact(M.W rn7 (hf:=(by(repeat'(first|exact trivial|refine And.intro ?_ ?_|refine⟨_,U,_,U,?_⟩|exact VLe.refl _|exact VLe.of_eq (by simp[Sto.upd,up, *])));done)))
  ·intro m hm hP
   have hs2:=lsum_mem Tm.full (List.getElem_mem hm)
   have hix':∀p∈(t.args[m]).vars (up t.kind bl),0≤p.1∧p.1<549755813888:=fun p hp=>hix p (by rw[hv];exact List.mem_append_right _ (List.mem_flatMap.2 ⟨_,List.getElem_mem hm,hp⟩))
   have hc:=ih t.args[m] (up t.kind bl) (by omega) (by omega) hup0 (by omega) hix'
   repeat'(first|refine M.w0 ?_|refine M.cv (hc) [0,1,2,3] 0 ?_|fail)
   refine⟨rfl,trivial,?_⟩
   exact(M.W [some 0,some 1,some 2,some 3,some 4,some 5,some 6,some 9] (he:=(by(repeat'(first|exact trivial|exact Or.inr ⟨_,U,rfl⟩|refine And.intro ?_ ?_|refine⟨_,U,_,U,_,U,?_⟩|exact VLe.refl _|exact VLe.of_eq (by simp[Sto.upd,map_take _ _ _ hm])));done)))
  ·intro hP
   refine M.w0 ?_
   (exact M.n2 rh4 (h8:=(by simp[tupV,V.wk,V.wks,constV,Ty.view,Tm.view,hre,hk1'])))
theorem liftRe(fr by_:Int)(hy: -1099511627776≤by_∧by_<1099511627776)(t:Tm)(ht:t.full<274877906944)(hix:∀p∈t.vars 0,0≤p.1∧p.1<549755813888):AC E 144 [.agg t.view,.fn (.func 145) [] [.ptr 0 0,.ptr 1 0]] ⟨2,[(0,.var [.i fr]),(1,.var [.i by_])]⟩ (.agg (t.re (liftG fr by_) 0).view) ⟨2,[(0,.var [.i fr]),(1,.var [.i by_])]⟩:=by
 have hc:=liftRe1 fr by_ hy _ t 0 (Nat.le_refl _) (by omega) (by omega) (by omega) hix
 refine M.F Tryz.func144 ?_
 repeat'(first|refine M.w0 ?_|refine M.cv (hc) [3,5,0,1] 0 ?_|fail)
 (exact M.n2 rh2 (h8:=(by simp[tupV,V.wk,V.wks,constV,Ty.view,Tm.view,hc])))
theorem lift_c(t:Tm)(fr by_:Int)(hy: -1099511627776≤by_∧by_<1099511627776)(ht:t.full<274877906944)(hix:∀p∈t.vars 0,0≤p.1∧p.1<549755813888):PC E 113 [.agg t.view,.i fr,.i by_] (.agg (t.re (liftG fr by_) 0).view):=by
 have hc:=liftRe fr by_ hy t ht hix
 refine M.F Tryz.func113 ?_
 repeat'(first|refine M.w0 ?_|refine M.cb (hc) [1,2] 0 ?_|fail)
 simp[tupV,V.wk,V.wks,constV,Ty.view,Tm.view]
theorem putCb(at_:Int)(s:Tm)(i bl:Int)(hat:0≤at_∧at_<549755813888)(hs:s.full<274877906944)(hsi:∀p∈s.vars 0,0≤p.1∧p.1<549755813888)(hi:0≤i∧i<9223372036854775808)(hb:0≤bl∧bl<549755813888):AC E 192 [.i i,.i bl,.ptr 0 0,.ptr 1 0] ⟨2,[(0,.var [.i at_]),(1,.var s.view)]⟩ (.agg (putG at_ s i bl).view) ⟨2,[(0,.var [.i at_]),(1,.var s.view)]⟩:=by
 have hv:=tvar_c
 have hl:=lift_c s 0 (at_+bl) (by omega) hs hsi
 refine M.F Tryz.func192 ?_
 repeat'(first|refine M.w0 ?_|refine M.c2 (hv _) ?_|refine M.c2 (hl) ?_|refine M.bl ?_|refine M.cs ?_ ?_<;>intro h|fail)
 ·have h':i-bl=at_:=by simpa using h
  (exact M.n2 rh2 (h8:=(by simp[tupV,V.wk,V.wks,constV,Ty.view,Tm.view,putG,h'])))
 ·rename_i h0
  have h0':¬i-bl=at_:=by simpa using h0
  have h':at_<i-bl:=by simpa using h
  (exact M.n2 rh2 (h8:=(by simp[tupV,V.wk,V.wks,constV,Ty.view,Tm.view,putG,h',h0'])))
 ·rename_i h0
  have h0':¬i-bl=at_:=by simpa using h0
  have h':¬at_<i-bl:=by simpa using h
  (exact M.n2 rh2 (h8:=(by simp[tupV,V.wk,V.wks,constV,Ty.view,Tm.view,putG,h',h0'])))
theorem putRe1(at_:Int)(s:Tm)(hat:0≤at_∧at_<549755813888)(hs:s.full<274877906944)(hsi:∀p∈s.vars 0,0≤p.1∧p.1<549755813888):∀(n:Nat) (t:Tm) (bl:Int),t.full≤n→n<549755813888→0≤bl→bl+n<549755813888→(∀p∈t.vars bl,0≤p.1∧p.1<9223372036854775808)→AC E 190 [.agg t.view,.i bl,.ptr 0 0,.ptr 1 0] ⟨4,[(0,.var [.fn (.func 192) [] [.ptr 2 0,.ptr 3 0]]),(1,.var [.fn (.func 190) [] [.ptr 0 0,.ptr 1 0]]),(2,.var [.i at_]),(3,.var s.view)]⟩ (.agg (t.re (putG at_ s) bl).view) ⟨4,[(0,.var [.fn (.func 192) [] [.ptr 2 0,.ptr 3 0]]),(1,.var [.fn (.func 190) [] [.ptr 0 0,.ptr 1 0]]),(2,.var [.i at_]),(3,.var s.view)]⟩:=by
 intro n
 induction n with
 |zero=>intro t bl h;have:=t.full_pos;omega
 |succ n ih=>
 intro t bl hsz hb hbl hbn hix
 have hsz':=Tm.full_eq t
 have hlen:=lsum_len Tm.full Tm.full_pos t.args
 have hv:=Tm.vars_eq bl t
 have hre:=Tm.re_eq (putG at_ s) bl t
 have hi:t.kind=1→0≤t.index∧t.index<9223372036854775808:=fun h=>by simpa using hix (t.index,bl) (by rw[hv];simp[h])
 have hcb:t.kind=1→_:=fun h=>putCb at_ s t.index bl hat hs hsi (hi h) (by omega)
 have hown:=ownTy_c _ t.ty (Nat.le_refl _) (by omega)
 refine M.F Tryz.func190 ?_
 repeat'(first|refine M.w0 ?_|refine M.cv (hcb (by simpa using h)) [2,3] 0 ?_|refine M.c2 (hown) ?_|refine M.cs ?_ ?_<;>intro h|fail)
 ·have hk:t.kind=1:=by simpa using h
  (exact M.n2 rh4 (h8:=(by simp[tupV,V.wk,V.wks,constV,Ty.view,Tm.view,hre,hk])))
 all_goals
  rename_i hk1
  have hup:up t.kind bl≤bl+1:=by simp only[up];split<;>omega
  have hup0:0≤up t.kind bl:=by simp only[up];split<;>omega
  have hk1':¬t.kind=1:=by simpa using hk1
  refine M.rt t.args.length
   (fun m=>([(1,.i (up t.kind bl)),(3,.ptr 1 0),(6,.ptr 5 0),(7,.ptr 6 0),(32,.s .tm t.args),(33,.i t.args.length),(34,.i m)],⟨8,[(0,.var [.fn (.func 192) [] [.ptr 2 0,.ptr 3 0]]),(1,.var [.fn (.func 190) [] [.ptr 0 0,.ptr 1 0]]),(2,.var [.i at_]),(3,.var s.view),(4,.var t.view),(5,.var [.i 0,.i 0,.i 0,.slice .nil (.t .ty []),.slice .nil (.t .tm [])]),(6,.var [.i t.kind,.i t.index,.i t.ty.kind,.s .ty t.ty.args,.slice (.own 7) (.t .tm ((t.args.take m).map (Tm.re (putG at_ s) (up t.kind bl))))]),(7,.row)]⟩))
   ?_ ?_ ?_
  ·simp_all only[beq_iff_eq,beq_eq_false_iff_ne,ne_eq]
   exact(M.W rn7 (hf:=(by(repeat'(first|exact trivial|refine And.intro ?_ ?_|refine⟨_,U,_,U,?_⟩|exact VLe.refl _|exact VLe.of_eq (by simp[Sto.upd,up, *])));done)))
  ·intro m hm hP
   have hs2:=lsum_mem Tm.full (List.getElem_mem hm)
   have hix':∀p∈(t.args[m]).vars (up t.kind bl),0≤p.1∧p.1<9223372036854775808:=fun p hp=>hix p (by rw[hv];exact List.mem_append_right _ (List.mem_flatMap.2 ⟨_,List.getElem_mem hm,hp⟩))
   have hc:=ih t.args[m] (up t.kind bl) (by omega) (by omega) hup0 (by omega) hix'
   repeat'(first|refine M.w0 ?_|refine M.cv (hc) [0,1,2,3] 0 ?_|fail)
   refine⟨rfl,trivial,?_⟩
   exact(M.W [some 0,some 1,some 2,some 3,some 4,some 5,some 6,some 9] (he:=(by(repeat'(first|exact trivial|exact Or.inr ⟨_,U,rfl⟩|refine And.intro ?_ ?_|refine⟨_,U,_,U,_,U,?_⟩|exact VLe.refl _|exact VLe.of_eq (by simp[Sto.upd,map_take _ _ _ hm])));done)))
  ·intro hP
   refine M.w0 ?_
   (exact M.n2 rh4 (h8:=(by simp[tupV,V.wk,V.wks,constV,Ty.view,Tm.view,hre,hk1'])))
theorem putRe(at_:Int)(s:Tm)(hat:0≤at_∧at_<549755813888)(hs:s.full<274877906944)(hsi:∀p∈s.vars 0,0≤p.1∧p.1<549755813888)(t:Tm)(ht:t.full<274877906944)(hix:∀p∈t.vars 0,0≤p.1∧p.1<9223372036854775808):AC E 144 [.agg t.view,.fn (.func 192) [] [.ptr 0 0,.ptr 1 0]] ⟨2,[(0,.var [.i at_]),(1,.var s.view)]⟩ (.agg (t.re (putG at_ s) 0).view) ⟨2,[(0,.var [.i at_]),(1,.var s.view)]⟩:=by
 have hc:=putRe1 at_ s hat hs hsi _ t 0 (Nat.le_refl _) (by omega) (by omega) (by omega) hix
 refine M.F Tryz.func144 ?_
 repeat'(first|refine M.w0 ?_|refine M.cv (hc) [3,5,0,1] 0 ?_|fail)
 (exact M.n2 rh2 (h8:=(by simp[tupV,V.wk,V.wks,constV,Ty.view,Tm.view,hc])))
theorem put_w(t:Tm)(at_:Int)(s:Tm)(hat:0≤at_∧at_<549755813888)(hs:s.full<274877906944)(hsi:∀p∈s.vars 0,0≤p.1∧p.1<549755813888)(ht:t.full<274877906944)(hix:∀p∈t.vars 0,0≤p.1∧p.1<9223372036854775808):PC E 151 [.agg t.view,.i at_,.agg s.view] (.agg (t.re (putG at_ s) 0).view):=by
 have hc:=putRe at_ s hat hs hsi t ht hix
 refine M.F Tryz.func151 ?_
 repeat'(first|refine M.w0 ?_|refine M.cb (hc) [1,2] 0 ?_|fail)
 simp[tupV,V.wk,V.wks,constV,Ty.view,Tm.view]
theorem put_c(t:Tm)(at_:Int)(s:Tm)(hat:0≤at_∧at_<549755813888)(hs:s.full<274877906944)(hsi:∀p∈s.vars 0,0≤p.1∧p.1<549755813888)(ht:t.full<274877906944)(hix:∀p∈t.vars 0,0≤p.1∧p.1<549755813888):PC E 151 [.agg t.view,.i at_,.agg s.view] (.agg (t.re (putG at_ s) 0).view):=
 put_w t at_ s hat hs hsi ht fun p hp=>by have:=hix p hp;omega
end Go.Ab
namespace Go.Ab
open Go Go.Proofs
set_option maxRecDepth 100000
set_option maxHeartbeats 4000000
set_option linter.all false
theorem mod_c(n k:Int)(hk:0<k∧k<1099511627776):PC E 26 [.i n,.i k] (.i (modI n k)):=by
 have hb1:=Int.tmod_lt_of_pos n hk.1
 have hb2:=tmod_lo n k hk.1
 refine M.F Tryz.func26 ?_
 refine M.w0 ?_
 rfl
theorem next_c(d:Dk)(n:Int)(hd:d.ok)(hn:n<1099511627776):AC E 8 [.ptr 0 0,.i n] ⟨1,[(0,.var d.cells)]⟩ (.i (d.next n).1) ⟨1,[(0,.var (d.next n).2.cells)]⟩:=by
 obtain⟨hd1,hd2⟩:=hd
 have hm:¬n<1→∀x,PC E 26 [.i x,.i n] (.i (modI x n)):=fun h x=>mod_c x n ⟨by omega,hn⟩
 refine M.F Tryz.func8 ?_
 repeat'(first|refine M.w0 ?_|refine M.c2 (hm (by simp_all) _) ?_|refine M.gs ?_ ?_<;>intro h|refine M.cs ?_ ?_<;>intro h|fail)
 ·have h':n<1:=by simpa using h
  have e:d.next n=(0,d):=dif_pos (.inl h')
  (exact M.n2 rh1 (h6:=(by(repeat'(first|exact trivial|refine And.intro ?_ ?_|refine⟨_,U,_,U,_,U,?_⟩|exact VLe.of_eq (by simp[Sto.upd,e,Dk.cells])));done)) (h8:=(by simp[tupV,V.wk,V.wks,constV,Ty.view,Tm.view,e,Dk.cells])))
 ·have h':d.l.length≤d.at_:=by simp at h;omega
  have e:d.next n=(0,d):=dif_pos (.inr h')
  (exact M.n2 rh1 (h6:=(by(repeat'(first|exact trivial|refine And.intro ?_ ?_|refine⟨_,U,_,U,_,U,?_⟩|exact VLe.of_eq (by simp[Sto.upd,e,Dk.cells])));done)) (h8:=(by simp[tupV,V.wk,V.wks,constV,Ty.view,Tm.view,e,Dk.cells])))
 ·rename_i h0
  have h':¬(n<1∨d.l.length≤d.at_):=by simp at h h0;omega
  have e:d.next n=(modI (d.l[d.at_]'(by omega)) n,⟨d.l,d.at_+1⟩):=dif_neg h'
  (exact M.n2 rh1 (h6:=(by(repeat'(first|exact trivial|refine And.intro ?_ ?_|refine⟨_,U,_,U,_,U,?_⟩|exact VLe.of_eq (by simp[Sto.upd,e,Dk.cells])));done)) (h8:=(by simp[tupV,V.wk,V.wks,constV,Ty.view,Tm.view,e,Dk.cells])))
theorem few_c(l:List Int):PC E 5 [.s .int l] (.bool (decide (l.length≤500))):=by
 refine M.F Tryz.func5 ?_
 refine M.w0 ?_
 simp[tupV,V.wk,V.wks]
 omega
theorem new_c(l:List Int):AC E 6 [.s .int l] ⟨0,[]⟩ (.ptr 0 0) ⟨1,[(0,.var (Dk.mk l 0).cells)]⟩:=by
 refine M.F Tryz.func6 ?_
 refine M.w0 ?_
 (exact M.n2 rh1 (h8:=(by simp[tupV,V.wk,V.wks,constV,Ty.view,Tm.view,Dk.cells])))
end Go.Ab
