/- A part of the proofs of this seat's statements: H1, S1, S2, S3, S167, S4, S5, S8, S9, S10, S11, S12, S13, S14, S15, S16. It has no conditions of its own. -/
import Derived.Test.YtecbeopjdkdboaaDoorA1
import Derived.Test.YtecbeopjdkdboaaDoorRows
import Derived.Test.YtecbeopjdkdboaaDoorA2
import Derived.Test.YtecbeopjdkdboaaDoorD1
import Derived.Test.YtecbeopjdkdboaaDoorA3
namespace Go.Ab
open Go Go.Proofs
def tab:List (TypeId×TI):=[
 (1,⟨1,[.nilf],.other⟩),
 (2,⟨1,[.int .i64 0],.int .i64⟩),
 (3,⟨1,[.int .i64 0],.int .i64⟩),
 (4,⟨1,[.bool false],.bool⟩),
 (5,⟨1,[.int .u8 0],.int .u8⟩),
 (7,⟨4,[.int .i64 0,.int .i64 0,.bool false,.int .u8 0],.strct [(0,1,false),(1,1,false),(2,1,false),(3,1,false)]⟩),
 (9,⟨1,[.str ⟨#[]⟩],.str⟩),
 (12,⟨1,[.int .u64 0],.int .u64⟩),
 (13,⟨2,[.str ⟨#[]⟩,.int .u64 0],.strct [(0,1,false),(1,1,false)]⟩),
 (15,⟨1,[.nilp],.other⟩),
 (16,⟨1,[.nilp],.other⟩),
 (17,⟨1,[.nilp],.other⟩),
 (18,⟨1,[.nilp],.strct [(0,1,false)]⟩),
 (20,⟨1,[.raw .nilIface],.other⟩),
 (21,⟨1,[.int .i32 0],.int .i32⟩),
 (22,⟨1,[.slice .nil (.t .int [])],.slc (some .int) 1 8⟩),
 (23,⟨1,[.slice .nil (.t .ty [])],.slc (some .ty) 2 32⟩),
 (24,⟨2,[.int .i64 0,.slice .nil (.t .ty [])],.strct [(0,1,false),(1,1,false)]⟩),
 (25,⟨2,[.int .i64 0,.slice .nil (.t .ty [])],.strct [(0,1,false),(1,1,false)]⟩),
 (26,⟨1,[.slice .nil (.t .tm [])],.slc (some .tm) 5 72⟩),
 (27,⟨5,[.int .i64 0,.int .i64 0,.int .i64 0,.slice .nil (.t .ty []),.slice .nil (.t .tm [])],.strct [(0,1,false),(1,1,false),(2,2,true),(4,1,false)]⟩),
 (28,⟨5,[.int .i64 0,.int .i64 0,.int .i64 0,.slice .nil (.t .ty []),.slice .nil (.t .tm [])],.strct [(0,1,false),(1,1,false),(2,2,true),(4,1,false)]⟩),
 (29,⟨1,[.nilf],.other⟩),
 (30,⟨1,[.nilf],.other⟩),
 (31,⟨1,[.nilf],.other⟩),
 (32,⟨1,[.nilf],.other⟩),
 (33,⟨1,[.nilp],.other⟩),
 (34,⟨1,[.nilf],.other⟩),
 (35,⟨1,[.nilf],.other⟩),
 (36,⟨1,[.nilf],.other⟩),
 (37,⟨1,[.nilf],.other⟩),
 (38,⟨1,[.nilf],.other⟩),
 (39,⟨1,[.int .i64 0],.int .i64⟩),
 (41,⟨1,[.nilf],.other⟩),
 (42,⟨1,[.nilf],.other⟩),
 (43,⟨1,[.nilf],.other⟩),
 (44,⟨1,[.slice .nil (.t .tys [])],.slc (some .tys) 1 24⟩),
 (46,⟨1,[.nilf],.other⟩),
 (47,⟨1,[.nilf],.other⟩),
 (48,⟨1,[.slice .nil (.t .tms [])],.slc (some .tms) 1 24⟩),
 (50,⟨1,[.nilf],.other⟩),
 (51,⟨1,[.nilf],.other⟩),
 (52,⟨1,[.nilf],.other⟩),
 (53,⟨1,[.nilf],.other⟩),
 (54,⟨1,[.nilf],.other⟩),
 (55,⟨1,[.nilf],.other⟩),
 (56,⟨1,[.nilf],.other⟩),
 (57,⟨1,[.nilf],.other⟩),
 (58,⟨1,[.nilf],.other⟩),
 (59,⟨2,[.slice .nil (.t .int []),.int .i64 0],.strct [(0,1,false),(1,1,false)]⟩),
 (60,⟨2,[.slice .nil (.t .int []),.int .i64 0],.strct [(0,1,false),(1,1,false)]⟩),
 (61,⟨1,[.nilf],.other⟩),
 (62,⟨1,[.nilf],.other⟩),
 (63,⟨1,[.nilf],.other⟩),
 (64,⟨1,[.nilf],.other⟩),
 (65,⟨1,[.nilf],.other⟩),
 (66,⟨1,[.nilf],.other⟩),
 (67,⟨1,[.nilf],.other⟩),
 (68,⟨1,[.nilp],.other⟩),
 (69,⟨1,[.nilf],.other⟩),
 (70,⟨1,[.nilf],.other⟩),
 (71,⟨3,[.int .i64 0,.slice .nil (.t .ty []),.int .i64 0],.strct [(0,2,true),(2,1,false)]⟩),
 (72,⟨3,[.int .i64 0,.slice .nil (.t .ty []),.int .i64 0],.strct [(0,2,true),(2,1,false)]⟩),
 (74,⟨1,[.slice .nil (.t .sz [])],.slc (some .sz) 3 40⟩),
 (75,⟨1,[.slice .nil (.t .sz [])],.slc (some .sz) 3 40⟩),
 (76,⟨1,[.nilf],.other⟩),
 (77,⟨1,[.nilf],.other⟩),
 (78,⟨1,[.nilf],.other⟩),
 (79,⟨1,[.nilf],.other⟩),
 (80,⟨1,[.nilf],.other⟩),
 (81,⟨1,[.nilf],.other⟩),
 (82,⟨1,[.nilf],.other⟩),
 (83,⟨1,[.nilf],.other⟩),
 (84,⟨1,[.nilf],.other⟩),
 (86,⟨1,[.nilf],.other⟩),
 (87,⟨1,[.nilf],.other⟩),
 (88,⟨1,[.nilf],.other⟩),
 (89,⟨1,[.nilf],.other⟩),
 (90,⟨9,[.int .i64 0,.slice .nil (.t .ty []),.int .i64 0,.int .i64 0,.slice .nil (.t .ty []),.int .i64 0,.int .i64 0,.slice .nil (.t .ty []),.int .i64 0],.arr 3 3 true⟩),
 (91,⟨1,[.nilf],.other⟩),
 (92,⟨1,[.nilf],.other⟩),
 (93,⟨1,[.nilf],.other⟩),
 (94,⟨1,[.nilf],.other⟩),
 (95,⟨1,[.nilf],.other⟩),
 (96,⟨1,[.nilf],.other⟩),
 (97,⟨1,[.nilf],.other⟩),
 (98,⟨1,[.nilf],.other⟩),
 (99,⟨1,[.nilf],.other⟩),
 (100,⟨1,[.nilf],.other⟩),
 (101,⟨1,[.nilf],.other⟩),
 (102,⟨14,[.int .i64 0,.int .i64 0,.int .i64 0,.int .i64 0,.int .i64 0,.int .i64 0,.int .i64 0,.int .i64 0,.int .i64 0,.int .i64 0,.int .i64 0,.int .i64 0,.int .i64 0,.int .i64 0],.arr 14 1 false⟩),
 (103,⟨1,[.nilf],.other⟩),
 (104,⟨1,[.nilf],.other⟩),
 (105,⟨4,[.nilp,.nilp,.nilp,.str ⟨#[]⟩],.strct [(0,1,false),(1,1,false),(2,1,false),(3,1,false)]⟩),
 (107,⟨0,[],.arr 0 1 false⟩),
 (110,⟨1,[.nilf],.other⟩),
 (111,⟨1,[.int .u32 0],.int .u32⟩),
 (114,⟨1,[.nilf],.other⟩),
 (115,⟨1,[.nilp],.other⟩),
 (118,⟨11,[.int .u64 0,.int .u64 0,.int .u32 0,.int .u8 0,.int .u8 0,.int .u8 0,.int .u8 0,.nilf,.nilp,.int .i32 0,.int .i32 0],.strct [(0,1,false),(1,1,false),(2,1,false),(3,1,false),(4,1,false),(5,1,false),(6,1,false),(7,1,false),(8,1,false),(9,1,false),(10,1,false)]⟩),
 (120,⟨1,[.nilf],.other⟩),
 (122,⟨1,[.slice .nil (.t .fm [])],.slc (some .fm) 5 88⟩),
 (123,⟨5,[.int .i64 0,.int .i64 0,.slice .nil (.t .ty []),.slice .nil (.t .tm []),.slice .nil (.t .fm [])],.strct [(0,1,false),(1,2,true),(3,1,false),(4,1,false)]⟩),
 (124,⟨5,[.int .i64 0,.int .i64 0,.slice .nil (.t .ty []),.slice .nil (.t .tm []),.slice .nil (.t .fm [])],.strct [(0,1,false),(1,2,true),(3,1,false),(4,1,false)]⟩)]
set_option maxRecDepth 100000
theorem tab_ok:tab.all (fun p=>tiB Tryd.prog p.1 p.2)=true:=by kernel_rfl
def arV:List V:=[.i 0,.i 0,.i 1,.i 2,.i 0,.i 1,.i 3,.i 0,.i 2,.i 3,.i 2,.i 1,.i 1,.i 0]
noncomputable def E:Env:=⟨Tryd.prog,[(0,arV)],tab,tab_ok,[]⟩
end Go.Ab
namespace Go.Ab
open Go Go.Proofs
set_option maxRecDepth 100000
set_option linter.all false
theorem mixed:E.P.follows .mixedOrders=true:=Tryd.checked.mixed
theorem copyTy_c:∀(b:Nat) (t:Ty),t.size≤b→b<1099511627776→PC E 60 [.agg t.view] (.agg t.view):=by
 intro b
 induction b with
 |zero=>intro t h;have:=t.size_pos;omega
 |succ b ih=>
 intro t hsz hb
 have hsz':=Ty.size_eq t
 have hlen:=lsum_len Ty.size Ty.size_pos t.args
 refine M.F Tryd.func60 ?_
 repeat'(first|refine M.gw ?_|fail)
 refine AW.range t.args.length (fun m=>True)
  (fun m=>([(1,.ptr 0 0),(2,.ptr 1 0),(3,.slice (.own 2) (.t .ty (t.args.take m))),(7,.s .ty t.args),(8,.i t.args.length),(9,.i m)],⟨3,[(0,.var t.view),(1,.var [.i 0,.slice .nil (.t .ty [])]),(2,.row)]⟩))
  (by omega) (fun m=>rfl) (fun m=>rfl) rfl trivial (M.W [some 0,some 1,none]) ?_ ?_
 ·intro m hm hP
  have hs2:=lsum_mem Ty.size (List.getElem_mem hm)
  repeat'(first|refine M.gw ?_|refine M.c2 (ih _ ?_ ?_) ?_|exact M.le|exact M.lt|fail)
  exact⟨rfl,trivial,(M.W [some 0,some 1,some 4] (hf:=(by(repeat'(first|exact trivial|refine And.intro ?_ ?_|refine⟨_,U,_,U,?_⟩|exact VLe.refl _|exact VLe.of_eq (by simp[Sto.upd,List.take_append_getElem])));done)))⟩
 ·intro hP
  repeat'(first|refine M.gw ?_|fail)
  simp[tupV,V.wk,V.wks,constV,Ty.view,Tm.view]
theorem ownTy_c:∀(b:Nat) (t:Ty),t.size≤b→b<1099511627776→PC E 51 [.agg t.view] (.agg t.view):=by
 intro b
 induction b with
 |zero=>intro t h;have:=t.size_pos;omega
 |succ b ih=>
 intro t hsz hb
 have hsz':=Ty.size_eq t
 have hlen:=lsum_len Ty.size Ty.size_pos t.args
 refine M.F Tryd.func51 ?_
 repeat'(first|refine M.gw ?_|fail)
 refine AW.range t.args.length (fun m=>True)
  (fun m=>([(1,.ptr 0 0),(2,.ptr 1 0),(3,.ptr 2 0),(10,.s .ty t.args),(11,.i t.args.length),(12,.i m)],⟨4,[(0,.var t.view),(1,.var [.i 0,.slice .nil (.t .ty [])]),(2,.var [.i t.kind,.slice (.own 3) (.t .ty (t.args.take m))]),(3,.row)]⟩))
  (by omega) (fun m=>rfl) (fun m=>rfl) rfl trivial (M.W [some 0,some 1,some 2,none]) ?_ ?_
 ·intro m hm hP
  have hs2:=lsum_mem Ty.size (List.getElem_mem hm)
  repeat'(first|refine M.gw ?_|refine M.c2 (ih _ ?_ ?_) ?_|exact M.le|exact M.lt|fail)
  exact⟨rfl,trivial,(M.W [some 0,some 1,some 2,some 5] (he:=(by(repeat'(first|exact trivial|exact Or.inr ⟨_,U,rfl⟩|refine And.intro ?_ ?_|refine⟨_,U,_,U,_,U,?_⟩|exact VLe.refl _|exact VLe.of_eq (by simp[Sto.upd,List.take_append_getElem])));done)))⟩
 ·intro hP
  repeat'(first|refine M.gw ?_|fail)
  simp[tupV,V.wk,V.wks,constV,Ty.view,Tm.view]
theorem typeNodes_c:∀(b:Nat) (t:Ty),t.size≤b→b<1099511627776→PC E 90 [.agg t.view] (nodesT t):=by
 intro b
 induction b with
 |zero=>intro t h;have:=t.size_pos;omega
 |succ b ih=>
 intro t hsz hb
 have hsz':=Ty.size_eq t
 have hlen:=lsum_len Ty.size Ty.size_pos t.args
 have hsh:=Ty.shape_eq t
 refine M.F Tryd.func90 ?_
 repeat'(first|refine M.gw ?_|fail)
 refine AW.cutT (ι:={n:Nat // arT t.kind=some n}) (fun n=>([(1,.ptr 0 0),(4,.i n.1)],⟨1,[(0,.var t.view)]⟩)) ?_ ?_
 ·refine AW.block ?_
  repeat'(first|refine M.gw ?_|refine M.cs ?_ ?_<;>intro h|fail)
  ·exact ⟨⟨0,by simp at h;simp[arT,h]⟩,(M.W [some 0])⟩
  ·exact ⟨⟨0,by simp at h;simp[arT,h]⟩,(M.W [some 0])⟩
  ·exact ⟨⟨0,by simp at h;simp[arT,h]⟩,(M.W [some 0])⟩
  ·exact ⟨⟨2,by simp at h;simp[arT,h]⟩,(M.W [some 0])⟩
  ·exact ⟨⟨2,by simp at h;simp[arT,h]⟩,(M.W [some 0])⟩
  ·have:t.shape=false:=by simp at*;simp[hsh,arT, *]
   simp[nodesT,Ty.nodes,this,tupV,constV,V.wk,V.wks]
 rintro⟨n,hn⟩
 repeat'(first|refine M.gw ?_|refine M.cs ?_ ?_<;>intro h|fail)
 ·have h1:¬t.args.length=n:=by simp at h;omega
  have:t.shape=false:=by simp[hsh,hn,h1]
  simp[nodesT,Ty.nodes,this,tupV,constV,V.wk,V.wks]
 have hn':t.args.length=n:=by simp at h;omega
 refine AW.range t.args.length (fun m=>∀j (hj:j<t.args.length),j<m→(t.args[j]).shape=true)
  (fun m=>([(1,.ptr 0 0),(5,.i (1+((t.args.take m).map Ty.size).sum)),(25,.s .ty t.args),(26,.i t.args.length),(27,.i m)],⟨1,[(0,.var t.view)]⟩))
  (by omega) (fun m=>rfl) (fun m=>rfl) rfl (by intro j hj h;omega) (M.W [some 0]) ?_ ?_
 ·intro m hm hP
  have hs1:=lsum_take Ty.size t.args m hm
  have hs2:=lsum_mem Ty.size (List.getElem_mem hm)
  have hs3:=lsum_take_le Ty.size t.args (m+1)
  have hs4:=Ty.nodes_le t.args[m]
  repeat'(first|refine M.gw ?_|refine M.c2 (ih _ ?_ ?_) ?_|refine M.cs ?_ ?_<;>intro h|exact M.le|exact M.lt|fail)
  ·have h1:(t.args[m]).shape=false:=by simpa using h
   have:t.shape=false:=by rw[hsh,all_not Ty.shape hm h1,Bool.and_false]
   simp[nodesT,Ty.nodes,this,tupV,constV,V.wk,V.wks]
  ·have hh:(t.args[m]).shape=true:=by simpa using h
   refine⟨rfl,all_step (p:=fun t=>Ty.shape t=true) hm hP hh,?_⟩
   have e:(1+((((t.args.take (m+1)).map Ty.size).sum:Nat):Int))=1+(((t.args.take m).map Ty.size).sum:Nat)+t.args[m].nodes:=by simp only[Ty.nodes,hh,hs1];simp;omega
   simp only[e]
   exact(M.W [some 0])
 ·intro hP
  have:t.shape=true:=by simp only[hsh,hn,hn',all_of Ty.shape t.args fun j hj=>hP j hj hj];simp
  repeat'(first|refine M.gw ?_|fail)
  simp[nodesT,Ty.nodes,this,tupV,constV,hsz',V.wk,V.wks]
theorem var_c(i:Int):PC E 28 [.i i] (.agg (Tm.mk 1 i (.mk 0 []) []).view):=by
 refine M.F Tryd.func28 ?_
 repeat'(first|refine M.gw ?_|fail)
 simp[tupV,V.wk,V.wks,constV,Ty.view,Tm.view]
theorem nat_c:PC E 27 [] (.agg (Ty.mk 1 []).view):=by
 refine M.F Tryd.func27 ?_
 repeat'(first|refine M.gw ?_|fail)
 simp[tupV,V.wk,V.wks,constV,Ty.view,Tm.view]
theorem list_c:PC E 33 [] (.agg (Ty.mk 2 []).view):=by
 refine M.F Tryd.func33 ?_
 repeat'(first|refine M.gw ?_|fail)
 simp[tupV,V.wk,V.wks,constV,Ty.view,Tm.view]
theorem unit_c:PC E 34 [] (.agg (Ty.mk 5 []).view):=by
 refine M.F Tryd.func34 ?_
 repeat'(first|refine M.gw ?_|fail)
 simp[tupV,V.wk,V.wks,constV,Ty.view,Tm.view]
theorem two_c(x y:Ty)(hx:x.size<1099511627776)(hy:y.size<1099511627776):PC E 35 [.agg x.view,.agg y.view] (.agg (Ty.mk 3 [x,y]).view):=by
 have h1:=copyTy_c _ x (Nat.le_refl _) hx
 have h2:=copyTy_c _ y (Nat.le_refl _) hy
 refine M.F Tryd.func35 ?_
 repeat'(first|refine M.gw ?_|refine M.c2 (h1) ?_|refine M.c2 (h2) ?_|fail)
 simp[tupV,V.wk,V.wks,constV,Ty.view,Tm.view]
theorem fun_c(x y:Ty)(hx:x.size<1099511627776)(hy:y.size<1099511627776):PC E 29 [.agg x.view,.agg y.view] (.agg (Ty.mk 4 [x,y]).view):=by
 have h1:=copyTy_c _ x (Nat.le_refl _) hx
 have h2:=copyTy_c _ y (Nat.le_refl _) hy
 refine M.F Tryd.func29 ?_
 repeat'(first|refine M.gw ?_|refine M.c2 (h1) ?_|refine M.c2 (h2) ?_|fail)
 simp[tupV,V.wk,V.wks,constV,Ty.view,Tm.view]
theorem noType_c(t:Ty):PC E 83 [.agg t.view] (.bool t.isNo):=by
 refine M.F Tryd.func83 ?_
 repeat'(first|refine M.gw ?_|refine M.gs ?_ ?_<;>intro h|fail)
 all_goals simp_all[tupV,V.wk,V.wks,constV,Ty.isNo]
 rw[Bool.eq_iff_iff];simp
theorem typed_c(k:Int):PC E 82 [.i k] (.bool (typedK k)):=by
 refine M.F Tryd.func82 ?_
 repeat'(first|refine M.gw ?_|refine M.gs ?_ ?_<;>intro h|fail)
 all_goals simp_all[tupV,V.wk,V.wks,constV,typedK]
theorem checkTy_c(t:Ty)(ht:t.size<1099511627776):PC E 76 [.agg t.view] (.tup [.i t.num,.i t.err]):=by
 have h1:=typeNodes_c _ t (Nat.le_refl _) ht
 refine M.F Tryd.func76 ?_
 repeat'(first|refine M.gw ?_|refine M.c2 (h1) ?_|refine M.zb ?_|refine M.cs ?_ ?_<;>intro h|fail)
 all_goals simp_all[tupV,V.wk,V.wks,constV,Ty.num,Ty.err,Ty.nodes]
 all_goals(first|omega|(split<;>first|omega|simp_all))
theorem arity_c(k:Int):PC E 81 [.i k] (.tup [.i ((arK k).getD 0),.bool (arK k).isSome]):=by
 refine M.F Tryd.func81 ?_
 repeat'(first|refine M.gw ?_|refine M.gs ?_ ?_<;>intro h|refine M.cs ?_ ?_<;>intro h|fail)
 ·have:arK k=none:=by simp at h;simp only[arK];(repeat' rw[if_neg (by omega)])
  simp[this,tupV,V.wk,V.wks,constV]
 ·have:arK k=none:=by simp at h;simp only[arK];(repeat' rw[if_neg (by omega)])
  simp[this,tupV,V.wk,V.wks,constV]
 ·rename_i h0
  simp at h h0
  have:k=1∨k=2∨k=3∨k=4∨k=5∨k=6∨k=7∨k=8∨k=9∨k=10∨k=11∨k=12∨k=13:=by omega
  rcases this with rfl|rfl|rfl|rfl|rfl|rfl|rfl|rfl|rfl|rfl|rfl|rfl|rfl
  ·refine L.ixa 1 rfl rfl rfl rfl rfl ?_ ?_ rfl ?_
   ·decide
   ·decide
   repeat'(first|refine M.gw ?_|fail)
   rfl
  ·refine L.ixa 2 rfl rfl rfl rfl rfl ?_ ?_ rfl ?_
   ·decide
   ·decide
   repeat'(first|refine M.gw ?_|fail)
   rfl
  ·refine L.ixa 3 rfl rfl rfl rfl rfl ?_ ?_ rfl ?_
   ·decide
   ·decide
   repeat'(first|refine M.gw ?_|fail)
   rfl
  ·refine L.ixa 4 rfl rfl rfl rfl rfl ?_ ?_ rfl ?_
   ·decide
   ·decide
   repeat'(first|refine M.gw ?_|fail)
   rfl
  ·refine L.ixa 5 rfl rfl rfl rfl rfl ?_ ?_ rfl ?_
   ·decide
   ·decide
   repeat'(first|refine M.gw ?_|fail)
   rfl
  ·refine L.ixa 6 rfl rfl rfl rfl rfl ?_ ?_ rfl ?_
   ·decide
   ·decide
   repeat'(first|refine M.gw ?_|fail)
   rfl
  ·refine L.ixa 7 rfl rfl rfl rfl rfl ?_ ?_ rfl ?_
   ·decide
   ·decide
   repeat'(first|refine M.gw ?_|fail)
   rfl
  ·refine L.ixa 8 rfl rfl rfl rfl rfl ?_ ?_ rfl ?_
   ·decide
   ·decide
   repeat'(first|refine M.gw ?_|fail)
   rfl
  ·refine L.ixa 9 rfl rfl rfl rfl rfl ?_ ?_ rfl ?_
   ·decide
   ·decide
   repeat'(first|refine M.gw ?_|fail)
   rfl
  ·refine L.ixa 10 rfl rfl rfl rfl rfl ?_ ?_ rfl ?_
   ·decide
   ·decide
   repeat'(first|refine M.gw ?_|fail)
   rfl
  ·refine L.ixa 11 rfl rfl rfl rfl rfl ?_ ?_ rfl ?_
   ·decide
   ·decide
   repeat'(first|refine M.gw ?_|fail)
   rfl
  ·refine L.ixa 12 rfl rfl rfl rfl rfl ?_ ?_ rfl ?_
   ·decide
   ·decide
   repeat'(first|refine M.gw ?_|fail)
   rfl
  ·refine L.ixa 13 rfl rfl rfl rfl rfl ?_ ?_ rfl ?_
   ·decide
   ·decide
   repeat'(first|refine M.gw ?_|fail)
   rfl
end Go.Ab
namespace Go.Ab
open Go Go.Proofs
set_option maxRecDepth 100000
set_option maxHeartbeats 4000000
set_option linter.all false
theorem copyTm_c:∀(b:Nat) (t:Tm),t.full≤b→b<1099511627776→PC E 43 [.agg t.view] (.agg t.view):=by
 intro b
 induction b with
 |zero=>intro t h;have:=t.full_pos;omega
 |succ b ih=>
 intro t hsz hb
 have hsz':=Tm.full_eq t
 have hlen:=lsum_len Tm.full Tm.full_pos t.args
 have hty:=copyTy_c _ t.ty (Nat.le_refl _) (by omega)
 refine M.F Tryd.func43 ?_
 repeat'(first|refine M.gw ?_|fail)
 refine AW.range t.args.length (fun m=>True)
  (fun m=>([(1,.ptr 0 0),(2,.ptr 1 0),(3,.slice (.own 2) (.t .tm (t.args.take m))),(7,.s .tm t.args),(8,.i t.args.length),(9,.i m)],⟨3,[(0,.var t.view),(1,.var [.i 0,.i 0,.i 0,.slice .nil (.t .ty []),.slice .nil (.t .tm [])]),(2,.row)]⟩))
  (by omega) (fun m=>rfl) (fun m=>rfl) rfl trivial (M.W [some 0,some 1,none]) ?_ ?_
 ·intro m hm hP
  have hs2:=lsum_mem Tm.full (List.getElem_mem hm)
  repeat'(first|refine M.gw ?_|refine M.c2 (ih _ ?_ ?_) ?_|exact M.le|exact M.lt|fail)
  exact⟨rfl,trivial,(M.W [some 0,some 1,some 4] (hf:=(by(repeat'(first|exact trivial|refine And.intro ?_ ?_|refine⟨_,U,_,U,?_⟩|exact VLe.refl _|exact VLe.of_eq (by simp[Sto.upd,List.take_append_getElem])));done)))⟩
 ·intro hP
  repeat'(first|refine M.gw ?_|refine M.c2 (hty) ?_|fail)
  simp[tupV,V.wk,V.wks,constV,Ty.view,Tm.view]
theorem n_c(k:Int)(l:List Tm)(hl:(l.map Tm.full).sum<1099511627776):PC E 37 [.i k,.s .tm l] (.agg (Tm.mk k 0 (.mk 0 []) l).view):=by
 have hlen:=lsum_len Tm.full Tm.full_pos l
 refine M.F Tryd.func37 ?_
 repeat'(first|refine M.gw ?_|fail)
 refine AW.range l.length (fun m=>True)
  (fun m=>([(0,.i k),(4,.ptr 0 0),(5,.slice (.own 1) (.t .tm (l.take m))),(8,.s .tm l),(9,.i l.length),(10,.i m)],⟨2,[(0,.var [.i 0,.i 0,.i 0,.slice .nil (.t .ty []),.slice .nil (.t .tm [])]),(1,.row)]⟩))
  (by omega) (fun m=>rfl) (fun m=>rfl) rfl trivial (M.W [some 0,none]) ?_ ?_
 ·intro m hm hP
  have hs2:=lsum_mem Tm.full (List.getElem_mem hm)
  repeat'(first|refine M.gw ?_|refine M.c2 (copyTm_c _ _ (Nat.le_refl _) ?_) ?_|exact M.lt|fail)
  exact⟨rfl,trivial,(M.W [some 0,some 3] (hf:=(by(repeat'(first|exact trivial|refine And.intro ?_ ?_|refine⟨_,U,_,U,?_⟩|exact VLe.refl _|exact VLe.of_eq (by simp[Sto.upd,List.take_append_getElem])));done)))⟩
 ·intro hP
  repeat'(first|refine M.gw ?_|fail)
  simp[tupV,V.wk,V.wks,constV,Ty.view,Tm.view]
theorem t_c(k:Int)(s:Ty)(l:List Tm)(hl:(l.map Tm.full).sum<1099511627776)(hs:s.size<1099511627776):PC E 26 [.i k,.agg s.view,.s .tm l] (.agg (Tm.mk k 0 s l).view):=by
 have h1:=n_c k l hl
 have h2:=copyTy_c _ s (Nat.le_refl _) hs
 refine M.F Tryd.func26 ?_
 repeat'(first|refine M.gw ?_|refine M.c2 (h1) ?_|refine M.c2 (h2) ?_|fail)
 simp[tupV,V.wk,V.wks,constV,Ty.view,Tm.view]
theorem Ty.ok_err(t:Ty):t.ok=(t.err==0):=by
 simp only[Ty.ok,Ty.err]
 cases t.shape
 ·simp
 ·by_cases h:t.size≤64
  ·have:¬t.size>64:=by omega
   simp[h,this]
  ·have:t.size>64:=by omega
   simp[h,this]
theorem Tm.head_eq(t:Tm):t.head=(!(!(arK t.kind).isSome)&& !((t.args.length:Int) !=(((arK t.kind).getD 0:Nat):Int))&& !decide (t.index<0)&&(!(t.index !=0)|| !(t.kind !=1))&&(bif typedK t.kind then !(t.ty.err !=0) else !(!t.ty.isNo))):=by
 simp only[Tm.head,Ty.ok_err]
 cases hk:arK t.kind with
 |none=>simp
 |some n=>
  have h1:(t.args.length==n)= !((t.args.length:Int) !=((n:Nat):Int)):=by rw[Bool.eq_iff_iff];simp;omega
  have h2:decide (0≤t.index)= !decide (t.index<0):=by rw[Bool.eq_iff_iff];simp
  simp[h1,h2,bne]
theorem termNodes_c:∀(b:Nat) (t:Tm),t.full≤b→b<1099511627776→PC E 67 [.agg t.view] (nodesM t):=by
 intro b
 induction b with
 |zero=>intro t h;have:=t.full_pos;omega
 |succ b ih=>
 intro t hsz hb
 have hsz':=Tm.full_eq t
 have hszz:=Tm.size_eq t
 have hle:=Tm.size_le_full t
 have hlen:=lsum_len Tm.full Tm.full_pos t.args
 have hsh:=Tm.shape_eq t
 have h1:=arity_c t.kind
 have h2:=typed_c t.kind
 have h3:=noType_c t.ty
 have h4:=checkTy_c t.ty (by omega)
 have bad:t.shape=false→(V.tup [.i 0,.bool false])=nodesM t:=fun h=>by simp[nodesM,Tm.nodes,h]
 refine M.F Tryd.func67 ?_
 repeat'(first|refine M.gw ?_|refine M.c2 (h1) ?_|refine M.c2 (h2) ?_|refine M.c2 (h3) ?_|refine M.c2 (h4) ?_|refine M.gs ?_ ?_<;>intro h|refine M.cs ?_ ?_<;>intro h|fail)
 all_goals first
  |(have hd:t.head=false:=by rw[t.head_eq];simp_all
    have:t.shape=false:=by rw[hsh,hd,Bool.false_and]
    simp[Tm.nodes,this,tupV,constV,V.wk,V.wks];done)
  |(have hd:t.head=true:=by rw[t.head_eq];simp_all
    refine AW.range t.args.length (fun m=>∀j (hj:j<t.args.length),j<m→(t.args[j]).shape=true)
     (fun m=>([(1,.ptr 0 0),(8,.i (1+((t.args.take m).map Tm.size).sum)),(59,.s .tm t.args),(60,.i t.args.length),(61,.i m)],⟨1,[(0,.var t.view)]⟩))
     (by omega) (fun m=>rfl) (fun m=>rfl) rfl (by intro j hj h;omega) (M.W [some 0]) ?_ ?_
    ·intro m hm hP
     have hs1:=lsum_take Tm.size t.args m hm
     have hs2:=lsum_mem Tm.full (List.getElem_mem hm)
     have hs3:=lsum_take_le Tm.size t.args (m+1)
     have hs4:=Tm.nodes_le t.args[m]
     have hs5:=Tm.size_le_full t.args[m]
     repeat'(first|refine M.gw ?_|refine M.c2 (ih _ ?_ ?_) ?_|refine M.cs ?_ ?_<;>intro h|exact M.le|exact M.lt|fail)
     ·have h1:(t.args[m]).shape=false:=by simpa using h
      have:t.shape=false:=by rw[hsh,all_not Tm.shape hm h1,Bool.and_false]
      simp[Tm.nodes,this,tupV,constV,V.wk,V.wks]
     ·have hh:(t.args[m]).shape=true:=by simpa using h
      refine⟨rfl,all_step (p:=fun t=>Tm.shape t=true) hm hP hh,?_⟩
      have e:(1+((((t.args.take (m+1)).map Tm.size).sum:Nat):Int))=1+(((t.args.take m).map Tm.size).sum:Nat)+t.args[m].nodes:=by simp only[Tm.nodes,hh,hs1];simp;omega
      simp only[e]
      exact(M.W [some 0])
    ·intro hP
     have:t.shape=true:=by simp only[hsh,hd,all_of Tm.shape t.args fun j hj=>hP j hj hj];simp
     repeat'(first|refine M.gw ?_|fail)
     simp[Tm.nodes,this,tupV,constV,hszz,V.wk,V.wks])
theorem checkTm_c(t:Tm)(ht:t.full<1099511627776):PC E 44 [.agg t.view] (.tup [.i t.num,.i t.err]):=by
 have h1:=termNodes_c _ t (Nat.le_refl _) ht
 refine M.F Tryd.func44 ?_
 repeat'(first|refine M.gw ?_|refine M.c2 (h1) ?_|refine M.zb ?_|refine M.cs ?_ ?_<;>intro h|fail)
 all_goals simp_all[tupV,V.wk,V.wks,constV,Tm.num,Tm.err,Tm.nodes]
 all_goals(first|omega|(split<;>first|omega|simp_all))
theorem size_c(t:Tm)(ht:t.full<1099511627776):PC E 13 [.agg t.view] (.tup [.i t.num,.i t.err]):=by
 have h1:=checkTm_c t ht
 refine M.F Tryd.func13 ?_
 repeat'(first|refine M.gw ?_|refine M.c2 (h1) ?_|fail)
 simp[tupV,V.wk,V.wks,constV,Ty.view,Tm.view]
theorem check_c(t:Tm)(ht:t.full<1099511627776):PC E 15 [.agg t.view] (.i t.err):=by
 have h1:=checkTm_c t ht
 refine M.F Tryd.func15 ?_
 repeat'(first|refine M.gw ?_|refine M.c2 (h1) ?_|fail)
 simp[tupV,V.wk,V.wks,constV,Ty.view,Tm.view]
theorem copyTmY:∀(b:Nat) (t:Tm),t.full≤b→b<1099511627776→YC E 43 [.agg t.view] (fun r y=>(y.map Prod.fst).Nodup∧∃vs yt,r= .agg vs∧YMs True t.yn vs yt∧yt.Perm y):=by
 intro b
 induction b with
 |zero=>intro t h;have:=t.full_pos;omega
 |succ b ih=>
 intro t hsz hb
 have hsz':=Tm.full_eq t
 have hlen:=lsum_len Tm.full Tm.full_pos t.args
 have hty:=copyTy_c _ t.ty (Nat.le_refl _) (by omega)
 refine YC.mk Tryd.func43 rfl rfl rfl rfl rfl ?_
 refine BW.seq (.of (AW.regL ?_))
 repeat'(first|((with_reducible refine D.nil ?_);refine AX.nilL ?_)|((with_reducible refine D.box ?_);refine L.bx U U U U ?_)|((with_reducible refine D.alloc ?_);refine L.al U U U ?_))
 refine K.yT (BW.seq (.of (AW.regL ?_)))
 repeat'(first|((with_reducible refine D.nil ?_);refine AX.nilL ?_)|((with_reducible refine D.assign ?_);refine L.asg U U U ?_))
 refine K.yT (BW.seq (BW.seq (.of (AW.regL ?_))))
 repeat'(first|((with_reducible refine D.nil ?_);refine AX.nilL ?_)|((with_reducible refine D.load ?_);refine L.ldb U U U U U U ?_)|((with_reducible refine D.move ?_);refine L.mv U U U ?_)|((with_reducible refine D.fieldAddr ?_);refine L.fab U U U U U ?_)|((with_reducible refine D.call ?_);refine L.lnt U U U U ?_))
 refine K.yT ?_
 let A0:AF:=[(1,.ptr 0 0),(2,.ptr 1 0),(3,.slice .nil (.t .tm [])),(7,.s .tm t.args),(8,.i t.args.length),(9,.i 0)]
 let S0:Sto:=⟨2,[(0,.var t.view),(1,.var [.i 0,.i 0,.i 0,.slice .nil (.t .ty []),.slice .nil (.t .tm [])])]⟩
 let A1:Nat→AF:=fun m=>[(1,.ptr 0 0),(2,.ptr 1 0),(3,.arr 2 m 5),(7,.s .tm t.args),(8,.i t.args.length),(9,.i m)]
 let S1:List V→Sto:=fun cells=>⟨3,[(0,.var t.view),(1,.var [.i 0,.i 0,.i 0,.slice .nil (.t .ty []),.slice .nil (.t .tm [])]),(2,.var cells)]⟩
 refine BW.range t.args.length (fun m a σ y=>∃cells yt,YMs True (Tm.yns (t.args.take m)) cells yt∧yt.Perm y∧(y.map Prod.fst).Nodup∧((m=0∧a=A0∧σ=S0)∨(0<m∧a=A1 m∧σ=S1 cells))) (by omega) ?_ ?_ U (.ofW (Weak.mk [some 0,some 1] _ _ _ U U U U (by(repeat'(first|exact trivial|refine And.intro ?_ ?_|refine⟨_,U,_,U,?_⟩|exact VLe.refl _));done) (by(repeat'(first|exact trivial|refine And.intro ?_ ?_|refine⟨_,U,_,U,_,U,?_⟩|exact VLe.refl _));done)) ⟨[],[],.nil,.refl _,by simp,.inl ⟨rfl,U,rfl⟩⟩) ?_ ?_
 ·rintro m a σ y ⟨cells,_,_,_,_,⟨rfl,rfl,_⟩|⟨_,rfl,_⟩⟩<;>rfl
 ·rintro m a σ y ⟨cells,_,_,_,_,⟨rfl,rfl,_⟩|⟨_,rfl,_⟩⟩<;>rfl
 ·rintro m a σ y hm ⟨cells,yt,hym,hpm,hnd,hst⟩
  have hs2:=lsum_mem Tm.full (List.getElem_mem hm)
  have hcl:cells.length=m*5:=by rw[hym.len,Tm.yns_len,List.length_take];omega
  have hc:=ih t.args[m] (by omega) (by omega)
  have hnx:∀(vs:List V) (y' yt':Ys),(y'.map Prod.fst).Nodup→(∀p∈y',∀q∈y,p.1≠q.1)→yt'.Perm y'→YMs True t.args[m].yn vs yt'→
   ∃yt2,YMs True (Tm.yns (t.args.take (m+1))) (cells++vs) yt2∧yt2.Perm (y'++y)∧((y'++y).map Prod.fst).Nodup:=by
   intro vs y' yt' h1 h2 h3 h4
   refine⟨yt++yt',?_,(List.perm_append_comm.trans (h3.append hpm)),?_⟩
   ·rw [←List.take_append_getElem hm,Tm.yns_app]
    have:Tm.yns [t.args[m]]=t.args[m].yn:=by simp[Tm.yns]
    rw[this]
    exact hym.app h4
   ·rw [List.map_append,List.nodup_append]
    refine⟨h1,hnd,fun a ha b hb=> ?_⟩
    obtain⟨p,hp,rfl⟩:=List.mem_map.1 ha
    obtain⟨q,hq,rfl⟩:=List.mem_map.1 hb
    exact h2 p hp q hq
  rcases hst with⟨rfl,rfl,rfl⟩|⟨h0,rfl,rfl⟩
  ·refine BW.seq (.of (AW.regL ?_))
   repeat'(first|((with_reducible refine D.nil ?_);refine AX.nilL ?_)|((with_reducible refine D.load ?_);refine L.lda U U U U U ?_)|((with_reducible refine D.alloc ?_);refine L.al U U U ?_)|((with_reducible refine D.store ?_);refine L.st U U U U U U U U U ?_)|((with_reducible refine D.indexAddr ?_);refine L.ixt _ U U U U U U U (by first|assumption|fail) ?_))
   refine K.yT ?_
   refine BW.regY (l1:=[_,_]) _ _ hc rfl ?_
   repeat'(first|((with_reducible refine D.nil ?_);refine AX.nilL ?_)|((with_reducible refine D.load ?_);refine L.ldb U U U U U U ?_)|((with_reducible refine D.move ?_);refine L.mv U U U ?_))
   refine⟨rfl,⟨_,_,U,U,(by(repeat'(first|exact VLe.refl _|exact VLe.any _ _|refine VLe.agg ?_|exact trivial|refine And.intro ?_ ?_));done),trivial⟩,?_⟩
   rintro r y' ⟨hnd',vs,yt',rfl,hvs,hpm'⟩ hne
   obtain⟨yt2,h1,h2,h3⟩:=hnx _ _ _ hnd' hne hpm' hvs
   obtain⟨sv,rfl,hsv⟩:=hvs.tm
   have hcn:cells=[]:=List.eq_nil_of_length_eq_zero (by omega)
   refine L.bsA1 0 rfl rfl rfl rfl rfl rfl rfl ?_
   refine L.yN rfl rfl rfl rfl rfl rfl rfl rfl rfl rfl (by omega) (by omega) ?_
   repeat'(first|((with_reducible refine D.nil ?_);refine AX.nilL ?_)|((with_reducible refine D.assign ?_);refine L.asg U U U ?_))
   rw[hcn,List.nil_append] at h1
   exact⟨rfl,K.yB ⟨rfl,.ofW (a2:=A1 1) (σ2:=S1 [.i t.args[0].kind,.i t.args[0].index,.i t.args[0].ty.kind,.s .ty t.args[0].ty.args,.raw sv]) (Weak.mk [some 0,some 1,some 4] _ _ _ U U U U (by repeat'(first|exact trivial|refine And.intro ?_ ?_|refine⟨_,U,_,U,?_⟩|exact VLe.refl _)) (by repeat'(first|exact trivial|refine And.intro ?_ ?_|refine⟨_,U,_,U,_,U,?_⟩|refine⟨_,U,_,h1.ren _,_,U,?_⟩|exact VLe.refl _|exact VsLe.refl _))) ⟨_,yt2,h1,h2,h3,.inr ⟨by omega,U,rfl⟩⟩⟩⟩
  ·refine BW.seq (.of (AW.regL ?_))
   repeat'(first|((with_reducible refine D.nil ?_);refine AX.nilL ?_)|((with_reducible refine D.load ?_);refine L.lda U U U U U ?_)|((with_reducible refine D.alloc ?_);refine L.al U U U ?_)|((with_reducible refine D.store ?_);refine L.st U U U U U U U U U ?_)|((with_reducible refine D.indexAddr ?_);refine L.ixt _ U U U U U U U (by first|assumption|fail) ?_))
   refine K.yT ?_
   refine BW.regY (l1:=[_,_]) _ _ hc rfl ?_
   repeat'(first|((with_reducible refine D.nil ?_);refine AX.nilL ?_)|((with_reducible refine D.load ?_);refine L.ldb U U U U U U ?_)|((with_reducible refine D.move ?_);refine L.mv U U U ?_))
   refine⟨rfl,⟨_,_,U,U,(by(repeat'(first|exact VLe.refl _|exact VLe.any _ _|refine VLe.agg ?_|exact trivial|refine And.intro ?_ ?_));done),trivial⟩,?_⟩
   rintro r y' ⟨hnd',vs,yt',rfl,hvs,hpm'⟩ hne
   obtain⟨yt2,h1,h2,h3⟩:=hnx _ _ _ hnd' hne hpm' hvs
   obtain⟨sv,rfl,hsv⟩:=hvs.tm
   refine L.bsA1 0 rfl rfl rfl rfl rfl rfl rfl ?_
   refine L.yR rfl rfl rfl rfl rfl rfl rfl rfl hcl rfl rfl rfl (by omega) (by omega) ?_
   repeat'(first|((with_reducible refine D.nil ?_);refine AX.nilL ?_)|((with_reducible refine D.assign ?_);refine L.asg U U U ?_))
   exact⟨rfl,K.yB ⟨rfl,.ofW (a2:=A1 (m+1)) (σ2:=S1 (cells++[.i t.args[m].kind,.i t.args[m].index,.i t.args[m].ty.kind,.s .ty t.args[m].ty.args,.raw sv])) (Weak.mk [some 0,some 1,some 5] _ _ _ U U U U (by repeat'(first|exact trivial|refine And.intro ?_ ?_|refine⟨_,U,_,U,?_⟩|exact VLe.refl _)) (by repeat'(first|exact trivial|refine And.intro ?_ ?_|refine⟨_,U,_,U,_,U,?_⟩|refine⟨_,U,_,h1.ren _,_,U,?_⟩|exact VLe.refl _|exact VsLe.refl _))) ⟨_,yt2,h1,h2,h3,.inr ⟨by omega,U,rfl⟩⟩⟩⟩
 ·rintro a σ y ⟨cells,yt,hym,hpm,hnd,hst⟩
  rw[List.take_length] at hym
  rcases hst with⟨h0,rfl,rfl⟩|⟨h0,rfl,rfl⟩
  ·refine K.yT (BW.seq (.of (AW.regD mixed (by kernel_rfl) ?_)))
   repeat'(first|((with_reducible refine D.nil ?_);refine AX.nilD (by kernel_rfl) ?_)|((with_reducible refine D.load ?_);refine L.ldb U U U U U U ?_)|((with_reducible refine D.move ?_);refine L.mv U U U ?_)|((with_reducible refine D.fieldAddr ?_);refine L.fab U U U U U ?_)|((with_reducible refine D.call ?_);refine L.c2 (hty) U U U U ?_)|((with_reducible refine D.store ?_);refine L.st U U U U U U U U U ?_)|((with_reducible refine D.ax ?_);refine L.bd U U U U U ?_))
   refine K.yT (BW.ret ?_)
   have hn:t.args=[]:=List.eq_nil_of_length_eq_zero h0
   refine⟨.agg [.i t.kind,.i t.index,.i t.ty.kind,.s .ty t.ty.args,.raw (.slice none 0 0)],⟨hnd,_,yt,rfl,.ofTm ?_,hpm⟩,?_⟩
   ·rw [hn] at hym ⊢
    cases hym
    exact .nil .tm
   ·exact ⟨_,U,[],U,U,U,U,trivial,_,U,VLe.agg (by repeat'(first|exact trivial|refine And.intro ?_ ?_|exact VLe.refl _|exact VLe.any _ _|exact VLe.nilRaw _))⟩
  ·refine K.yT (BW.seq (.of (AW.regD mixed (by kernel_rfl) ?_)))
   repeat'(first|((with_reducible refine D.nil ?_);refine AX.nilD (by kernel_rfl) ?_)|((with_reducible refine D.load ?_);refine L.ldb U U U U U U ?_)|((with_reducible refine D.move ?_);refine L.mv U U U ?_)|((with_reducible refine D.fieldAddr ?_);refine L.fab U U U U U ?_)|((with_reducible refine D.call ?_);refine L.c2 (hty) U U U U ?_)|((with_reducible refine D.store ?_);refine L.st U U U U U U U U U ?_)|((with_reducible refine D.ax ?_);refine L.bd U U U U U ?_))
   refine K.yT (BW.weak (WeakB.giveA (n:=2) (len0:=t.args.length) (sz:=5) (cs:=cells) rfl hym.free (.inr ⟨1,_,4,rfl,rfl⟩) (fun b cap=>[(2,.ptr 1 0)])
    (fun b cap=>[(1,.var [.i t.kind,.i t.index,.i t.ty.kind,.s .ty t.ty.args,.rs b t.args.length cap]),(2,.gone)])
    (fun b cap=>AF.Cnv.get ⟨⟨_,rfl,.inl rfl⟩,trivial⟩) (fun b cap=>Es.Cnv.get ⟨⟨_,rfl,.var ⟨.inl rfl,.inl rfl,.inl rfl,.inl rfl,.inr (.inr ⟨_,rfl,rfl⟩),trivial⟩⟩,⟨_,rfl,trivial⟩,trivial⟩) (fun b cap=>rfl)) ?_)
   rintro a2 σ2 y2 ⟨b,cap,hcap,hnb,rfl,rfl,rfl⟩
   refine BW.ret ?_
   refine⟨.agg [.i t.kind,.i t.index,.i t.ty.kind,.s .ty t.ty.args,.rs b t.args.length cap],⟨?_,_,(b,cap*5,cells)::yt,rfl,.ofTm ?_,hpm.cons _⟩,?_⟩
   ·rw [List.map_cons,List.nodup_cons]
    refine⟨fun h=> ?_,hnd⟩
    obtain⟨p,hp,e⟩:=List.mem_map.1 h
    exact hnb p hp e
   ·exact .row .tm _ _ b _ cap _ _ (fun _=>rfl) hcap h0 (Tm.yns_len _) hym
   ·exact ⟨_,U,[],U,U,U,U,trivial,_,U,VLe.agg (by repeat'(first|exact trivial|refine And.intro ?_ ?_|exact VLe.refl _|exact VLe.any _ _))⟩
end Go.Ab
namespace Go.Ab
open Go Go.Proofs
set_option maxRecDepth 100000
set_option linter.all false
theorem sameTy_c:∀(n:Nat) (x y:Ty),x.size≤n→n<1099511627776→PC E 21 [.agg x.view,.agg y.view] (.bool (decide (x=y))):=by
 intro n
 induction n with
 |zero=>intro x y h;have:=x.size_pos;omega
 |succ n ih=>
 intro x y hsz hb
 have hsz':=Ty.size_eq x
 have hlen:=lsum_len Ty.size Ty.size_pos x.args
 have heq:=Ty.eq_iff x y
 refine M.F Tryd.func21 ?_
 repeat'(first|refine M.gw ?_|refine M.gs ?_ ?_<;>intro h|refine M.cs ?_ ?_<;>intro h|fail)
 ·have:¬x=y:=by rw[heq];simp_all
  simp[this,tupV,constV,V.wk,V.wks]
 ·have:¬x=y:=by rintro rfl;simp at h
  simp[this,tupV,constV,V.wk,V.wks]
 ·rename_i hk
  simp at h hk
  have hl:x.args.length=y.args.length:=by omega
  refine AW.range x.args.length (fun m=>∀j (hj:j<x.args.length),j<m→x.args[j]=y.args[j]'(by omega))
   (fun m=>([(2,.ptr 0 0),(3,.ptr 1 0),(22,.i x.args.length),(23,.i m)],⟨2,[(0,.var x.view),(1,.var y.view)]⟩))
   (by omega) (fun m=>rfl) (fun m=>rfl) rfl (by intro j hj h;omega) (M.W [some 0,some 1]) ?_ ?_
  ·intro m hm hP
   have hm':m<y.args.length:=by omega
   have hs2:=lsum_mem Ty.size (List.getElem_mem hm)
   repeat'(first|refine M.gw ?_|refine M.c2 (ih _ _ ?_ ?_) ?_|refine M.cs ?_ ?_<;>intro h|exact M.le|exact M.lt|fail)
   ·have:¬x=y:=by rw[heq];exact fun hc=>list_ne hm hm' (by simpa using h) hc.2
    simp[this,tupV,constV,V.wk,V.wks]
   ·exact ⟨rfl,step2 hl hm hP (by simpa using h),(M.W [some 0,some 1])⟩
  ·intro hP
   have:x=y:=heq.2 ⟨hk,list_eq hl hP⟩
   repeat'(first|refine M.gw ?_|fail)
   simp[this,tupV,constV,V.wk,V.wks]
theorem sameTy2_c:∀(n:Nat) (x y:Ty),x.size≤n→n<1099511627776→PC E 70 [.agg x.view,.agg y.view] (.bool (decide (x=y))):=by
 intro n
 induction n with
 |zero=>intro x y h;have:=x.size_pos;omega
 |succ n ih=>
 intro x y hsz hb
 have hsz':=Ty.size_eq x
 have hlen:=lsum_len Ty.size Ty.size_pos x.args
 have heq:=Ty.eq_iff x y
 refine M.F Tryd.func70 ?_
 repeat'(first|refine M.gw ?_|refine M.gs ?_ ?_<;>intro h|refine M.cs ?_ ?_<;>intro h|fail)
 ·have:¬x=y:=by rw[heq];simp_all
  simp[this,tupV,constV,V.wk,V.wks]
 ·have:¬x=y:=by rintro rfl;simp at h
  simp[this,tupV,constV,V.wk,V.wks]
 ·rename_i hk
  simp at h hk
  have hl:x.args.length=y.args.length:=by omega
  refine AW.range x.args.length (fun m=>∀j (hj:j<x.args.length),j<m→x.args[j]=y.args[j]'(by omega))
   (fun m=>([(2,.ptr 0 0),(3,.ptr 1 0),(22,.s .ty x.args),(23,.i x.args.length),(24,.i m)],⟨2,[(0,.var x.view),(1,.var y.view)]⟩))
   (by omega) (fun m=>rfl) (fun m=>rfl) rfl (by intro j hj h;omega) (M.W [some 0,some 1]) ?_ ?_
  ·intro m hm hP
   have hm':m<y.args.length:=by omega
   have hs2:=lsum_mem Ty.size (List.getElem_mem hm)
   repeat'(first|refine M.gw ?_|refine M.c2 (ih _ _ ?_ ?_) ?_|refine M.cs ?_ ?_<;>intro h|exact M.le|exact M.lt|fail)
   ·have:¬x=y:=by rw[heq];exact fun hc=>list_ne hm hm' (by simpa using h) hc.2
    simp[this,tupV,constV,V.wk,V.wks]
   ·exact ⟨rfl,step2 hl hm hP (by simpa using h),(M.W [some 0,some 1])⟩
  ·intro hP
   have:x=y:=heq.2 ⟨hk,list_eq hl hP⟩
   repeat'(first|refine M.gw ?_|fail)
   simp[this,tupV,constV,V.wk,V.wks]
theorem sameTm_c:∀(n:Nat) (x y:Tm),x.full≤n→n<1099511627776→PC E 18 [.agg x.view,.agg y.view] (.bool (decide (x=y))):=by
 intro n
 induction n with
 |zero=>intro x y h;have:=x.full_pos;omega
 |succ n ih=>
 intro x y hsz hb
 have hsz':=Tm.full_eq x
 have hlen:=lsum_len Tm.full Tm.full_pos x.args
 have heq:=Tm.eq_iff x y
 have hty:=sameTy_c _ x.ty y.ty (Nat.le_refl _) (by omega)
 refine M.F Tryd.func18 ?_
 repeat'(first|refine M.gw ?_|refine M.c2 (hty) ?_|refine M.gs ?_ ?_<;>intro h|refine M.cs ?_ ?_<;>intro h|fail)
 ·have:¬x=y:=by rw[heq];simp_all
  simp[this,tupV,constV,V.wk,V.wks]
 ·have:¬x=y:=by rw[heq];simp_all
  simp[this,tupV,constV,V.wk,V.wks]
 ·have:¬x=y:=by rw[heq];simp_all
  simp[this,tupV,constV,V.wk,V.wks]
 ·have:¬x=y:=by rintro rfl;simp at h
  simp[this,tupV,constV,V.wk,V.wks]
 ·rename_i h1 h2 h3
  simp at h h1 h2 h3
  have hl:x.args.length=y.args.length:=by omega
  refine AW.range x.args.length (fun m=>∀j (hj:j<x.args.length),j<m→x.args[j]=y.args[j]'(by omega))
   (fun m=>([(2,.ptr 0 0),(3,.ptr 1 0),(37,.i x.args.length),(38,.i m)],⟨2,[(0,.var x.view),(1,.var y.view)]⟩))
   (by omega) (fun m=>rfl) (fun m=>rfl) rfl (by intro j hj h;omega) (M.W [some 0,some 1]) ?_ ?_
  ·intro m hm hP
   have hm':m<y.args.length:=by omega
   have hs2:=lsum_mem Tm.full (List.getElem_mem hm)
   repeat'(first|refine M.gw ?_|refine M.c2 (ih _ _ ?_ ?_) ?_|refine M.cs ?_ ?_<;>intro h|exact M.le|exact M.lt|fail)
   ·have:¬x=y:=by rw[heq];exact fun hc=>list_ne hm hm' (by simpa using h) hc.2.2.2
    simp[this,tupV,constV,V.wk,V.wks]
   ·exact ⟨rfl,step2 hl hm hP (by simpa using h),(M.W [some 0,some 1])⟩
  ·intro hP
   have:x=y:=heq.2 ⟨h1,h2,h3,list_eq hl hP⟩
   repeat'(first|refine M.gw ?_|fail)
   simp[this,tupV,constV,V.wk,V.wks]
theorem sameTm2_c:∀(n:Nat) (x y:Tm),x.full≤n→n<1099511627776→PC E 47 [.agg x.view,.agg y.view] (.bool (decide (x=y))):=by
 intro n
 induction n with
 |zero=>intro x y h;have:=x.full_pos;omega
 |succ n ih=>
 intro x y hsz hb
 have hsz':=Tm.full_eq x
 have hlen:=lsum_len Tm.full Tm.full_pos x.args
 have heq:=Tm.eq_iff x y
 have hty:=sameTy2_c _ x.ty y.ty (Nat.le_refl _) (by omega)
 refine M.F Tryd.func47 ?_
 repeat'(first|refine M.gw ?_|refine M.c2 (hty) ?_|refine M.gs ?_ ?_<;>intro h|refine M.cs ?_ ?_<;>intro h|fail)
 ·have:¬x=y:=by rw[heq];simp_all
  simp[this,tupV,constV,V.wk,V.wks]
 ·have:¬x=y:=by rw[heq];simp_all
  simp[this,tupV,constV,V.wk,V.wks]
 ·have:¬x=y:=by rw[heq];simp_all
  simp[this,tupV,constV,V.wk,V.wks]
 ·have:¬x=y:=by rintro rfl;simp at h
  simp[this,tupV,constV,V.wk,V.wks]
 ·rename_i h1 h2 h3
  simp at h h1 h2 h3
  have hl:x.args.length=y.args.length:=by omega
  refine AW.range x.args.length (fun m=>∀j (hj:j<x.args.length),j<m→x.args[j]=y.args[j]'(by omega))
   (fun m=>([(2,.ptr 0 0),(3,.ptr 1 0),(37,.s .tm x.args),(38,.i x.args.length),(39,.i m)],⟨2,[(0,.var x.view),(1,.var y.view)]⟩))
   (by omega) (fun m=>rfl) (fun m=>rfl) rfl (by intro j hj h;omega) (M.W [some 0,some 1]) ?_ ?_
  ·intro m hm hP
   have hm':m<y.args.length:=by omega
   have hs2:=lsum_mem Tm.full (List.getElem_mem hm)
   repeat'(first|refine M.gw ?_|refine M.c2 (ih _ _ ?_ ?_) ?_|refine M.cs ?_ ?_<;>intro h|exact M.le|exact M.lt|fail)
   ·have:¬x=y:=by rw[heq];exact fun hc=>list_ne hm hm' (by simpa using h) hc.2.2.2
    simp[this,tupV,constV,V.wk,V.wks]
   ·exact ⟨rfl,step2 hl hm hP (by simpa using h),(M.W [some 0,some 1])⟩
  ·intro hP
   have:x=y:=heq.2 ⟨h1,h2,h3,list_eq hl hP⟩
   repeat'(first|refine M.gw ?_|fail)
   simp[this,tupV,constV,V.wk,V.wks]
theorem sameTm3_c(x y:Tm)(h:x.full<1099511627776):PC E 17 [.agg x.view,.agg y.view] (.bool (decide (x=y))):=by
 have h1:=sameTm2_c _ x y (Nat.le_refl _) h
 refine M.F Tryd.func17 ?_
 repeat'(first|refine M.gw ?_|refine M.c2 (h1) ?_|fail)
 simp[tupV,V.wk,V.wks,constV,Ty.view,Tm.view]
def nearF(b:Bool)(l:List (Int×Int)):Bool:=b&&l.all fun p=>decide (p.1≤536870912)
end Go.Ab
namespace Go.Ab
open Go Go.Proofs
set_option maxRecDepth 100000
set_option maxHeartbeats 4000000
set_option linter.all false
theorem mod_c(n k:Int)(hk:0<k∧k<1099511627776):PC E 62 [.i n,.i k] (.i (modI n k)):=by
 have hb1:=Int.tmod_lt_of_pos n hk.1
 have hb2:=tmod_lo n k hk.1
 refine M.F Tryd.func62 ?_
 repeat'(first|refine M.gw ?_|fail)
 rfl
theorem next_c(d:Dk)(n:Int)(hd:d.ok)(hn:n<1099511627776):AC E 32 [.ptr 0 0,.i n] ⟨1,[(0,.var d.cells)]⟩ (.i (d.next n).1) ⟨1,[(0,.var (d.next n).2.cells)]⟩:=by
 obtain⟨hd1,hd2⟩:=hd
 have hm:¬n<1→∀x,PC E 62 [.i x,.i n] (.i (modI x n)):=fun h x=>mod_c x n ⟨by omega,hn⟩
 refine M.F Tryd.func32 ?_
 repeat'(first|refine M.gw ?_|refine M.c2 (hm (by simp_all) _) ?_|refine M.gs ?_ ?_<;>intro h|refine M.cs ?_ ?_<;>intro h|fail)
 ·have h':n<1:=by simpa using h
  have e:d.next n=(0,d):=dif_pos (.inl h')
  (exact M.n2 [some 0] (h6:=(by(repeat'(first|exact trivial|refine And.intro ?_ ?_|refine⟨_,U,_,U,_,U,?_⟩|exact VLe.of_eq (by simp[Sto.upd,e,Dk.cells])));done)) (h8:=(by simp[tupV,V.wk,V.wks,constV,Ty.view,Tm.view,e,Dk.cells])))
 ·have h':d.l.length≤d.at_:=by simp at h;omega
  have e:d.next n=(0,d):=dif_pos (.inr h')
  (exact M.n2 [some 0] (h6:=(by(repeat'(first|exact trivial|refine And.intro ?_ ?_|refine⟨_,U,_,U,_,U,?_⟩|exact VLe.of_eq (by simp[Sto.upd,e,Dk.cells])));done)) (h8:=(by simp[tupV,V.wk,V.wks,constV,Ty.view,Tm.view,e,Dk.cells])))
 ·rename_i h0
  have h':¬(n<1∨d.l.length≤d.at_):=by simp at h h0;omega
  have e:d.next n=(modI (d.l[d.at_]'(by omega)) n,⟨d.l,d.at_+1⟩):=dif_neg h'
  (exact M.n2 [some 0] (h6:=(by(repeat'(first|exact trivial|refine And.intro ?_ ?_|refine⟨_,U,_,U,_,U,?_⟩|exact VLe.of_eq (by simp[Sto.upd,e,Dk.cells])));done)) (h8:=(by simp[tupV,V.wk,V.wks,constV,Ty.view,Tm.view,e,Dk.cells])))
theorem few_c(l:List Int):PC E 6 [.s .int l] (.bool (decide (l.length≤500))):=by
 refine M.F Tryd.func6 ?_
 repeat'(first|refine M.gw ?_|fail)
 simp[tupV,V.wk,V.wks]
 omega
theorem new_c(l:List Int):AC E 8 [.s .int l] ⟨0,[]⟩ (.ptr 0 0) ⟨1,[(0,.var (Dk.mk l 0).cells)]⟩:=by
 refine M.F Tryd.func8 ?_
 repeat'(first|refine M.gw ?_|fail)
 (exact M.n2 [some 0] (h8:=(by simp[tupV,V.wk,V.wks,constV,Ty.view,Tm.view,Dk.cells])))
end Go.Ab
namespace Go.Ab
open Go Go.Proofs
set_option maxRecDepth 100000
set_option linter.all false
theorem type_c:∀(n:Nat) (k:Int) (d:Dk),k≤n→n≤20→-100≤k→d.ok→AC E 10 [.ptr 0 0,.i k] ⟨1,[(0,.var d.cells)]⟩ (.agg (d.type k.toNat).1.view) ⟨1,[(0,.var (d.type k.toNat).2.cells)]⟩:=by
 intro n
 induction n with
 |zero=>
  intro k d hk hn hk' hd
  have h1:=next_c d 7 hd (by omega)
  have e:=Dk.type_eq k d
  refine AC.mk Tryd.func10 rfl rfl rfl rfl rfl (Nat.le_of_ble_eq_true rfl) ?_
  repeat'(first|((with_reducible refine D.nil ?_);refine AX.nilL ?_)|((with_reducible refine D.move ?_);refine L.mv U U U ?_)|((with_reducible refine D.assign ?_);refine L.asg U U U ?_)|((with_reducible refine D.bin ?_);first|refine L.sb U U U U (by omega) ?_|refine L.bn U U U U U ?_)|((with_reducible refine D.call ?_);first|(apply L.cb2 (h1) [0] 0 rfl;rfl;rfl;rfl;rfl;rfl;rfl;(focus((repeat'(first|exact trivial|refine And.intro ?_ ?_|refine⟨_,U,_,U,_,U,?_⟩|exact VLe.refl _));done));rfl;rfl;rfl;rfl)|refine L.c2 (nat_c) U U U U ?_|refine L.c2 (list_c) U U U U ?_|refine L.c2 (unit_c) U U U U ?_)|((with_reducible refine D.alloc ?_);refine L.al U U U ?_)|((with_reducible refine D.store ?_);refine L.st U U U U U U U U U ?_)|((with_reducible refine D.aw ?_);first|((with_reducible refine D.blk ?_);refine AW.block ?_)|refine K.sq (AW.regL ?_)|refine K.sq (K.sq ?_)|refine AW.regL ?_|refine AW.condT U ?_|refine AW.condS U (fun h=> ?_) (fun h=> ?_)|refine AW.skip ?_|refine AW.ret ?_)|with_reducible refine K.tN ?_|with_reducible refine K.bN ?_|with_reducible refine K.tR ?_|with_reducible refine K.bR ?_)
  all_goals first
   |(exfalso;simp at*;omega)
   |(simp only[beq_iff_eq,beq_eq_false_iff_ne,ne_eq,decide_eq_true_eq,decide_eq_false_iff_not,gt_iff_lt] at*
     simp[*] at e
     (exact K.n2 [some 0] U U U U U (by(repeat'(first|exact trivial|refine And.intro ?_ ?_|refine⟨_,U,_,U,_,U,?_⟩|exact VLe.of_eq (by simp[Sto.upd,e])));done) U (by simp[tupV,V.wk,V.wks,constV,Ty.view,Tm.view,e])))
 |succ n ih=>
  intro k d hk hn hk' hd
  have h1:=next_c d 7 hd (by omega)
  have e:=Dk.type_eq k d
  have i1:k>0→_:=fun h=>ih (k-1) (d.next 7).2 (by omega) (by omega) (by omega) (Dk.next_ok hd 7)
  have i2:k>0→_:=fun h=>ih (k-1) ((d.next 7).2.type (k-1).toNat).2 (by omega) (by omega) (by omega) (Dk.type_ok _ _ (Dk.next_ok hd 7))
  have i3:=two_c ((d.next 7).2.type (k-1).toNat).1 ((((d.next 7).2.type (k-1).toNat).2).type (k-1).toNat).1 (Dk.type_small _ _ (by omega)) (Dk.type_small _ _ (by omega))
  have i4:=fun_c ((d.next 7).2.type (k-1).toNat).1 ((((d.next 7).2.type (k-1).toNat).2).type (k-1).toNat).1 (Dk.type_small _ _ (by omega)) (Dk.type_small _ _ (by omega))
  refine AC.mk Tryd.func10 rfl rfl rfl rfl rfl (Nat.le_of_ble_eq_true rfl) ?_
  repeat'(first|((with_reducible refine D.nil ?_);refine AX.nilL ?_)|((with_reducible refine D.move ?_);refine L.mv U U U ?_)|((with_reducible refine D.assign ?_);refine L.asg U U U ?_)|((with_reducible refine D.bin ?_);first|refine L.sb U U U U (by omega) ?_|refine L.bn U U U U U ?_)|((with_reducible refine D.call ?_);first|(apply L.cb2 (h1) [0] 0 rfl;rfl;rfl;rfl;rfl;rfl;rfl;(focus((repeat'(first|exact trivial|refine And.intro ?_ ?_|refine⟨_,U,_,U,_,U,?_⟩|exact VLe.refl _));done));rfl;rfl;rfl;rfl)|refine L.c2 (nat_c) U U U U ?_|refine L.c2 (list_c) U U U U ?_|refine L.c2 (unit_c) U U U U ?_|(apply L.cb2 (i1 (by simp_all)) [0] 0 rfl;rfl;rfl;rfl;rfl;rfl;rfl;(focus((repeat'(first|exact trivial|refine And.intro ?_ ?_|refine⟨_,U,_,U,_,U,?_⟩|exact VLe.refl _));done));rfl;rfl;rfl;rfl)|(apply L.cb2 (i2 (by simp_all)) [0] 0 rfl;rfl;rfl;rfl;rfl;rfl;rfl;(focus((repeat'(first|exact trivial|refine And.intro ?_ ?_|refine⟨_,U,_,U,_,U,?_⟩|exact VLe.refl _));done));rfl;rfl;rfl;rfl)|refine L.c2 (i3) U U U U ?_|refine L.c2 (i4) U U U U ?_)|((with_reducible refine D.alloc ?_);refine L.al U U U ?_)|((with_reducible refine D.store ?_);refine L.st U U U U U U U U U ?_)|((with_reducible refine D.aw ?_);first|((with_reducible refine D.blk ?_);refine AW.block ?_)|refine K.sq (AW.regL ?_)|refine K.sq (K.sq ?_)|refine AW.regL ?_|refine AW.condT U ?_|refine AW.condS U (fun h=> ?_) (fun h=> ?_)|refine AW.skip ?_|refine AW.ret ?_)|with_reducible refine K.tN ?_|with_reducible refine K.bN ?_|with_reducible refine K.tR ?_|with_reducible refine K.bR ?_)
  all_goals
   simp only[beq_iff_eq,beq_eq_false_iff_ne,ne_eq,decide_eq_true_eq,decide_eq_false_iff_not,gt_iff_lt] at*
   simp[*] at e
   (exact K.n2 [some 0] U U U U U (by(repeat'(first|exact trivial|refine And.intro ?_ ?_|refine⟨_,U,_,U,_,U,?_⟩|exact VLe.of_eq (by simp[Sto.upd,e])));done) U (by simp[tupV,V.wk,V.wks,constV,Ty.view,Tm.view,e]))
theorem numeral_c(n:Nat)(hn:n<100000):PC E 80 [.i n] (.agg (numT n).view):=by
 have h1:=n_c 4 [] (by simp)
 refine M.F Tryd.func80 ?_
 repeat'(first|refine M.gw ?_|refine M.c2 (h1) ?_|fail)
 refine K.sq (AW.down n (fun m=>m≤n)
  (fun m=>([(0,.i m),(2,.ptr 0 0),(3,.ptr 1 0)],⟨2,[(0,.var [.i 0,.i 0,.i 0,.slice .nil (.t .ty []),.slice .nil (.t .tm [])]),(1,.var (numT (n-m)).view)]⟩))
  (by omega) (fun m=>rfl) rfl (Nat.le_refl _) ?_ ?_ ?_)
 ·simp only[Nat.sub_self]
  exact(M.W [some 0,some 1])
 ·intro m hm hP
  have e:numT (n-m)= .mk 5 0 (.mk 0 []) [numT (n-(m+1))]:=by rw[show n-m=(n-(m+1))+1 by omega];rfl
  repeat'(first|refine M.gw ?_|fail)
  refine⟨rfl,by omega,?_⟩
  simp only[e]
  exact(M.W [some 0,some 1])
 ·intro _
  repeat'(first|refine M.gw ?_|fail)
  simp[tupV,V.wk,V.wks,constV,Ty.view,Tm.view]
theorem number_c(n:Int):PC E 63 [.i n] (.tup [.agg (if 0≤n∧n<4096 then numT n.toNat else noTm).view,.i (if n<0 then 1 else if n≥4096 then 4 else 0)]):=by
 have h1:¬n<0→¬n≥4096→PC E 80 [.i n] _:=fun h h'=>by
  have:=numeral_c n.toNat (by omega)
  rw[show((n.toNat:Nat):Int)=n by omega] at this
  exact this
 refine M.F Tryd.func63 ?_
 repeat'(first|refine M.gw ?_|refine M.c2 (h1 (by simp_all) (by simp_all)) ?_|refine M.cs ?_ ?_<;>intro h|fail)
 ·have h':n<0:=by simpa using h
  have h2:¬(0≤n∧n<4096):=by omega
  simp[tupV,V.wk,V.wks,constV,Ty.view,Tm.view,noTm,h',h2]
 ·rename_i h0
  have h':¬n<0:=by simpa using h0
  have h'':n≥4096:=by simpa using h
  have h2:¬(0≤n∧n<4096):=by omega
  simp[tupV,V.wk,V.wks,constV,Ty.view,Tm.view,noTm,h',h'',h2]
 ·rename_i h0
  have h':¬n<0:=by simpa using h0
  have h'':¬n≥4096:=by simpa using h
  have h2:0≤n∧n<4096:=by omega
  simp[tupV,V.wk,V.wks,constV,Ty.view,Tm.view,noTm,h',h'',h2]
theorem longer_c(g l:List Ty)(h:g.length+l.length<1000000):PC E 38 [.s .ty g,.s .ty l] (.s .ty (g++l)):=by
 refine M.F Tryd.func38 ?_
 repeat'(first|refine M.gw ?_|fail)
 simp[tupV,V.wk,V.wks,constV,Ty.view,Tm.view]
theorem lam_c(t:Tm)(ht:t.full<549755813888):PC E 64 [.agg t.view] (.agg (Tm.mk 2 0 (.mk 1 []) [t]).view):=by
 have h1:=t_c 2 (.mk 1 []) [t] (by simp;omega) (by simp[Ty.size_eq])
 refine M.F Tryd.func64 ?_
 repeat'(first|refine M.gw ?_|refine M.c2 (nat_c) ?_|refine M.c2 (h1) ?_|fail)
 simp[tupV,V.wk,V.wks,constV,Ty.view,Tm.view]
theorem num_c(n:Int):PC E 39 [.i n] (.agg (numOf n).view):=by
 have h1:=number_c n
 refine M.F Tryd.func39 ?_
 repeat'(first|refine M.gw ?_|refine M.c2 (h1) ?_|fail)
 simp[tupV,V.wk,V.wks,constV,Ty.view,Tm.view,numOf]
theorem context_c(d:Dk)(hd:d.ok):AC E 9 [.ptr 0 0] ⟨1,[(0,.var d.cells)]⟩ (.s .ty d.ctx.1) ⟨1,[(0,.var d.ctx.2.cells)]⟩:=by
 have h1:=next_c d 4 hd (by omega)
 have hb:=Dk.next_bd d 4 (by omega)
 obtain⟨c,hc⟩:∃c:Nat,(d.next 4).1=c:=⟨(d.next 4).1.toNat,by omega⟩
 rw[hc] at h1 hb
 have hx:d.ctx=(d.next 4).2.types c:=by simp only[Dk.ctx,hc];rfl
 refine M.F Tryd.func9 ?_
 repeat'(first|refine M.gw ?_|refine M.cb (h1) [0] 0 ?_|fail)
 refine AW.down c (fun m=>m≤c)
  (fun m=>([(0,.ptr 0 0),(3,.slice (.own 1) (.t .ty ((d.next 4).2.types (c-m)).1)),(4,.i m)],⟨2,[(0,.var ((d.next 4).2.types (c-m)).2.cells),(1,.row)]⟩))
  (by omega) (fun m=>rfl) rfl (Nat.le_refl _) ?_ ?_ ?_
 ·simp only[Nat.sub_self]
  exact(M.W [some 0,none])
 ·intro m hm hP
  have e:=Dk.types_snoc (c-(m+1)) (d.next 4).2
  rw[show c-(m+1)+1=c-m by omega] at e
  have h2:=type_c 1 1 ((d.next 4).2.types (c-(m+1))).2 (by omega) (by omega) (by omega) (Dk.types_ok _ _ (Dk.next_ok hd 4))
  have hl:=Dk.types_len (c-(m+1)) (d.next 4).2
  repeat'(first|refine M.gw ?_|refine M.cb (h2) [0] 0 ?_|fail)
  refine⟨rfl,by omega,?_⟩
  simp only[e]
  exact(M.W [some 0,some 2])
 ·intro _
  repeat'(first|refine M.gw ?_|fail)
  (exact M.n2 [some 0] (h6:=(by(repeat'(first|exact trivial|refine And.intro ?_ ?_|refine⟨_,U,_,U,_,U,?_⟩|exact VLe.of_eq (by simp[Sto.upd,hx])));done)) (h8:=(by simp[tupV,V.wk,V.wks,constV,Ty.view,Tm.view,hx])))
theorem rec_c(b f n:Tm)(h:b.full+f.full+n.full<549755813888):PC E 65 [.agg b.view,.agg f.view,.agg n.view] (.agg (Tm.mk 6 0 (.mk 1 []) [b,f,n]).view):=by
 have h1:=t_c 6 (.mk 1 []) [b,f,n] (by simp;omega) (by simp[Ty.size_eq])
 refine M.F Tryd.func65 ?_
 repeat'(first|refine M.gw ?_|refine M.c2 (nat_c) ?_|refine M.c2 (h1) ?_|fail)
 simp[tupV,V.wk,V.wks,constV,Ty.view,Tm.view]
theorem plus_c:PC E 41 [] (.agg plusT.view):=by
 have h0:=var_c 0
 have h1:=var_c 1
 have h2:=n_c 5 [vT 0] (by simp[Tm.full,Tm.fulls,Ty.size,Ty.sizes,vT])
 have h3:=lam_c (sT (vT 0)) (by simp[Tm.full,Tm.fulls,Ty.size,Ty.sizes,vT,sT])
 have h4:=lam_c (lamT (sT (vT 0))) (by simp[Tm.full,Tm.fulls,Ty.size,Ty.sizes,vT,sT,lamT])
 have h5:=rec_c (vT 1) addF (vT 0) (by simp[Tm.full,Tm.fulls,Ty.size,Ty.sizes,vT,sT,lamT,addF])
 have h6:=lam_c (recT (vT 1) addF (vT 0)) (by simp[Tm.full,Tm.fulls,Ty.size,Ty.sizes,vT,sT,lamT,addF,recT])
 have h7:=lam_c (lamT (recT (vT 1) addF (vT 0))) (by simp[Tm.full,Tm.fulls,Ty.size,Ty.sizes,vT,sT,lamT,addF,recT])
 refine M.F Tryd.func41 ?_
 repeat'(first|refine M.gw ?_|refine M.c2 (h0) ?_|refine M.c2 (h1) ?_|refine M.c2 (h2) ?_|refine M.c2 (h3) ?_|refine M.c2 (h4) ?_|refine M.c2 (h5) ?_|refine M.c2 (h6) ?_|refine M.c2 (h7) ?_|fail)
 rfl
theorem pred_c:PC E 66 [] (.agg predT.view):=by
 have h0:=var_c 0
 have h1:=var_c 1
 have h2:=n_c 4 [] (by simp)
 have h3:=lam_c (vT 1) (by simp[Tm.full,Tm.fulls,Ty.size,Ty.sizes,vT,sT])
 have h4:=lam_c (lamT (vT 1)) (by simp[Tm.full,Tm.fulls,Ty.size,Ty.sizes,vT,sT,lamT])
 have h5:=rec_c zT (lamT (lamT (vT 1))) (vT 0) (by simp[Tm.full,Tm.fulls,Ty.size,Ty.sizes,vT,zT,lamT,addF])
 have h6:=lam_c (recT zT (lamT (lamT (vT 1))) (vT 0)) (by simp[Tm.full,Tm.fulls,Ty.size,Ty.sizes,vT,zT,lamT,addF,recT])
 refine M.F Tryd.func66 ?_
 repeat'(first|refine M.gw ?_|refine M.c2 (h0) ?_|refine M.c2 (h1) ?_|refine M.c2 (h2) ?_|refine M.c2 (h3) ?_|refine M.c2 (h4) ?_|refine M.c2 (h5) ?_|refine M.c2 (h6) ?_|fail)
 rfl
theorem sub_c:PC E 42 [] (.agg subT.view):=by
 have h0:=var_c 0
 have h1:=var_c 1
 have hp:=pred_c
 have h2:=n_c 3 [predT,vT 0] (by simp[Tm.full,Tm.fulls,Ty.size,Ty.sizes,vT,zT,lamT,predT,recT])
 have h3:=lam_c (apT predT (vT 0)) (by simp[Tm.full,Tm.fulls,Ty.size,Ty.sizes,vT,zT,lamT,predT,recT,apT])
 have h4:=lam_c (lamT (apT predT (vT 0))) (by simp[Tm.full,Tm.fulls,Ty.size,Ty.sizes,vT,zT,lamT,predT,recT,apT])
 have h5:=rec_c (vT 1) subF (vT 0) (by simp[Tm.full,Tm.fulls,Ty.size,Ty.sizes,vT,zT,lamT,predT,recT,apT,subF])
 have h6:=lam_c (recT (vT 1) subF (vT 0)) (by simp[Tm.full,Tm.fulls,Ty.size,Ty.sizes,vT,zT,lamT,predT,recT,apT,subF])
 have h7:=lam_c (lamT (recT (vT 1) subF (vT 0))) (by simp[Tm.full,Tm.fulls,Ty.size,Ty.sizes,vT,zT,lamT,predT,recT,apT,subF])
 refine M.F Tryd.func42 ?_
 repeat'(first|refine M.gw ?_|refine M.c2 (h0) ?_|refine M.c2 (h1) ?_|refine M.c2 (hp) ?_|refine M.c2 (h2) ?_|refine M.c2 (h3) ?_|refine M.c2 (h4) ?_|refine M.c2 (h5) ?_|refine M.c2 (h6) ?_|refine M.c2 (h7) ?_|fail)
 rfl
theorem appMake_c:∀(f:Tm) (l:List Tm),f.full+2*l.length+(l.map Tm.full).sum<274877906944→PC E 40 [.agg f.view,.s .tm l] (.agg (l.foldl apT f).view):=by
 intro f l hl
 have hlen:=lsum_len Tm.full Tm.full_pos l
 have hfull:∀m,m≤l.length→((l.take m).foldl apT f).full≤f.full+2*m+((l.take m).map Tm.full).sum:=by
  intro m
  induction m with
  |zero=>intro _;simp
  |succ m ih=>
   intro hm
   have h1:=ih (by omega)
   have h2:=lsum_take Tm.full l m (by omega)
   rw[←List.take_append_getElem (by omega:m<l.length),List.foldl_append,List.take_append_getElem (by omega:m<l.length),h2]
   simp only[List.foldl_cons,List.foldl_nil,apT,Tm.full,Tm.fulls,Ty.size,Ty.sizes]
   omega
 refine M.F Tryd.func40 ?_
 repeat'(first|refine M.gw ?_|fail)
 refine AW.range l.length (fun m=>True)
  (fun m=>([(2,.ptr 0 0),(4,.ptr 1 0),(7,.s .tm l),(8,.i l.length),(9,.i m)],⟨2,[(0,.var ((l.take m).foldl apT f).view),(1,.var [.i 0,.i 0,.i 0,.slice .nil (.t .ty []),.slice .nil (.t .tm [])])]⟩))
  (by omega) (fun m=>rfl) (fun m=>rfl) rfl trivial (M.W [some 0,some 1]) ?_ ?_
 ·intro m hm hP
  have e:(l.take (m+1)).foldl apT f=apT ((l.take m).foldl apT f) l[m]:=by rw[←List.take_append_getElem hm,List.foldl_append];rfl
  have h2:=lsum_take_le Tm.full l (m+1)
  have h3:=lsum_take Tm.full l m hm
  have h4:=hfull m (by omega)
  have h1:=n_c 3 [(l.take m).foldl apT f,l[m]] (by simp only[List.map_cons,List.map_nil,List.sum_cons,List.sum_nil];omega)
  repeat'(first|refine M.gw ?_|refine M.c2 (h1) ?_|fail)
  refine⟨rfl,trivial,?_⟩
  exact(M.W [some 0,some 1] (he:=(by(repeat'(first|exact trivial|refine And.intro ?_ ?_|refine⟨_,U,_,U,_,U,?_⟩|exact VLe.refl _|exact VLe.of_eq (by simp[Sto.upd,e,apT])));done)))
 ·intro _
  repeat'(first|refine M.gw ?_|fail)
  simp[tupV,V.wk,V.wks,constV,Ty.view,Tm.view]
theorem vars_c(g:List Ty)(t:Ty)(hg:(g.map Ty.size).sum<1099511627776):PC E 36 [.s .ty g,.agg t.view] (.s .int (varsT g t)):=by
 have hlen:=lsum_len Ty.size Ty.size_pos g
 refine M.F Tryd.func36 ?_
 repeat'(first|refine M.gw ?_|fail)
 refine AW.range g.length (fun m=>True)
  (fun m=>([(0,.s .ty g),(3,.ptr 0 0),(5,.slice (.own 1) (.t .int (((List.range m).filter fun i=>decide (g[g.length-1-i]? =some t)).map Int.ofNat))),(8,.i g.length),(9,.i m)],⟨2,[(0,.var t.view),(1,.row)]⟩))
  (by omega) (fun m=>rfl) (fun m=>rfl) rfl trivial (M.W [some 0,none]) ?_ ?_
 ·intro m hm hP
  have hm2:g.length-1-m<g.length:=by omega
  have hs2:=lsum_mem Ty.size (List.getElem_mem hm2)
  have hsame:=sameTy_c _ g[g.length-1-m] t (Nat.le_refl _) (by omega)
  have hg:g[g.length-1-m]? =some g[g.length-1-m]:=List.getElem?_eq_getElem hm2
  have hfl:(List.filter (fun i=>decide (g[g.length-1-i]? =some t)) (List.range m)).length≤m:=by have:=List.length_filter_le (fun i=>decide (g[g.length-1-i]? =some t)) (List.range m);simpa using this
  repeat'(first|refine M.gw ?_|fail)
  refine L.ixt (g.length-1-m) rfl rfl rfl rfl (by omega) rfl rfl (by omega) ?_
  repeat'(first|refine M.gw ?_|refine M.c2 (hsame) ?_|refine M.cs ?_ ?_<;>intro h|fail)
  ·exact ⟨rfl,trivial,(M.W [some 0,some 2] (hf:=(by(repeat'(first|exact trivial|refine And.intro ?_ ?_|refine⟨_,U,_,U,?_⟩|exact VLe.refl _|exact VLe.of_eq (by simp[Sto.upd,List.range_succ,hg,of_decide_eq_true h])));done)))⟩
  ·exact ⟨rfl,trivial,(M.W [some 0,some 1] (hf:=(by(repeat'(first|exact trivial|refine And.intro ?_ ?_|refine⟨_,U,_,U,?_⟩|exact VLe.refl _|exact VLe.of_eq (by simp[Sto.upd,List.range_succ,hg,of_decide_eq_false h])));done)))⟩
 ·intro _
  repeat'(first|refine M.gw ?_|fail)
  simp[tupV,V.wk,V.wks]
  rfl
theorem shapeTy_c:∀(b:Nat) (t:Ty),t.size≤b→b<1099511627776→PC E 78 [.agg t.view] (.bool t.shape):=by
 intro b
 induction b with
 |zero=>intro t h;have:=t.size_pos;omega
 |succ b ih=>
 intro t hsz hb
 have hsz':=Ty.size_eq t
 have hlen:=lsum_len Ty.size Ty.size_pos t.args
 have hsh:=Ty.shape_eq t
 refine M.F Tryd.func78 ?_
 repeat'(first|refine M.gw ?_|fail)
 refine AW.cutT (ι:={n:Nat // arT t.kind=some n}) (fun n=>([(1,.ptr 0 0),(3,.i n.1)],⟨1,[(0,.var t.view)]⟩)) ?_ ?_
 ·refine AW.block ?_
  repeat'(first|refine M.gw ?_|refine M.cs ?_ ?_<;>intro h|fail)
  ·exact ⟨⟨0,by simp at h;simp[arT,h]⟩,(M.W [some 0])⟩
  ·exact ⟨⟨0,by simp at h;simp[arT,h]⟩,(M.W [some 0])⟩
  ·exact ⟨⟨0,by simp at h;simp[arT,h]⟩,(M.W [some 0])⟩
  ·exact ⟨⟨2,by simp at h;simp[arT,h]⟩,(M.W [some 0])⟩
  ·exact ⟨⟨2,by simp at h;simp[arT,h]⟩,(M.W [some 0])⟩
  ·have:t.shape=false:=by simp at*;simp[hsh,arT, *]
   simp[this,tupV,constV,V.wk,V.wks]
 rintro⟨n,hn⟩
 repeat'(first|refine M.gw ?_|refine M.cs ?_ ?_<;>intro h|fail)
 ·have h1:¬t.args.length=n:=by simp at h;omega
  have:t.shape=false:=by simp[hsh,hn,h1]
  simp[this,tupV,constV,V.wk,V.wks]
 have hn':t.args.length=n:=by simp at h;omega
 refine AW.range t.args.length (fun m=>∀j (hj:j<t.args.length),j<m→(t.args[j]).shape=true)
  (fun m=>([(1,.ptr 0 0),(21,.s .ty t.args),(22,.i t.args.length),(23,.i m)],⟨1,[(0,.var t.view)]⟩))
  (by omega) (fun m=>rfl) (fun m=>rfl) rfl (by intro j hj h;omega) (M.W [some 0]) ?_ ?_
 ·intro m hm hP
  have hs2:=lsum_mem Ty.size (List.getElem_mem hm)
  repeat'(first|refine M.gw ?_|refine M.c2 (ih _ ?_ ?_) ?_|refine M.cs ?_ ?_<;>intro h|exact M.le|exact M.lt|fail)
  ·have h1:(t.args[m]).shape=false:=by simpa using h
   have:t.shape=false:=by rw[hsh,all_not Ty.shape hm h1,Bool.and_false]
   simp[this,tupV,constV,V.wk,V.wks]
  ·have hh:(t.args[m]).shape=true:=by simpa using h
   exact⟨rfl,all_step (p:=fun t=>Ty.shape t=true) hm hP hh,(M.W [some 0])⟩
 ·intro hP
  have:t.shape=true:=by simp only[hsh,hn,hn',all_of Ty.shape t.args fun j hj=>hP j hj hj];simp
  repeat'(first|refine M.gw ?_|fail)
  simp[this,tupV,constV,V.wk,V.wks]
theorem sizeTy_c:∀(b:Nat) (t:Ty),t.size≤b→b<1099511627776→PC E 79 [.agg t.view] (.i t.size):=by
 intro b
 induction b with
 |zero=>intro t h;have:=t.size_pos;omega
 |succ b ih=>
 intro t hsz hb
 have hsz':=Ty.size_eq t
 have hlen:=lsum_len Ty.size Ty.size_pos t.args
 refine M.F Tryd.func79 ?_
 repeat'(first|refine M.gw ?_|fail)
 refine AW.range t.args.length (fun m=>True)
  (fun m=>([(3,.i (1+((t.args.take m).map Ty.size).sum)),(7,.s .ty t.args),(8,.i t.args.length),(9,.i m)],⟨1,[(0,.var t.view)]⟩))
  (by omega) (fun m=>rfl) (fun m=>rfl) rfl trivial (M.W [some 0]) ?_ ?_
 ·intro m hm hP
  have hs1:=lsum_take Ty.size t.args m hm
  have hs2:=lsum_mem Ty.size (List.getElem_mem hm)
  have hs3:=lsum_take_le Ty.size t.args (m+1)
  have e:(1+((((t.args.take (m+1)).map Ty.size).sum:Nat):Int))=1+(((t.args.take m).map Ty.size).sum:Nat)+t.args[m].size:=by rw[hs1];omega
  repeat'(first|refine M.gw ?_|refine M.c2 (ih _ ?_ ?_) ?_|exact M.le|exact M.lt|fail)
  refine⟨rfl,trivial,?_⟩
  simp only[e]
  exact(M.W [some 0])
 ·intro hP
  repeat'(first|refine M.gw ?_|fail)
  simp[tupV,constV,hsz',V.wk,V.wks]
theorem checkTyR_c(t:Ty)(ht:t.size<1099511627776):PC E 58 [.agg t.view] (.i t.err):=by
 have h1:=shapeTy_c _ t (Nat.le_refl _) ht
 have h2:=sizeTy_c _ t (Nat.le_refl _) ht
 refine M.F Tryd.func58 ?_
 repeat'(first|refine M.gw ?_|refine M.c2 (h1) ?_|refine M.c2 (h2) ?_|refine M.cs ?_ ?_<;>intro h|fail)
 all_goals simp_all[tupV,V.wk,V.wks,constV,Ty.err]
 all_goals(first|omega|(split<;>first|omega|simp_all))
theorem zeroTy_c(t:Ty):PC E 69 [.agg t.view] (.bool t.isNo):=by
 refine M.F Tryd.func69 ?_
 repeat'(first|refine M.gw ?_|refine M.gs ?_ ?_<;>intro h|fail)
 all_goals simp_all[tupV,V.wk,V.wks,constV,Ty.isNo]
 rw[Bool.eq_iff_iff];simp
theorem okTy_c(t:Ty)(ht:t.size<1099511627776):PC E 89 [.agg t.view] (.tup [.agg (if t.err=0 then t else noTy).view,.i (if t.err=0 then 0 else 4)]):=by
 have h1:=checkTyR_c t ht
 refine M.F Tryd.func89 ?_
 repeat'(first|refine M.gw ?_|refine M.c2 (h1) ?_|refine M.cs ?_ ?_<;>intro h|fail)
 all_goals simp_all[tupV,V.wk,V.wks,constV,noTy,Ty.view]
theorem contextR_c(l:List Ty)(hl:(l.map Ty.size).sum<1099511627776):PC E 52 [.s .ty l] (.i (ctxErr l)):=by
 have hlen:=lsum_len Ty.size Ty.size_pos l
 refine M.F Tryd.func52 ?_
 repeat'(first|refine M.gw ?_|refine M.cs ?_ ?_<;>intro h|fail)
 ·have h':l.length>16:=by simp at h;omega
  simp[tupV,V.wk,V.wks,constV,ctxErr,h']
 have h':¬l.length>16:=by simp at h;omega
 refine AW.range l.length (fun m=>∀j (hj:j<l.length),j<m→l[j].err=0)
  (fun m=>([(9,.s .ty l),(10,.i l.length),(11,.i m)],⟨0,[]⟩))
  (by omega) (fun m=>rfl) (fun m=>rfl) rfl (by intro j hj h;omega) (M.W []) ?_ ?_
 ·intro m hm hP
  have hs2:=lsum_mem Ty.size (List.getElem_mem hm)
  repeat'(first|refine M.gw ?_|refine M.c2 (checkTyR_c _ ?_) ?_|refine M.cs ?_ ?_<;>intro h|exact M.lt|fail)
  ·have h1:¬l[m].err=0:=by simpa using h
   simp[tupV,V.wk,V.wks,constV,ctxErr,h',firstErr_at l m hm hP h1]
  ·exact ⟨rfl,all_step (p:=fun t=>Ty.err t=0) hm hP (by simpa using h),(M.W [])⟩
 ·intro hP
  repeat'(first|refine M.gw ?_|fail)
  simp[tupV,V.wk,V.wks,constV,ctxErr,h',firstErr_none l hP]
theorem args_c(k:Int):PC E 68 [.i k] (.i (argsI k)):=by
 refine M.F Tryd.func68 ?_
 repeat'(first|refine M.gw ?_|refine M.bl ?_|refine M.cs ?_ ?_<;>intro h|fail)
 all_goals
  simp only[beq_iff_eq,beq_eq_false_iff_ne,ne_eq] at*
  simp[tupV,V.wk,V.wks,constV,argsI, *]
theorem countTm_c:∀(b:Nat) (t:Tm),t.full≤b→b<1099511627776→PC E 45 [.agg t.view] (.i t.size):=by
 intro b
 induction b with
 |zero=>intro t h;have:=t.full_pos;omega
 |succ b ih=>
 intro t hsz hb
 have hsz':=Tm.full_eq t
 have hszz:=Tm.size_eq t
 have hle:=Tm.size_le_full t
 have hlen:=lsum_len Tm.full Tm.full_pos t.args
 refine M.F Tryd.func45 ?_
 repeat'(first|refine M.gw ?_|fail)
 refine AW.range t.args.length (fun m=>True)
  (fun m=>([(3,.i (1+((t.args.take m).map Tm.size).sum)),(7,.s .tm t.args),(8,.i t.args.length),(9,.i m)],⟨1,[(0,.var t.view)]⟩))
  (by omega) (fun m=>rfl) (fun m=>rfl) rfl trivial (M.W [some 0]) ?_ ?_
 ·intro m hm hP
  have hs1:=lsum_take Tm.size t.args m hm
  have hs2:=lsum_mem Tm.full (List.getElem_mem hm)
  have hs3:=lsum_take_le Tm.size t.args (m+1)
  have e:(1+((((t.args.take (m+1)).map Tm.size).sum:Nat):Int))=1+(((t.args.take m).map Tm.size).sum:Nat)+t.args[m].size:=by rw[hs1];omega
  repeat'(first|refine M.gw ?_|refine M.c2 (ih _ ?_ ?_) ?_|exact M.le|exact M.lt|fail)
  refine⟨rfl,trivial,?_⟩
  simp only[e]
  exact(M.W [some 0])
 ·intro hP
  repeat'(first|refine M.gw ?_|fail)
  simp[tupV,constV,hszz,V.wk,V.wks]
end Go.Ab
