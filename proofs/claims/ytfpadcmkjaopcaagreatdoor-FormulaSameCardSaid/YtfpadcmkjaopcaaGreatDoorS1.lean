/- A part of the proofs of this seat's statements: H1, S1, S183, S184, S185. It has no conditions of its own. -/
import Derived.Test.YtfpadcmkjaopcaaGreatDoorA1
import Derived.Test.YtfpadcmkjaopcaaGreatDoorRows
import Derived.Test.YtfpadcmkjaopcaaGreatDoorA2
import Derived.Test.YtfpadcmkjaopcaaGreatDoorD1
import Derived.Test.YtfpadcmkjaopcaaGreatDoorA3
namespace Go.Ab
open Go Go.Proofs
def tab:List (TypeId×TI):=[
 (1,⟨1,[.nilf],.other⟩),
 (2,⟨1,[.int .i64 0],.int .i64⟩),
 (3,⟨1,[.int .i64 0],.int .i64⟩),
 (4,⟨1,[.bool false],.bool⟩),
 (5,⟨1,[.int .u8 0],.int .u8⟩),
 (7,⟨4,[.int .i64 0,.int .i64 0,.bool false,.int .u8 0],.strct [(0,1,false),(1,1,false),(2,1,false),(3,1,false)]⟩),
 (9,⟨1,[.str ⟨#[]⟩],.str⟩),
 (12,⟨1,[.int .u64 0],.int .u64⟩),
 (13,⟨2,[.str ⟨#[]⟩,.int .u64 0],.strct [(0,1,false),(1,1,false)]⟩),
 (15,⟨1,[.nilp],.other⟩),
 (16,⟨1,[.nilp],.other⟩),
 (17,⟨1,[.nilp],.other⟩),
 (18,⟨1,[.nilp],.strct [(0,1,false)]⟩),
 (20,⟨1,[.raw .nilIface],.other⟩),
 (21,⟨1,[.int .i32 0],.int .i32⟩),
 (22,⟨1,[.slice .nil (.t .int [])],.slc (some .int) 1 8⟩),
 (23,⟨1,[.nilf],.other⟩),
 (24,⟨1,[.nilf],.other⟩),
 (25,⟨1,[.nilp],.other⟩),
 (26,⟨1,[.nilf],.other⟩),
 (27,⟨1,[.slice .nil (.t .ty [])],.slc (some .ty) 2 32⟩),
 (28,⟨1,[.nilf],.other⟩),
 (29,⟨2,[.int .i64 0,.slice .nil (.t .ty [])],.strct [(0,1,false),(1,1,false)]⟩),
 (30,⟨2,[.int .i64 0,.slice .nil (.t .ty [])],.strct [(0,1,false),(1,1,false)]⟩),
 (31,⟨1,[.nilf],.other⟩),
 (32,⟨1,[.slice .nil (.t .tm [])],.slc (some .tm) 5 72⟩),
 (33,⟨1,[.slice .nil (.t .fm [])],.slc (some .fm) 5 88⟩),
 (34,⟨5,[.int .i64 0,.int .i64 0,.slice .nil (.t .ty []),.slice .nil (.t .tm []),.slice .nil (.t .fm [])],.strct [(0,1,false),(1,2,true),(3,1,false),(4,1,false)]⟩),
 (35,⟨5,[.int .i64 0,.int .i64 0,.slice .nil (.t .ty []),.slice .nil (.t .tm []),.slice .nil (.t .fm [])],.strct [(0,1,false),(1,2,true),(3,1,false),(4,1,false)]⟩),
 (36,⟨1,[.nilf],.other⟩),
 (37,⟨1,[.nilf],.other⟩),
 (38,⟨5,[.int .i64 0,.int .i64 0,.int .i64 0,.slice .nil (.t .ty []),.slice .nil (.t .tm [])],.strct [(0,1,false),(1,1,false),(2,2,true),(4,1,false)]⟩),
 (39,⟨5,[.int .i64 0,.int .i64 0,.int .i64 0,.slice .nil (.t .ty []),.slice .nil (.t .tm [])],.strct [(0,1,false),(1,1,false),(2,2,true),(4,1,false)]⟩),
 (40,⟨1,[.nilf],.other⟩),
 (41,⟨1,[.int .i64 0],.int .i64⟩),
 (43,⟨1,[.nilf],.other⟩),
 (44,⟨1,[.nilf],.other⟩),
 (45,⟨1,[.slice .nil (.t .int [])],.slc (some .int) 1 8⟩),
 (46,⟨1,[.nilf],.other⟩),
 (47,⟨1,[.nilf],.other⟩),
 (49,⟨1,[.nilf],.other⟩),
 (50,⟨1,[.nilf],.other⟩),
 (51,⟨1,[.nilf],.other⟩),
 (52,⟨2,[.slice .nil (.t .int []),.int .i64 0],.strct [(0,1,false),(1,1,false)]⟩),
 (53,⟨2,[.slice .nil (.t .int []),.int .i64 0],.strct [(0,1,false),(1,1,false)]⟩),
 (54,⟨1,[.nilf],.other⟩),
 (55,⟨1,[.nilf],.other⟩),
 (56,⟨1,[.nilf],.other⟩),
 (57,⟨1,[.nilf],.other⟩),
 (58,⟨1,[.nilf],.other⟩),
 (59,⟨1,[.nilf],.other⟩),
 (60,⟨1,[.nilf],.other⟩),
 (62,⟨1,[.nilf],.other⟩),
 (63,⟨1,[.nilf],.other⟩),
 (64,⟨1,[.nilf],.other⟩),
 (65,⟨1,[.nilf],.other⟩),
 (66,⟨1,[.nilf],.other⟩),
 (67,⟨1,[.nilf],.other⟩),
 (68,⟨1,[.nilf],.other⟩),
 (70,⟨1,[.nilf],.other⟩),
 (71,⟨1,[.nilf],.other⟩),
 (72,⟨1,[.nilf],.other⟩),
 (73,⟨1,[.nilf],.other⟩),
 (74,⟨1,[.nilf],.other⟩),
 (75,⟨1,[.nilf],.other⟩),
 (76,⟨1,[.nilf],.other⟩),
 (77,⟨1,[.nilf],.other⟩),
 (78,⟨1,[.nilf],.other⟩),
 (79,⟨1,[.slice .nil (.t .sz [])],.slc (some .sz) 3 40⟩),
 (80,⟨1,[.slice .nil (.t .sz [])],.slc (some .sz) 3 40⟩),
 (81,⟨1,[.nilf],.other⟩),
 (82,⟨1,[.raw (.map none)],.other⟩),
 (83,⟨1,[.nilf],.other⟩),
 (84,⟨1,[.nilf],.other⟩),
 (85,⟨1,[.nilf],.other⟩),
 (86,⟨1,[.nilf],.other⟩),
 (87,⟨1,[.nilf],.other⟩),
 (88,⟨1,[.nilf],.other⟩),
 (89,⟨1,[.nilf],.other⟩),
 (90,⟨1,[.nilf],.other⟩),
 (91,⟨1,[.nilf],.other⟩),
 (92,⟨1,[.nilf],.other⟩),
 (93,⟨1,[.nilf],.other⟩),
 (94,⟨1,[.nilf],.other⟩),
 (95,⟨1,[.nilf],.other⟩),
 (96,⟨1,[.nilf],.other⟩),
 (97,⟨1,[.nilf],.other⟩),
 (99,⟨1,[.nilf],.other⟩),
 (100,⟨1,[.nilf],.other⟩),
 (102,⟨1,[.nilf],.other⟩),
 (103,⟨1,[.nilf],.other⟩),
 (104,⟨1,[.nilf],.other⟩),
 (105,⟨1,[.nilf],.other⟩),
 (106,⟨1,[.nilf],.other⟩),
 (107,⟨1,[.nilf],.other⟩),
 (108,⟨1,[.nilf],.other⟩),
 (109,⟨1,[.nilf],.other⟩),
 (110,⟨3,[.int .i64 0,.slice .nil (.t .ty []),.int .i64 0],.strct [(0,2,true),(2,1,false)]⟩),
 (111,⟨3,[.int .i64 0,.slice .nil (.t .ty []),.int .i64 0],.strct [(0,2,true),(2,1,false)]⟩),
 (112,⟨1,[.nilf],.other⟩),
 (113,⟨1,[.nilf],.other⟩),
 (114,⟨1,[.nilf],.other⟩),
 (115,⟨1,[.nilf],.other⟩),
 (117,⟨1,[.nilf],.other⟩),
 (118,⟨1,[.nilf],.other⟩),
 (119,⟨1,[.nilf],.other⟩),
 (120,⟨1,[.nilf],.other⟩),
 (121,⟨1,[.nilf],.other⟩),
 (123,⟨1,[.nilf],.other⟩),
 (124,⟨1,[.nilf],.other⟩),
 (125,⟨1,[.nilf],.other⟩),
 (126,⟨1,[.nilf],.other⟩),
 (127,⟨1,[.nilf],.other⟩),
 (128,⟨1,[.nilf],.other⟩),
 (129,⟨1,[.int .u64 0],.int .u64⟩),
 (130,⟨1,[.nilf],.other⟩),
 (131,⟨1,[.nilf],.other⟩),
 (132,⟨1,[.nilf],.other⟩),
 (133,⟨1,[.nilf],.other⟩),
 (134,⟨1,[.nilp],.other⟩),
 (135,⟨1,[.nilp],.other⟩),
 (136,⟨1,[.nilf],.other⟩),
 (137,⟨2,[.nilp,.int .i64 0],.strct [(0,1,false),(1,1,false)]⟩),
 (138,⟨2,[.nilp,.int .i64 0],.strct [(0,1,false),(1,1,false)]⟩),
 (140,⟨1,[.nilf],.other⟩),
 (141,⟨1,[.nilf],.other⟩),
 (143,⟨1,[.nilf],.other⟩),
 (144,⟨1,[.nilf],.other⟩),
 (145,⟨1,[.int .i64 0],.int .i64⟩),
 (147,⟨1,[.nilf],.other⟩),
 (148,⟨1,[.nilf],.other⟩),
 (149,⟨1,[.nilf],.other⟩),
 (150,⟨1,[.nilf],.other⟩),
 (151,⟨1,[.nilf],.other⟩),
 (152,⟨1,[.nilf],.other⟩),
 (153,⟨1,[.int .u32 0],.int .u32⟩),
 (154,⟨1,[.nilf],.other⟩),
 (155,⟨1,[.int .u64 0],.int .u64⟩),
 (156,⟨1,[.nilf],.other⟩),
 (157,⟨14,[.int .i64 0,.int .i64 0,.int .i64 0,.int .i64 0,.int .i64 0,.int .i64 0,.int .i64 0,.int .i64 0,.int .i64 0,.int .i64 0,.int .i64 0,.int .i64 0,.int .i64 0,.int .i64 0],.arr 14 1 false⟩),
 (158,⟨1,[.slice .nil (.t .nd [])],.slc (some .nd) 1 8⟩),
 (159,⟨1,[.nilf],.other⟩),
 (161,⟨1,[.nilf],.other⟩),
 (162,⟨1,[.nilf],.other⟩),
 (163,⟨8,[.int .i64 0,.int .i64 0,.int .i64 0,.slice .nil (.t .ty []),.slice .nil (.t .nd []),.int .i64 0,.int .i64 0,.bool false],.strct [(0,1,false),(1,1,false),(2,2,true),(4,1,false),(5,1,false),(6,1,false),(7,1,false)]⟩),
 (164,⟨8,[.int .i64 0,.int .i64 0,.int .i64 0,.slice .nil (.t .ty []),.slice .nil (.t .nd []),.int .i64 0,.int .i64 0,.bool false],.strct [(0,1,false),(1,1,false),(2,2,true),(4,1,false),(5,1,false),(6,1,false),(7,1,false)]⟩),
 (165,⟨1,[.nilf],.other⟩),
 (166,⟨9,[.int .i64 0,.slice .nil (.t .ty []),.int .i64 0,.int .i64 0,.slice .nil (.t .ty []),.int .i64 0,.int .i64 0,.slice .nil (.t .ty []),.int .i64 0],.arr 3 3 true⟩),
 (167,⟨1,[.nilf],.other⟩),
 (168,⟨1,[.int .u64 0],.int .u64⟩),
 (169,⟨1,[.nilf],.other⟩),
 (170,⟨1,[.nilf],.other⟩),
 (171,⟨1,[.nilf],.other⟩),
 (172,⟨1,[.nilp],.other⟩),
 (173,⟨1,[.nilf],.other⟩),
 (174,⟨1,[.nilf],.other⟩),
 (175,⟨1,[.nilf],.other⟩),
 (176,⟨1,[.nilf],.other⟩),
 (177,⟨1,[.nilf],.other⟩),
 (178,⟨1,[.nilf],.other⟩),
 (179,⟨1,[.nilf],.other⟩),
 (180,⟨1,[.nilp],.other⟩),
 (182,⟨1,[.nilf],.other⟩),
 (183,⟨1,[.nilf],.other⟩),
 (184,⟨1,[.nilf],.other⟩),
 (185,⟨1,[.nilf],.other⟩),
 (186,⟨1,[.nilf],.other⟩),
 (187,⟨1,[.nilf],.other⟩),
 (188,⟨4,[.nilp,.nilp,.nilp,.str ⟨#[]⟩],.strct [(0,1,false),(1,1,false),(2,1,false),(3,1,false)]⟩),
 (190,⟨0,[],.arr 0 1 false⟩),
 (195,⟨1,[.nilf],.other⟩),
 (196,⟨1,[.nilp],.other⟩),
 (199,⟨11,[.int .u64 0,.int .u64 0,.int .u32 0,.int .u8 0,.int .u8 0,.int .u8 0,.int .u8 0,.nilf,.nilp,.int .i32 0,.int .i32 0],.strct [(0,1,false),(1,1,false),(2,1,false),(3,1,false),(4,1,false),(5,1,false),(6,1,false),(7,1,false),(8,1,false),(9,1,false),(10,1,false)]⟩)]
set_option maxRecDepth 100000
theorem tab_ok:tab.all (fun p=>tiB Tryz.prog p.1 p.2)=true:=by kernel_rfl
def ruV:List V:=[.bool false,.bool false,.i 0,.i 0,.i 0,.i 0,.i 0,.i 0,.bool true,.bool false,.i 0,.i 0,.i 0,.i 0,.i 0,.i 0,.bool true,.bool false,.i 0,.i 0,.i 0,.i 0,.i 0,.i 0,.bool false,.bool false,.i 0,.i 0,.i 2,.i 0,.i 0,.i 0,.bool false,.bool false,.i 0,.i 0,.i 1,.i 0,.i 0,.i 0,.bool false,.bool false,.i 0,.i 0,.i 1,.i 0,.i 0,.i 0,.bool false,.bool false,.i 0,.i 1,.i 1,.i 0,.i 0,.i 1,.bool false,.bool false,.i 0,.i 0,.i 2,.i 0,.i 0,.i 0,.bool false,.bool true,.i 0,.i 0,.i 1,.i 0,.i 1,.i 0,.bool false,.bool false,.i 1,.i 0,.i 1,.i 0,.i 0,.i 0,.bool false,.bool false,.i 1,.i 1,.i 1,.i 0,.i 0,.i 0,.bool false,.bool false,.i 0,.i 0,.i 2,.i 0,.i 1,.i 1,.bool false,.bool true,.i 0,.i 0,.i 1,.i 0,.i 1,.i 0,.bool false,.bool false,.i 1,.i 0,.i 1,.i 0,.i 0,.i 0,.bool false,.bool false,.i 1,.i 1,.i 1,.i 0,.i 0,.i 0,.bool false,.bool false,.i 0,.i 0,.i 2,.i 0,.i 1,.i 1,.bool false,.bool false,.i 1,.i 1,.i 2,.i 1,.i 1,.i 1,.bool false,.bool false,.i 1,.i 1,.i 2,.i 1,.i 2,.i 1,.bool false,.bool false,.i 1,.i 0,.i 0,.i 0,.i 0,.i 0,.bool false,.bool false,.i 0,.i 1,.i 2,.i 1,.i 0,.i 0,.bool false,.bool false,.i 0,.i 0,.i 1,.i 0,.i 0,.i 0]
def arV:List V:=[.i 0,.i 0,.i 1,.i 2,.i 0,.i 1,.i 3,.i 0,.i 2,.i 3,.i 2,.i 1,.i 1,.i 0]
noncomputable def E:Env:=⟨Tryz.prog,[(0,arV)],tab,tab_ok,[]⟩
end Go.Ab
namespace Go.Ab
open Go Go.Proofs
set_option maxRecDepth 100000
set_option linter.all false
theorem mixed:E.P.follows .mixedOrders=true:=Tryz.checked.mixed
theorem copyTy_c:∀(b:Nat) (t:Ty),t.size≤b→b<1099511627776→PC E 60 [.agg t.view] (.agg t.view):=by
 intro b
 induction b with
 |zero=>intro t h;have:=t.size_pos;omega
 |succ b ih=>
 intro t hsz hb
 have hsz':=Ty.size_eq t
 have hlen:=lsum_len Ty.size Ty.size_pos t.args
 refine M.F Tryz.func60 ?_
 repeat'(first|refine M.gw ?_|fail)
 refine AW.range t.args.length (fun m=>True)
  (fun m=>([(1,.ptr 0 0),(2,.ptr 1 0),(3,.slice (.own 2) (.t .ty (t.args.take m))),(7,.s .ty t.args),(8,.i t.args.length),(9,.i m)],⟨3,[(0,.var t.view),(1,.var [.i 0,.slice .nil (.t .ty [])]),(2,.row)]⟩))
  (by omega) (fun m=>rfl) (fun m=>rfl) rfl trivial (M.W [some 0,some 1,none]) ?_ ?_
 ·intro m hm hP
  have hs2:=lsum_mem Ty.size (List.getElem_mem hm)
  repeat'(first|refine M.gw ?_|refine M.c2 (ih _ ?_ ?_) ?_|exact M.le|exact M.lt|fail)
  exact⟨rfl,trivial,(M.W [some 0,some 1,some 4] (hf:=(by(repeat'(first|exact trivial|refine And.intro ?_ ?_|refine⟨_,U,_,U,?_⟩|exact VLe.refl _|exact VLe.of_eq (by simp[Sto.upd,List.take_append_getElem])));done)))⟩
 ·intro hP
  repeat'(first|refine M.gw ?_|fail)
  simp[tupV,V.wk,V.wks,constV,Ty.view,Tm.view]
theorem ownTy_c:∀(b:Nat) (t:Ty),t.size≤b→b<1099511627776→PC E 102 [.agg t.view] (.agg t.view):=by
 intro b
 induction b with
 |zero=>intro t h;have:=t.size_pos;omega
 |succ b ih=>
 intro t hsz hb
 have hsz':=Ty.size_eq t
 have hlen:=lsum_len Ty.size Ty.size_pos t.args
 refine M.F Tryz.func102 ?_
 repeat'(first|refine M.gw ?_|fail)
 refine AW.range t.args.length (fun m=>True)
  (fun m=>([(1,.ptr 0 0),(2,.ptr 1 0),(3,.ptr 2 0),(10,.s .ty t.args),(11,.i t.args.length),(12,.i m)],⟨4,[(0,.var t.view),(1,.var [.i 0,.slice .nil (.t .ty [])]),(2,.var [.i t.kind,.slice (.own 3) (.t .ty (t.args.take m))]),(3,.row)]⟩))
  (by omega) (fun m=>rfl) (fun m=>rfl) rfl trivial (M.W [some 0,some 1,some 2,none]) ?_ ?_
 ·intro m hm hP
  have hs2:=lsum_mem Ty.size (List.getElem_mem hm)
  repeat'(first|refine M.gw ?_|refine M.c2 (ih _ ?_ ?_) ?_|exact M.le|exact M.lt|fail)
  exact⟨rfl,trivial,(M.W [some 0,some 1,some 2,some 5] (he:=(by(repeat'(first|exact trivial|exact Or.inr ⟨_,U,rfl⟩|refine And.intro ?_ ?_|refine⟨_,U,_,U,_,U,?_⟩|exact VLe.refl _|exact VLe.of_eq (by simp[Sto.upd,List.take_append_getElem])));done)))⟩
 ·intro hP
  repeat'(first|refine M.gw ?_|fail)
  simp[tupV,V.wk,V.wks,constV,Ty.view,Tm.view]
theorem typeNodes_c:∀(b:Nat) (t:Ty),t.size≤b→b<1099511627776→PC E 131 [.agg t.view] (nodesT t):=by
 intro b
 induction b with
 |zero=>intro t h;have:=t.size_pos;omega
 |succ b ih=>
 intro t hsz hb
 have hsz':=Ty.size_eq t
 have hlen:=lsum_len Ty.size Ty.size_pos t.args
 have hsh:=Ty.shape_eq t
 refine M.F Tryz.func131 ?_
 repeat'(first|refine M.gw ?_|fail)
 refine AW.cutT (ι:={n:Nat // arT t.kind=some n}) (fun n=>([(1,.ptr 0 0),(4,.i n.1)],⟨1,[(0,.var t.view)]⟩)) ?_ ?_
 ·refine AW.block ?_
  repeat'(first|refine M.gw ?_|refine M.cs ?_ ?_<;>intro h|fail)
  ·exact ⟨⟨0,by simp at h;simp[arT,h]⟩,(M.W [some 0])⟩
  ·exact ⟨⟨0,by simp at h;simp[arT,h]⟩,(M.W [some 0])⟩
  ·exact ⟨⟨0,by simp at h;simp[arT,h]⟩,(M.W [some 0])⟩
  ·exact ⟨⟨2,by simp at h;simp[arT,h]⟩,(M.W [some 0])⟩
  ·exact ⟨⟨2,by simp at h;simp[arT,h]⟩,(M.W [some 0])⟩
  ·have:t.shape=false:=by simp at*;simp[hsh,arT, *]
   simp[nodesT,Ty.nodes,this,tupV,constV,V.wk,V.wks]
 rintro⟨n,hn⟩
 repeat'(first|refine M.gw ?_|refine M.cs ?_ ?_<;>intro h|fail)
 ·have h1:¬t.args.length=n:=by simp at h;omega
  have:t.shape=false:=by simp[hsh,hn,h1]
  simp[nodesT,Ty.nodes,this,tupV,constV,V.wk,V.wks]
 have hn':t.args.length=n:=by simp at h;omega
 refine AW.range t.args.length (fun m=>∀j (hj:j<t.args.length),j<m→(t.args[j]).shape=true)
  (fun m=>([(1,.ptr 0 0),(5,.i (1+((t.args.take m).map Ty.size).sum)),(25,.s .ty t.args),(26,.i t.args.length),(27,.i m)],⟨1,[(0,.var t.view)]⟩))
  (by omega) (fun m=>rfl) (fun m=>rfl) rfl (by intro j hj h;omega) (M.W [some 0]) ?_ ?_
 ·intro m hm hP
  have hs1:=lsum_take Ty.size t.args m hm
  have hs2:=lsum_mem Ty.size (List.getElem_mem hm)
  have hs3:=lsum_take_le Ty.size t.args (m+1)
  have hs4:=Ty.nodes_le t.args[m]
  repeat'(first|refine M.gw ?_|refine M.c2 (ih _ ?_ ?_) ?_|refine M.cs ?_ ?_<;>intro h|exact M.le|exact M.lt|fail)
  ·have h1:(t.args[m]).shape=false:=by simpa using h
   have:t.shape=false:=by rw[hsh,all_not Ty.shape hm h1,Bool.and_false]
   simp[nodesT,Ty.nodes,this,tupV,constV,V.wk,V.wks]
  ·have hh:(t.args[m]).shape=true:=by simpa using h
   refine⟨rfl,all_step (p:=fun t=>Ty.shape t=true) hm hP hh,?_⟩
   have e:(1+((((t.args.take (m+1)).map Ty.size).sum:Nat):Int))=1+(((t.args.take m).map Ty.size).sum:Nat)+t.args[m].nodes:=by simp only[Ty.nodes,hh,hs1];simp;omega
   simp only[e]
   exact(M.W [some 0])
 ·intro hP
  have:t.shape=true:=by simp only[hsh,hn,hn',all_of Ty.shape t.args fun j hj=>hP j hj hj];simp
  repeat'(first|refine M.gw ?_|fail)
  simp[nodesT,Ty.nodes,this,tupV,constV,hsz',V.wk,V.wks]
end Go.Ab
namespace Go.Ab
open Go Go.Proofs
set_option maxRecDepth 100000
set_option maxHeartbeats 4000000
set_option linter.all false
theorem gszs_take(l:List Tm)(m:Nat)(hm:m<l.length):Tm.gszs (l.take (m+1))=Tm.gszs (l.take m)+(l[m]).gsz:=by
 rw[(gszs_eq _).1,(gszs_eq _).1,gsz_eq,lsum_take Tm.size l m hm]
theorem gszs_le(l:List Tm)(m:Nat):Tm.gszs (l.take m)≤Tm.gszs l:=by
 rw[(gszs_eq _).1,(gszs_eq _).1];exact lsum_take_le Tm.size l m
theorem gbuild_c(k i:Int)(th:Ty)(xs:List Tm)(hz:Tm.gszs xs<1099511627776)(hf:∀x∈xs,0≤x.gfr∧x.gfr≤1099511627776)(hi: -1099511627776<i∧i<1099511627776):PC E 149 [.i k,.i i,.agg th.view,.s .nd xs] (.nd (.mk k i th xs) 0):=by
 have hl:xs.length≤Tm.gszs xs:=by rw[(gszs_eq _).1];exact lsum_len Tm.size Tm.size_pos xs
 have hg0:∀m,0≤Tm.gfrs (xs.take m) 0∧Tm.gfrs (xs.take m) 0≤1099511627776:=fun m=>
  ⟨(gfrs_ge _ 0).1,gfrs_le _ 0 (by omega) fun x hx=>(hf x (List.mem_of_mem_take hx)).2⟩
 refine AC.mk Tryz.func149 rfl rfl rfl rfl rfl (Nat.le_of_ble_eq_true rfl) ?_
 repeat'(first|((with_reducible refine D.nil ?_);refine AX.nilL ?_)|((with_reducible refine D.load ?_);refine L.ldb U U U U U U ?_)|((with_reducible refine D.move ?_);refine L.mv U U U ?_)|((with_reducible refine D.assign ?_);refine L.asg U U U ?_)|((with_reducible refine D.call ?_);refine L.lnt U U U U ?_)|((with_reducible refine D.box ?_);refine L.bx U U U U ?_)|((with_reducible refine D.ax ?_);refine L.bd U U U U U ?_)|((with_reducible refine D.aw ?_);first|refine K.sq (AW.regL ?_)|refine K.sq (K.sq ?_)|refine AW.regL ?_)|with_reducible refine K.tN ?_)
 refine AW.range xs.length (fun m=>True)
  (fun m=>([(0,.i k),(1,.i i),(9,.ptr 1 0),(18,.s .nd xs),(19,.i xs.length),(20,.i m)],⟨2,[(0,.var th.view),(1,.var [.i k,.i i,.i th.kind,.s .ty th.args,.s .nd xs,.i (1+(Tm.gszs (xs.take m):Int)),.i (Tm.gfrs (xs.take m) 0),.bool false])]⟩))
  (by omega) (fun m=>rfl) (fun m=>rfl) U trivial (Weak.mk [some 0,some 1] _ _ _ U U U U (by(repeat'(first|exact trivial|refine And.intro ?_ ?_|refine⟨_,U,_,U,?_⟩|exact VLe.refl _));done) (by(repeat'(first|exact trivial|refine And.intro ?_ ?_|refine⟨_,U,_,U,_,U,?_⟩|exact VLe.refl _));done)) ?_ ?_
 ·intro m hm hP
  have q1:=gszs_take xs m hm
  have q2:=gfrs_take xs 0 m hm
  have q3:=gszs_le xs (m+1)
  have q4:(1:Int)+(Tm.gszs (xs.take m):Int)+((xs[m]).gsz:Int)=1+(Tm.gszs (xs.take (m+1)):Int):=by omega
  have q5:(if Tm.gfrs (xs.take m) 0<(xs[m]).gfr then(xs[m]).gfr else Tm.gfrs (xs.take m) 0)=Tm.gfrs (xs.take (m+1)) 0:=by rw[q2];split<;>omega
  repeat'(first|((with_reducible refine D.nil ?_);first|refine AX.nilL ?_|refine AX.nilD (by kernel_rfl) ?_)|((with_reducible refine D.load ?_);first|refine L.nl U U U U U ?_|refine L.ldb U U U U U U ?_|refine L.lda U U U U U ?_)|((with_reducible refine D.move ?_);refine L.mv U U U ?_)|((with_reducible refine D.fieldAddr ?_);first|refine L.nf U U U U U ?_|refine L.fab U U U U U ?_)|((with_reducible refine D.assign ?_);refine L.asg U U U ?_)|((with_reducible refine D.bin ?_);refine L.ad U U U U (by omega) ?_)|((with_reducible refine D.call ?_);refine L.mx U U U U ?_)|((with_reducible refine D.store ?_);refine L.st U U U U U U U U U ?_)|((with_reducible refine D.indexAddr ?_);refine L.ixt _ U U U U U U U (by first|assumption|fail) ?_)|((with_reducible refine D.ax ?_);first|refine L.nn U U U ?_|refine L.nc U U U U ?_)|((with_reducible refine D.aw ?_);first|refine K.sq (AW.regL ?_)|refine K.sq (AW.regD mixed (by kernel_rfl) ?_)|refine AW.regD mixed (by kernel_rfl) ?_)|with_reducible refine K.tN ?_|with_reducible refine K.bN ?_)
  exact⟨rfl,trivial,(Weak.mk [some 0,some 1] _ _ _ U U U U (by(repeat'(first|exact trivial|refine And.intro ?_ ?_|refine⟨_,U,_,U,?_⟩|exact VLe.refl _));done) (by(repeat'(first|exact trivial|refine And.intro ?_ ?_|refine⟨_,U,_,U,_,U,?_⟩|exact VLe.refl _|exact VLe.of_eq (by simp[Sto.upd,q4,q5])));done))⟩
 ·intro hP
  have hlen:xs.take xs.length=xs:=List.take_length
  rw[hlen]
  have hgl:=hg0 xs.length
  rw[hlen] at hgl
  repeat'(first|((with_reducible refine D.nil ?_);refine AX.nilL ?_)|((with_reducible refine D.load ?_);refine L.ldb U U U U U U ?_)|((with_reducible refine D.move ?_);refine L.mv U U U ?_)|((with_reducible refine D.fieldAddr ?_);refine L.fab U U U U U ?_)|((with_reducible refine D.assign ?_);refine L.asg U U U ?_)|((with_reducible refine D.bin ?_);first|refine L.ad U U U U (by omega) ?_|refine L.sb U U U U (by omega) ?_|refine L.bn U U U U U ?_)|((with_reducible refine D.call ?_);refine L.mx U U U U ?_)|((with_reducible refine D.store ?_);refine L.st U U U U U U U U U ?_)|((with_reducible refine D.ax ?_);refine L.nc U U U U ?_)|((with_reducible refine D.aw ?_);(fail_if_success with_reducible refine D.stopR (id:=13) ?_);(fail_if_success with_reducible refine D.stopS (id:=13) ?_);first|((with_reducible refine D.blk ?_);refine AW.block ?_)|refine K.sq (AW.regL ?_)|refine K.sq (K.sq ?_)|refine AW.regL ?_|refine AW.condS U (fun h=> ?_) (fun h=> ?_)|refine AW.skip ?_)|with_reducible refine K.tN ?_|with_reducible refine K.bN ?_)
  all_goals have e1:((Tm.mk k i th xs).gsz:Int)=1+(Tm.gszs xs:Int):=by simp only[Tm.gsz];omega
  ·have hk:k=1:=by simpa using h
   have e2:(Tm.mk k i th xs).gfr=i+1:=by simp only[Tm.gfr,hk,if_true]
   refine AW.node 1 9 (.mk k i th xs) (by simp only[Tm.nview,e1,e2];rfl) rfl ?_
   repeat'(first|((with_reducible refine D.nil ?_);refine AX.nilL ?_)|((with_reducible refine D.move ?_);refine L.mv U U U ?_)|((with_reducible refine D.assign ?_);refine L.asg U U U ?_)|((with_reducible refine D.aw ?_);first|refine K.sq (AW.regL ?_)|refine AW.ret ?_)|with_reducible refine K.tN ?_|with_reducible refine K.r1 (by with_unfolding_all rfl) (by with_unfolding_all rfl) ?_)
   simp[tupV,V.wk,V.wks,constV,Ty.view,Tm.view]
  ·rename_i h1
   have hk:¬k=1:=by simpa using h1
   have hk2:k=2:=by simpa using h
   have e2:(Tm.mk k i th xs).gfr=if 0<Tm.gfrs xs 0-1 then Tm.gfrs xs 0-1 else 0:=by simp only[Tm.gfr];rw[if_neg hk,if_pos hk2];split<;>omega
   refine AW.node 1 9 (.mk k i th xs) (by simp only[Tm.nview,e1,e2];rfl) rfl ?_
   repeat'(first|((with_reducible refine D.nil ?_);refine AX.nilL ?_)|((with_reducible refine D.move ?_);refine L.mv U U U ?_)|((with_reducible refine D.assign ?_);refine L.asg U U U ?_)|((with_reducible refine D.aw ?_);first|refine K.sq (AW.regL ?_)|refine AW.ret ?_)|with_reducible refine K.tN ?_|with_reducible refine K.r1 (by with_unfolding_all rfl) (by with_unfolding_all rfl) ?_)
   simp[tupV,V.wk,V.wks,constV,Ty.view,Tm.view]
  ·rename_i h1
   have hk:¬k=1:=by simpa using h1
   have hk2:¬k=2:=by simpa using h
   have e2:(Tm.mk k i th xs).gfr=Tm.gfrs xs 0:=by simp only[Tm.gfr];rw[if_neg hk,if_neg hk2]
   refine AW.node 1 9 (.mk k i th xs) (by simp only[Tm.nview,e1,e2];rfl) rfl ?_
   repeat'(first|((with_reducible refine D.nil ?_);refine AX.nilL ?_)|((with_reducible refine D.move ?_);refine L.mv U U U ?_)|((with_reducible refine D.assign ?_);refine L.asg U U U ?_)|((with_reducible refine D.aw ?_);first|refine K.sq (AW.regL ?_)|refine AW.ret ?_)|with_reducible refine K.tN ?_|with_reducible refine K.r1 (by with_unfolding_all rfl) (by with_unfolding_all rfl) ?_)
   simp[tupV,V.wk,V.wks,constV,Ty.view,Tm.view]
theorem gbuild_t{k i:Int}{th:Ty}{xs:List Tm}(hs:∀x∈xs,x.shape=true)(hz:(Tm.mk k i th xs).size<1099511627776)(b:Int)(hx:∀p∈(Tm.mk k i th xs).vars b,p.1<549755813888)(hi:0≤i∧i<549755813888):
 PC E 149 [.i k,.i i,.agg th.view,.s .nd xs] (.nd (.mk k i th xs) 0):=by
 have h1:=Tm.size_eq (.mk k i th xs)
 rw[Tm.args_mk] at h1
 refine gbuild_c k i th xs (by rw[(gszs_eq xs).1];omega) (fun x hx'=>⟨gfr_pos x (hs x hx'),?_⟩) (by omega)
 have:=gfr_bd (B:=549755813888) (by omega) x (up k b) fun p hp=>hx p (by rw[Tm.vars_eq];exact List.mem_append_right _ (List.mem_flatMap.2 ⟨x,hx',hp⟩))
 omega
theorem gsize_c(t:Tm):PC E 151 [.nd t 0] (.i t.gsz):=by
 refine AC.mk Tryz.func151 rfl rfl rfl rfl rfl (Nat.le_of_ble_eq_true rfl) ?_
 repeat'(first|((with_reducible refine D.nil ?_);refine AX.nilL ?_)|((with_reducible refine D.load ?_);refine L.nl U U U U U ?_)|((with_reducible refine D.move ?_);refine L.mv U U U ?_)|((with_reducible refine D.fieldAddr ?_);refine L.nf U U U U U ?_)|((with_reducible refine D.assign ?_);refine L.asg U U U ?_)|((with_reducible refine D.ax ?_);refine L.nn U U U ?_)|((with_reducible refine D.aw ?_);first|refine K.sq (AW.regL ?_)|refine AW.ret ?_)|with_reducible refine K.tN ?_|with_reducible refine K.r1 (by with_unfolding_all rfl) (by with_unfolding_all rfl) ?_)
 simp[tupV,V.wk,V.wks,constV,Ty.view,Tm.view]
theorem gwith_c{t:Tm}{xs:List Tm}(hc:PC E 149 [.i t.kind,.i t.index,.agg t.ty.view,.s .nd xs] (.nd (.mk t.kind t.index t.ty xs) 0)):PC E 163 [.nd t 0,.s .nd xs] (.nd (.mk t.kind t.index t.ty xs) 0):=by
 refine AC.mk Tryz.func163 rfl rfl rfl rfl rfl (Nat.le_of_ble_eq_true rfl) ?_
 repeat'(first|((with_reducible refine D.nil ?_);first|refine AX.nilL ?_|refine AX.nilD (by kernel_rfl) ?_)|((with_reducible refine D.load ?_);refine L.nl U U U U U ?_)|((with_reducible refine D.move ?_);refine L.mv U U U ?_)|((with_reducible refine D.fieldAddr ?_);refine L.nf U U U U U ?_)|((with_reducible refine D.assign ?_);refine L.asg U U U ?_)|((with_reducible refine D.call ?_);refine L.c2 (hc) U U U U ?_)|((with_reducible refine D.ax ?_);refine L.nn U U U ?_)|((with_reducible refine D.aw ?_);first|refine K.sq (AW.regL ?_)|refine K.sq (AW.regD mixed (by kernel_rfl) ?_)|refine AW.ret ?_)|with_reducible refine K.tN ?_|with_reducible refine K.r1 (by with_unfolding_all rfl) (by with_unfolding_all rfl) ?_)
 all_goals simp[tupV,V.wk,V.wks,constV,Ty.view,Tm.view]
theorem gbelow_c(t:Tm):PC E 175 [.nd t 0] (.i (up t.kind 0)):=by
 refine AC.mk Tryz.func175 rfl rfl rfl rfl rfl (Nat.le_of_ble_eq_true rfl) ?_
 repeat'(first|((with_reducible refine D.nil ?_);refine AX.nilL ?_)|((with_reducible refine D.load ?_);refine L.nl U U U U U ?_)|((with_reducible refine D.move ?_);refine L.mv U U U ?_)|((with_reducible refine D.fieldAddr ?_);refine L.nf U U U U U ?_)|((with_reducible refine D.assign ?_);refine L.asg U U U ?_)|((with_reducible refine D.bin ?_);refine L.bn U U U U U ?_)|((with_reducible refine D.ax ?_);refine L.nn U U U ?_)|((with_reducible refine D.aw ?_);first|refine K.sq (AW.regL ?_)|refine K.sq (K.sq ?_)|refine AW.regL ?_|refine AW.condS U (fun h=> ?_) (fun h=> ?_)|refine AW.skip ?_|refine AW.ret ?_)|with_reducible refine K.tN ?_|with_reducible refine K.tR ?_|with_reducible refine K.r1 (by with_unfolding_all rfl) (by with_unfolding_all rfl) ?_)
 ·have hk:t.kind=2:=by simpa using h
  simp[tupV,V.wk,V.wks,constV,up,hk]
 ·have hk:¬t.kind=2:=by simpa using h
  simp[tupV,V.wk,V.wks,constV,up,hk]
theorem gredex_c(t:Tm)(hs:t.shape=true):PC E 152 [.nd t 0] (.bool (rootT t)):=by
 by_cases k3:t.kind=3
 ·obtain ⟨i,th,f,a,rfl,hf,ha⟩:=mkArgs2 hs k3 rfl
  refine AC.mk Tryz.func152 rfl rfl rfl rfl rfl (Nat.le_of_ble_eq_true rfl) ?_
  repeat'(first|((with_reducible refine D.nil ?_);refine AX.nilL ?_)|((with_reducible refine D.load ?_);first|refine L.nl U U U U U ?_|refine L.lda U U U U U ?_)|((with_reducible refine D.move ?_);refine L.mv U U U ?_)|((with_reducible refine D.fieldAddr ?_);refine L.nf U U U U U ?_)|((with_reducible refine D.assign ?_);refine L.asg U U U ?_)|((with_reducible refine D.bin ?_);refine L.bn U U U U U ?_)|((with_reducible refine D.indexAddr ?_);refine L.ixt _ U U U U U U U (by first|(simp only[Ty.args_mk,Tm.args_mk,List.length_cons,List.length_nil,List.getElem_cons_zero,List.getElem_cons_succ];omega)|fail) ?_)|((with_reducible refine D.ax ?_);refine L.nn U U U ?_)|((with_reducible refine D.aw ?_);first|((with_reducible refine D.blk ?_);refine AW.block ?_)|refine K.sq (AW.regL ?_)|refine K.sq (K.sq ?_)|refine AW.regL ?_|refine AW.condT U ?_|refine AW.ret ?_)|with_reducible refine K.tN ?_|with_reducible refine K.tR ?_|with_reducible refine K.bR ?_|with_reducible refine K.r1 (by with_unfolding_all rfl) (by with_unfolding_all rfl) ?_)
  rfl
 ·by_cases k6:t.kind=6
  ·obtain ⟨i,th,x,y,z,rfl,_,_,_⟩:=mkArgs3 hs k6 rfl
   by_cases h4:z.kind=4
   ·have e:rootT (.mk 6 i th [x,y,z])=true:=by simp[rootT,Tm.arg,h4]
    rw[e]
    refine AC.mk Tryz.func152 rfl rfl rfl rfl rfl (Nat.le_of_ble_eq_true rfl) ?_
    repeat'(first|((with_reducible refine D.nil ?_);refine AX.nilL ?_)|((with_reducible refine D.load ?_);first|refine L.nl U U U U U ?_|refine L.lda U U U U U ?_|refine AX.sk U U ?_)|((with_reducible refine D.move ?_);first|refine L.mv U U U ?_|refine AX.sk U U ?_|((fail_if_success refine AX.wt U ?_);refine AX.gs U U (fun _=>trivial) (fun h=> ?_) (fun h=> ?_)))|((with_reducible refine D.fieldAddr ?_);first|refine L.nf U U U U U ?_|refine AX.sk U U ?_)|((with_reducible refine D.assign ?_);refine L.asg U U U ?_)|((with_reducible refine D.bin ?_);first|refine L.bn U U U U U ?_|refine AX.sk U U ?_)|((with_reducible refine D.indexAddr ?_);first|refine L.ixt _ U U U U U U U (by first|(simp only[Ty.args_mk,Tm.args_mk,List.length_cons,List.length_nil,List.getElem_cons_zero,List.getElem_cons_succ];omega)|fail) ?_|refine AX.sk U U ?_)|((with_reducible refine D.pick ?_);refine L.pk U U U U ?_)|((with_reducible refine D.ax ?_);first|refine L.nn U U U ?_|refine AX.sk U U ?_)|((with_reducible refine D.aw ?_);first|((with_reducible refine D.blk ?_);refine AW.block ?_)|refine K.sq (AW.regL ?_)|refine K.sq (K.sq ?_)|refine AW.regL ?_|refine AW.condT U ?_|refine AW.condF U ?_|refine AW.ret ?_)|with_reducible refine K.tN ?_|with_reducible refine K.tR ?_|with_reducible refine K.bR ?_|with_reducible refine K.r1 (by with_unfolding_all rfl) (by with_unfolding_all rfl) ?_)
    all_goals first
     |rfl
     |(exfalso;simp_all;done)
   ·have e:rootT (.mk 6 i th [x,y,z])=(z.kind==5):=by simp[rootT,Tm.arg,h4]
    rw[e]
    refine AC.mk Tryz.func152 rfl rfl rfl rfl rfl (Nat.le_of_ble_eq_true rfl) ?_
    repeat'(first|((with_reducible refine D.nil ?_);refine AX.nilL ?_)|((with_reducible refine D.load ?_);first|refine L.nl U U U U U ?_|refine L.lda U U U U U ?_|refine AX.sk U U ?_)|((with_reducible refine D.move ?_);first|refine L.mv U U U ?_|refine AX.sk U U ?_|((fail_if_success refine AX.wt U ?_);refine AX.gs U U (fun _=>trivial) (fun h=> ?_) (fun h=> ?_)))|((with_reducible refine D.fieldAddr ?_);first|refine L.nf U U U U U ?_|refine AX.sk U U ?_)|((with_reducible refine D.assign ?_);refine L.asg U U U ?_)|((with_reducible refine D.bin ?_);first|refine L.bn U U U U U ?_|refine AX.sk U U ?_)|((with_reducible refine D.indexAddr ?_);first|refine L.ixt _ U U U U U U U (by first|(simp only[Ty.args_mk,Tm.args_mk,List.length_cons,List.length_nil,List.getElem_cons_zero,List.getElem_cons_succ];omega)|(simp at*;omega)|fail) ?_|refine AX.sk U U ?_)|((with_reducible refine D.pick ?_);refine L.pk U U U U ?_)|((with_reducible refine D.ax ?_);first|refine L.nn U U U ?_|refine AX.sk U U ?_)|((with_reducible refine D.aw ?_);first|((with_reducible refine D.blk ?_);refine AW.block ?_)|refine K.sq (AW.regL ?_)|refine K.sq (K.sq ?_)|refine AW.regL ?_|refine AW.condT U ?_|refine AW.condF U ?_|refine AW.ret ?_)|with_reducible refine K.tN ?_|with_reducible refine K.tR ?_|with_reducible refine K.bR ?_|with_reducible refine K.r1 (by with_unfolding_all rfl) (by with_unfolding_all rfl) ?_)
    all_goals first
     |rfl
     |(exfalso;simp_all;done)
  ·by_cases k9:t.kind=9
   ·obtain ⟨i,th,x,y,z,rfl,_,_,_⟩:=mkArgs3 hs k9 rfl
    by_cases h4:z.kind=7
    ·have e:rootT (.mk 9 i th [x,y,z])=true:=by simp[rootT,Tm.arg,h4]
     rw[e]
     refine AC.mk Tryz.func152 rfl rfl rfl rfl rfl (Nat.le_of_ble_eq_true rfl) ?_
     repeat'(first|((with_reducible refine D.nil ?_);refine AX.nilL ?_)|((with_reducible refine D.load ?_);first|refine L.nl U U U U U ?_|refine L.lda U U U U U ?_|refine AX.sk U U ?_)|((with_reducible refine D.move ?_);first|refine L.mv U U U ?_|refine AX.sk U U ?_|((fail_if_success refine AX.wt U ?_);refine AX.gs U U (fun _=>trivial) (fun h=> ?_) (fun h=> ?_)))|((with_reducible refine D.fieldAddr ?_);first|refine L.nf U U U U U ?_|refine AX.sk U U ?_)|((with_reducible refine D.assign ?_);refine L.asg U U U ?_)|((with_reducible refine D.bin ?_);first|refine L.bn U U U U U ?_|refine AX.sk U U ?_)|((with_reducible refine D.indexAddr ?_);first|refine L.ixt _ U U U U U U U (by first|(simp only[Ty.args_mk,Tm.args_mk,List.length_cons,List.length_nil,List.getElem_cons_zero,List.getElem_cons_succ];omega)|fail) ?_|refine AX.sk U U ?_)|((with_reducible refine D.pick ?_);refine L.pk U U U U ?_)|((with_reducible refine D.ax ?_);first|refine L.nn U U U ?_|refine AX.sk U U ?_)|((with_reducible refine D.aw ?_);first|((with_reducible refine D.blk ?_);refine AW.block ?_)|refine K.sq (AW.regL ?_)|refine K.sq (K.sq ?_)|refine AW.regL ?_|refine AW.condT U ?_|refine AW.condF U ?_|refine AW.ret ?_)|with_reducible refine K.tN ?_|with_reducible refine K.tR ?_|with_reducible refine K.bR ?_|with_reducible refine K.r1 (by with_unfolding_all rfl) (by with_unfolding_all rfl) ?_)
     all_goals first
      |rfl
      |(exfalso;simp_all;done)
    ·have e:rootT (.mk 9 i th [x,y,z])=(z.kind==8):=by simp[rootT,Tm.arg,h4]
     rw[e]
     refine AC.mk Tryz.func152 rfl rfl rfl rfl rfl (Nat.le_of_ble_eq_true rfl) ?_
     repeat'(first|((with_reducible refine D.nil ?_);refine AX.nilL ?_)|((with_reducible refine D.load ?_);first|refine L.nl U U U U U ?_|refine L.lda U U U U U ?_|refine AX.sk U U ?_)|((with_reducible refine D.move ?_);first|refine L.mv U U U ?_|refine AX.sk U U ?_|((fail_if_success refine AX.wt U ?_);refine AX.gs U U (fun _=>trivial) (fun h=> ?_) (fun h=> ?_)))|((with_reducible refine D.fieldAddr ?_);first|refine L.nf U U U U U ?_|refine AX.sk U U ?_)|((with_reducible refine D.assign ?_);refine L.asg U U U ?_)|((with_reducible refine D.bin ?_);first|refine L.bn U U U U U ?_|refine AX.sk U U ?_)|((with_reducible refine D.indexAddr ?_);first|refine L.ixt _ U U U U U U U (by first|(simp only[Ty.args_mk,Tm.args_mk,List.length_cons,List.length_nil,List.getElem_cons_zero,List.getElem_cons_succ];omega)|(simp at*;omega)|fail) ?_|refine AX.sk U U ?_)|((with_reducible refine D.pick ?_);refine L.pk U U U U ?_)|((with_reducible refine D.ax ?_);first|refine L.nn U U U ?_|refine AX.sk U U ?_)|((with_reducible refine D.aw ?_);first|((with_reducible refine D.blk ?_);refine AW.block ?_)|refine K.sq (AW.regL ?_)|refine K.sq (K.sq ?_)|refine AW.regL ?_|refine AW.condT U ?_|refine AW.condF U ?_|refine AW.ret ?_)|with_reducible refine K.tN ?_|with_reducible refine K.tR ?_|with_reducible refine K.bR ?_|with_reducible refine K.r1 (by with_unfolding_all rfl) (by with_unfolding_all rfl) ?_)
     all_goals first
      |rfl
      |(exfalso;simp_all;done)
   ·by_cases k11:t.kind=11
    ·obtain ⟨i,th,x,rfl,_⟩:=mkArgs1 hs k11 rfl
     refine AC.mk Tryz.func152 rfl rfl rfl rfl rfl (Nat.le_of_ble_eq_true rfl) ?_
     repeat'(first|((with_reducible refine D.nil ?_);refine AX.nilL ?_)|((with_reducible refine D.load ?_);first|refine L.nl U U U U U ?_|refine L.lda U U U U U ?_)|((with_reducible refine D.move ?_);refine L.mv U U U ?_)|((with_reducible refine D.fieldAddr ?_);refine L.nf U U U U U ?_)|((with_reducible refine D.assign ?_);refine L.asg U U U ?_)|((with_reducible refine D.bin ?_);refine L.bn U U U U U ?_)|((with_reducible refine D.indexAddr ?_);refine L.ixt _ U U U U U U U (by first|(simp only[Ty.args_mk,Tm.args_mk,List.length_cons,List.length_nil,List.getElem_cons_zero,List.getElem_cons_succ];omega)|fail) ?_)|((with_reducible refine D.ax ?_);refine L.nn U U U ?_)|((with_reducible refine D.aw ?_);first|((with_reducible refine D.blk ?_);refine AW.block ?_)|refine K.sq (AW.regL ?_)|refine K.sq (K.sq ?_)|refine AW.regL ?_|refine AW.condT U ?_|refine AW.condF U ?_|refine AW.skip ?_|refine AW.ret ?_)|with_reducible refine K.tN ?_|with_reducible refine K.tR ?_|with_reducible refine K.bR ?_|with_reducible refine K.r1 (by with_unfolding_all rfl) (by with_unfolding_all rfl) ?_)
     rfl
    ·by_cases k12:t.kind=12
     ·obtain ⟨i,th,x,rfl,_⟩:=mkArgs1 hs k12 rfl
      refine AC.mk Tryz.func152 rfl rfl rfl rfl rfl (Nat.le_of_ble_eq_true rfl) ?_
      repeat'(first|((with_reducible refine D.nil ?_);refine AX.nilL ?_)|((with_reducible refine D.load ?_);first|refine L.nl U U U U U ?_|refine L.lda U U U U U ?_)|((with_reducible refine D.move ?_);refine L.mv U U U ?_)|((with_reducible refine D.fieldAddr ?_);refine L.nf U U U U U ?_)|((with_reducible refine D.assign ?_);refine L.asg U U U ?_)|((with_reducible refine D.bin ?_);refine L.bn U U U U U ?_)|((with_reducible refine D.indexAddr ?_);refine L.ixt _ U U U U U U U (by first|(simp only[Ty.args_mk,Tm.args_mk,List.length_cons,List.length_nil,List.getElem_cons_zero,List.getElem_cons_succ];omega)|fail) ?_)|((with_reducible refine D.ax ?_);refine L.nn U U U ?_)|((with_reducible refine D.aw ?_);first|((with_reducible refine D.blk ?_);refine AW.block ?_)|refine K.sq (AW.regL ?_)|refine K.sq (K.sq ?_)|refine AW.regL ?_|refine AW.condT U ?_|refine AW.condF U ?_|refine AW.ret ?_)|with_reducible refine K.tN ?_|with_reducible refine K.tR ?_|with_reducible refine K.bR ?_|with_reducible refine K.r1 (by with_unfolding_all rfl) (by with_unfolding_all rfl) ?_)
      rfl
     ·have e:rootT t=false:=by simp[rootT,k3,k6,k9,k11,k12]
      rw[e]
      have b3:¬(t.kind==3)=true:=by simpa using k3
      have b6:¬(t.kind==6)=true:=by simpa using k6
      have b9:¬(t.kind==9)=true:=by simpa using k9
      have b11:¬(t.kind==11)=true:=by simpa using k11
      have b12:¬(t.kind==12)=true:=by simpa using k12
      refine AC.mk Tryz.func152 rfl rfl rfl rfl rfl (Nat.le_of_ble_eq_true rfl) ?_
      repeat'(first|((with_reducible refine D.nil ?_);refine AX.nilL ?_)|((with_reducible refine D.load ?_);first|refine L.nl U U U U U ?_|refine L.lda U U U U U ?_|refine AX.sk U U ?_)|((with_reducible refine D.move ?_);first|refine L.mv U U U ?_|refine AX.sk U U ?_|((fail_if_success refine AX.wt U ?_);refine AX.gs U U (fun _=>trivial) (fun h=> ?_) (fun h=> ?_)))|((with_reducible refine D.fieldAddr ?_);first|refine L.nf U U U U U ?_|refine AX.sk U U ?_)|((with_reducible refine D.assign ?_);refine L.asg U U U ?_)|((with_reducible refine D.bin ?_);first|refine L.bn U U U U U ?_|refine AX.sk U U ?_)|((with_reducible refine D.indexAddr ?_);first|refine L.ixt _ U U U U U U U (by first|(simp at*;omega)|contradiction|fail) ?_|refine AX.sk U U ?_)|((with_reducible refine D.pick ?_);refine L.pk U U U U ?_)|((with_reducible refine D.ax ?_);first|refine L.nn U U U ?_|refine AX.sk U U ?_)|((with_reducible refine D.aw ?_);first|((with_reducible refine D.blk ?_);refine AW.block ?_)|refine K.sq (AW.regL ?_)|refine K.sq (K.sq ?_)|refine AW.regL ?_|refine AW.condT U ?_|refine AW.condS U (fun h=> ?_) (fun h=> ?_)|refine AW.skip ?_|refine AW.ret ?_)|with_reducible refine K.tN ?_|with_reducible refine K.bN ?_|with_reducible refine K.tR ?_|with_reducible refine K.bR ?_|with_reducible refine K.r1 (by with_unfolding_all rfl) (by with_unfolding_all rfl) ?_)
      all_goals first
       |rfl
       |contradiction
theorem var_mk{t:Tm}(hs:t.shape=true)(hk:t.kind=1):∃i,t=vT i∧0≤i:=by
 obtain⟨i,th,rfl⟩:=mkArgs0 hs hk rfl
 have h1:=(shape_index hs).1
 have h2:=Tm.shape_eq (.mk 1 i th [])
 rw[hs] at h2
 simp[Tm.head,arK,typedK] at h2
 have h3:th= .mk 0 []:=Ty.no_of h2.2
 subst h3
 exact⟨i,rfl,h1⟩
theorem re_mk{t:Tm}(g:Int→Int→Tm)(b:Int)(hk:¬t.kind=1):t.re g b= .mk t.kind t.index t.ty (t.args.map (Tm.re g (up t.kind b))):=by rw[Tm.re_eq,if_neg hk]
theorem glift_c(fr by_:Int)(hby:0≤by_∧by_<68719476736)(hfr: -68719476736<fr∧fr<68719476736):∀(n:Nat) (t:Tm) (b:Int),t.size≤n→n<68719476736→0≤b→b+n<68719476736→t.shape=true→(∀p∈t.vars b,p.1<68719476736)→
 PC E 176 [.nd t 0,.i (fr+b),.i by_] (.nd (t.re (liftG fr by_) b) 0):=by
 intro n
 induction n with
 |zero=>intro t b h;have:=t.size_pos;omega
 |succ n ih=>
 intro t b hsz hn hb hbn hs hx
 have hsz':=Tm.size_eq t
 have hlen:=lsum_len Tm.size Tm.size_pos t.args
 by_cases hg:t.gfr≤fr+b
 ·rw [lift_gfr hs hg]
  refine AC.mk Tryz.func176 rfl rfl rfl rfl rfl (Nat.le_of_ble_eq_true rfl) ?_
  repeat'(first|((with_reducible refine D.nil ?_);refine AX.nilL ?_)|((with_reducible refine D.load ?_);refine L.nl U U U U U ?_)|((with_reducible refine D.move ?_);first|refine L.mv U U U ?_|refine AX.sk U U ?_|((fail_if_success refine AX.wt U ?_);refine AX.gs U U (fun _=>trivial) (fun h=> ?_) (fun h=> ?_)))|((with_reducible refine D.fieldAddr ?_);refine L.nf U U U U U ?_)|((with_reducible refine D.assign ?_);refine L.asg U U U ?_)|((with_reducible refine D.bin ?_);first|refine L.bn U U U U U ?_|refine AX.sk U U ?_)|((with_reducible refine D.call ?_);refine L.lnt U U U U ?_)|((with_reducible refine D.pick ?_);refine L.pk U U U U ?_)|((with_reducible refine D.ax ?_);refine L.nn U U U ?_)|((with_reducible refine D.aw ?_);first|refine K.sq (AW.regL ?_)|refine K.sq (AW.regD mixed (by kernel_rfl) ?_)|refine K.sq (K.sq ?_)|refine AW.regL ?_|refine AW.condT U ?_|refine AW.condS U (fun h=> ?_) (fun h=> ?_)|refine AW.skip ?_|refine AW.ret ?_)|with_reducible refine K.tN ?_|with_reducible refine K.tR ?_|with_reducible refine K.r1 (by with_unfolding_all rfl) (by with_unfolding_all rfl) ?_)
  all_goals first
   |rfl
   |(exfalso;simp at*;omega)
 by_cases hb0:by_=0
 ·have e:t.re (liftG fr by_) b=t:=re_id t b hs fun p hp=>by
   simp only[liftG,vT,hb0,Int.add_zero,ite_self]
  rw[e]
  refine AC.mk Tryz.func176 rfl rfl rfl rfl rfl (Nat.le_of_ble_eq_true rfl) ?_
  repeat'(first|((with_reducible refine D.nil ?_);refine AX.nilL ?_)|((with_reducible refine D.load ?_);refine L.nl U U U U U ?_)|((with_reducible refine D.move ?_);first|refine L.mv U U U ?_|refine AX.sk U U ?_|((fail_if_success refine AX.wt U ?_);refine AX.gs U U (fun _=>trivial) (fun h=> ?_) (fun h=> ?_)))|((with_reducible refine D.fieldAddr ?_);refine L.nf U U U U U ?_)|((with_reducible refine D.assign ?_);refine L.asg U U U ?_)|((with_reducible refine D.bin ?_);first|refine L.bn U U U U U ?_|refine AX.sk U U ?_)|((with_reducible refine D.call ?_);refine L.lnt U U U U ?_)|((with_reducible refine D.pick ?_);refine L.pk U U U U ?_)|((with_reducible refine D.ax ?_);refine L.nn U U U ?_)|((with_reducible refine D.aw ?_);first|refine K.sq (AW.regL ?_)|refine K.sq (AW.regD mixed (by kernel_rfl) ?_)|refine K.sq (K.sq ?_)|refine AW.regL ?_|refine AW.condT U ?_|refine AW.condS U (fun h=> ?_) (fun h=> ?_)|refine AW.skip ?_|refine AW.ret ?_)|with_reducible refine K.tN ?_|with_reducible refine K.tR ?_|with_reducible refine K.r1 (by with_unfolding_all rfl) (by with_unfolding_all rfl) ?_)
  all_goals first
   |rfl
   |(exfalso;simp at*;omega)
 by_cases hk:t.kind=1
 ·obtain ⟨i,hti,hi⟩:=var_mk hs hk
  have h1:t.gfr=i+1:=by rw[hti,gfr_eq];rfl
  have hix:t.index=i:=by rw[hti];rfl
  have h2:t.re (liftG fr by_) b= .mk t.kind (t.index+by_) t.ty []:=by
   rw[Tm.re_eq,if_pos hk]
   simp only[liftG]
   rw[if_pos (by omega),hti]
   rfl
  have h3:i<68719476736:=hx (i,b) (by rw[hti,Tm.vars_eq];simp[vT,Tm.kind_mk,Tm.index_mk])
  have hc:=gbuild_t (k:=t.kind) (i:=t.index+by_) (th:=t.ty) (xs:=[]) (fun x hx=>by cases hx) (by simp[Tm.size,Tm.sizes]) 0 (fun p hp=>by simp[Tm.vars,Tm.varss] at hp;obtain⟨_,rfl⟩:=hp;show t.index+by_<_;omega) (by omega)
  rw[h2]
  refine AC.mk Tryz.func176 rfl rfl rfl rfl rfl (Nat.le_of_ble_eq_true rfl) ?_
  repeat'(first|((with_reducible refine D.nil ?_);first|refine AX.nilL ?_|refine AX.nilD (by kernel_rfl) ?_)|((with_reducible refine D.load ?_);refine L.nl U U U U U ?_)|((with_reducible refine D.move ?_);first|refine L.mv U U U ?_|refine AX.sk U U ?_|((fail_if_success refine AX.wt U ?_);refine AX.gs U U (fun _=>trivial) (fun h=> ?_) (fun h=> ?_)))|((with_reducible refine D.fieldAddr ?_);refine L.nf U U U U U ?_)|((with_reducible refine D.assign ?_);refine L.asg U U U ?_)|((with_reducible refine D.bin ?_);first|refine L.ad U U U U (by omega) ?_|refine L.bn U U U U U ?_|refine AX.sk U U ?_)|((with_reducible refine D.call ?_);first|refine L.lnt U U U U ?_|refine L.c2 (hc) U U U U ?_)|((with_reducible refine D.pick ?_);refine L.pk U U U U ?_)|((with_reducible refine D.ax ?_);refine L.nn U U U ?_)|((with_reducible refine D.aw ?_);first|refine K.sq (AW.regL ?_)|refine K.sq (AW.regD mixed (by kernel_rfl) ?_)|refine K.sq (K.sq ?_)|refine AW.regL ?_|refine AW.condT U ?_|refine AW.condS U (fun h=> ?_) (fun h=> ?_)|refine AW.skip ?_|refine AW.ret ?_)|with_reducible refine K.tN ?_|with_reducible refine K.tR ?_|with_reducible refine K.r1 (by with_unfolding_all rfl) (by with_unfolding_all rfl) ?_)
  all_goals first
   |rfl
   |(exfalso;simp at h;exact hg h)
   |(exfalso;simp at h;exact hb0 h)
   |(exfalso;simp at h;exact h hk)
 rw[re_mk _ _ hk]
 have hup:b≤up t.kind b∧up t.kind b≤b+1:=by simp only[up];split<;>omega
 have e0:fr+b+up t.kind 0=fr+up t.kind b:=by have:=up_add t.kind 0 b;rw[Int.zero_add] at this;omega
 have hbl:=gbelow_c t
 have hsub:∀x∈t.args,∀p∈x.vars (up t.kind b),p.1<68719476736:=fun x hx' p hp=>hx p (by rw[Tm.vars_eq];exact List.mem_append_right _ (List.mem_flatMap.2 ⟨x,hx',hp⟩))
 have hre:=re_mk (liftG fr by_) b hk
 have hw:=gwith_c (t:=t) (xs:=t.args.map (Tm.re (liftG fr by_) (up t.kind b))) (gbuild_t (fun x hx'=>by
  obtain⟨y,hy,rfl⟩:=List.mem_map.1 hx'
  exact lift_shape _ (shape_args hs y hy) hby.1) (by rw[←hre,lift_size _ _ _ _ hs];omega) b (fun p hp=>by
  rw[←hre,vars_re _ _ _ hs] at hp
  obtain⟨q,hq,hp⟩:=List.mem_flatMap.1 hp
  have:=hx q hq
  simp only[liftG,Tm.vars,Tm.varss,if_true,List.append_nil,List.mem_singleton] at hp
  subst hp
  have h9:(if q.1-q.2≥fr then q.1+by_ else q.1)<549755813888:=by split<;>omega
  exact h9) (by have:=shape_index hs;have:=this.2 hk;omega))
 refine AC.mk Tryz.func176 rfl rfl rfl rfl rfl (Nat.le_of_ble_eq_true rfl) ?_
 repeat'(first|((with_reducible refine D.nil ?_);refine AX.nilL ?_)|((with_reducible refine D.load ?_);refine L.nl U U U U U ?_)|((with_reducible refine D.move ?_);first|refine L.mv U U U ?_|refine AX.sk U U ?_|((fail_if_success refine AX.wt U ?_);refine AX.gs U U (fun _=>trivial) (fun h=> ?_) (fun h=> ?_)))|((with_reducible refine D.fieldAddr ?_);refine L.nf U U U U U ?_)|((with_reducible refine D.assign ?_);refine L.asg U U U ?_)|((with_reducible refine D.bin ?_);first|refine L.bn U U U U U ?_|refine AX.sk U U ?_)|((with_reducible refine D.call ?_);refine L.lnt U U U U ?_)|((with_reducible refine D.pick ?_);refine L.pk U U U U ?_)|((with_reducible refine D.ax ?_);refine L.nn U U U ?_)|((with_reducible refine D.aw ?_);first|refine K.sq (AW.regL ?_)|refine K.sq (AW.regD mixed (by kernel_rfl) ?_)|refine K.sq (K.sq ?_)|refine AW.regL ?_|refine AW.condT U ?_|refine AW.condS U (fun h=> ?_) (fun h=> ?_)|refine AW.skip ?_|refine AW.ret ?_)|with_reducible refine K.tN ?_|with_reducible refine K.tR ?_|with_reducible refine K.r1 (by with_unfolding_all rfl) (by with_unfolding_all rfl) ?_)
 all_goals first
  |(exfalso;simp at h;exact hg h)
  |(exfalso;simp at h;exact hb0 h)
  |(exfalso;simp at h;exact hk h)
  |skip
 refine AW.range t.args.length (fun m=>True)
  (fun m=>([(0,.nd t 0),(1,.i (fr+b)),(2,.i by_),(7,.slice (.own 0) (.t .nd ((t.args.take m).map (Tm.re (liftG fr by_) (up t.kind b))))),(44,.s .nd t.args),(45,.i t.args.length),(46,.i m)],⟨1,[(0,.row)]⟩))
  (by omega) (fun m=>rfl) (fun m=>rfl) U trivial (Weak.mk [none] _ _ _ U U U U (by(repeat'(first|exact trivial|refine And.intro ?_ ?_|refine⟨_,U,_,U,?_⟩|exact VLe.refl _));done) (by(repeat'(first|exact trivial|exact Or.inl U|refine And.intro ?_ ?_));done)) ?_ ?_
 ·intro m hm hP
  have hs2:=lsum_mem Tm.size (List.getElem_mem hm)
  have hc:=ih t.args[m] (up t.kind b) (by omega) (by omega) (by omega) (by omega) (shape_args hs _ (List.getElem_mem hm)) (hsub _ (List.getElem_mem hm))
  rw[←e0] at hc
  repeat'(first|((with_reducible refine D.nil ?_);refine AX.nilL ?_)|((with_reducible refine D.load ?_);refine L.lda U U U U U ?_)|((with_reducible refine D.move ?_);refine L.mv U U U ?_)|((with_reducible refine D.assign ?_);refine L.asg U U U ?_)|((with_reducible refine D.bin ?_);refine L.ad U U U U (by omega) ?_)|((with_reducible refine D.call ?_);first|refine L.apt U U U U U U (by first|exact trivial|exact⟨rfl,trivial⟩) U U (by first|omega|(simp;omega)) ?_|refine L.c2 (hbl) U U U U ?_|refine L.c2 (hc) U U U U ?_)|((with_reducible refine D.indexAddr ?_);refine L.ixt _ U U U U U U U (by first|assumption|fail) ?_)|((with_reducible refine D.ax ?_);refine L.bs1 U U U U U (EC.fold_of U) U U ?_)|((with_reducible refine D.aw ?_);first|refine K.sq (AW.regL ?_)|refine AW.regL ?_)|with_reducible refine K.tN ?_|with_reducible refine K.bN ?_)
  exact⟨rfl,trivial,(Weak.mk [some 1] _ _ _ U U U U (by(repeat'(first|exact trivial|refine And.intro ?_ ?_|refine⟨_,U,_,U,?_⟩|exact VLe.refl _|exact VLe.of_eq (by simp[Sto.upd,map_take _ _ _ hm])));done) (by(repeat'(first|exact trivial|exact Or.inr ⟨_,U,rfl⟩|refine And.intro ?_ ?_));done))⟩
 ·intro hP
  have hlt:t.args.take t.args.length=t.args:=List.take_length
  rw[hlt]
  repeat'(first|((with_reducible refine D.nil ?_);refine AX.nilL ?_)|((with_reducible refine D.move ?_);refine L.mv U U U ?_)|((with_reducible refine D.assign ?_);refine L.asg U U U ?_)|((with_reducible refine D.call ?_);refine L.c2 (hw) U U U U ?_)|((with_reducible refine D.aw ?_);first|refine K.sq (AW.regL ?_)|refine AW.ret ?_)|with_reducible refine K.tN ?_|with_reducible refine K.r1 (by with_unfolding_all rfl) (by with_unfolding_all rfl) ?_)
  all_goals simp[tupV,V.wk,V.wks,constV,Ty.view,Tm.view]
theorem gcount_c(at_:Int)(hat:0≤at_∧at_<68719476736):∀(n:Nat) (t:Tm) (b:Int),t.size≤n→n<68719476736→0≤b→b+n<68719476736→t.shape=true→
 PC E 169 [.nd t 0,.i (at_+b)] (.i (cnt at_ (t.vars b))):=by
 intro n
 induction n with
 |zero=>intro t b h;have:=t.size_pos;omega
 |succ n ih=>
 intro t b hsz hn hb hbn hs
 have hsz':=Tm.size_eq t
 have hlen:=lsum_len Tm.size Tm.size_pos t.args
 by_cases hg:t.gfr≤at_+b
 ·rw [cnt_gfr hs hg]
  refine AC.mk Tryz.func169 rfl rfl rfl rfl rfl (Nat.le_of_ble_eq_true rfl) ?_
  repeat'(first|((with_reducible refine D.nil ?_);refine AX.nilL ?_)|((with_reducible refine D.load ?_);refine L.nl U U U U U ?_)|((with_reducible refine D.move ?_);refine L.mv U U U ?_)|((with_reducible refine D.fieldAddr ?_);refine L.nf U U U U U ?_)|((with_reducible refine D.assign ?_);refine L.asg U U U ?_)|((with_reducible refine D.bin ?_);refine L.bn U U U U U ?_)|((with_reducible refine D.call ?_);refine L.lnt U U U U ?_)|((with_reducible refine D.ax ?_);refine L.nn U U U ?_)|((with_reducible refine D.aw ?_);first|refine K.sq (AW.regL ?_)|refine K.sq (K.sq ?_)|refine AW.regL ?_|refine AW.condS U (fun h=> ?_) (fun h=> ?_)|refine AW.skip ?_|refine AW.ret ?_)|with_reducible refine K.tN ?_|with_reducible refine K.tR ?_|with_reducible refine K.r1 (by with_unfolding_all rfl) (by with_unfolding_all rfl) ?_)
  all_goals first
   |rfl
   |(exfalso;simp at h;omega)
   |(exfalso;rename_i q;simp at q;omega)
   |(exfalso;rename_i q _;simp at q;omega)
 by_cases hk:t.kind=1
 ·obtain ⟨i,hti,hi⟩:=var_mk hs hk
  have hix:t.index=i:=by rw[hti];rfl
  have h2:cnt at_ (t.vars b)=if i-b=at_ then 1 else 0:=by rw[hti,vars_vT,cnt_one]
  rw[h2]
  refine AC.mk Tryz.func169 rfl rfl rfl rfl rfl (Nat.le_of_ble_eq_true rfl) ?_
  repeat'(first|((with_reducible refine D.nil ?_);refine AX.nilL ?_)|((with_reducible refine D.load ?_);refine L.nl U U U U U ?_)|((with_reducible refine D.move ?_);refine L.mv U U U ?_)|((with_reducible refine D.fieldAddr ?_);refine L.nf U U U U U ?_)|((with_reducible refine D.assign ?_);refine L.asg U U U ?_)|((with_reducible refine D.bin ?_);refine L.bn U U U U U ?_)|((with_reducible refine D.call ?_);refine L.lnt U U U U ?_)|((with_reducible refine D.ax ?_);refine L.nn U U U ?_)|((with_reducible refine D.aw ?_);first|refine K.sq (AW.regL ?_)|refine K.sq (K.sq ?_)|refine AW.regL ?_|refine AW.condS U (fun h=> ?_) (fun h=> ?_)|refine AW.skip ?_|refine AW.ret ?_)|with_reducible refine K.tN ?_|with_reducible refine K.tR ?_|with_reducible refine K.r1 (by with_unfolding_all rfl) (by with_unfolding_all rfl) ?_)
  all_goals first
   |(exfalso;simp at h;exact hg h)
   |(exfalso;simp at h;exact h hk)
   |(exfalso;rename_i q;simp at q;exact q hk)
   |(have h3:i-b=at_:=by simp at h;omega
     rw[if_pos h3];rfl)
   |(have h3:¬i-b=at_:=by simp at h;omega
     rw[if_neg h3];rfl)
 rw[cnt_args hk]
 have hup:b≤up t.kind b∧up t.kind b≤b+1:=by simp only[up];split<;>omega
 have e0:at_+b+up t.kind 0=at_+up t.kind b:=by have:=up_add t.kind 0 b;rw[Int.zero_add] at this;omega
 have hbl:=gbelow_c t
 have hbd:∀m,((t.args.take m).map fun x=>cnt at_ (x.vars (up t.kind b))).sum≤n:=fun m=>by
  refine Nat.le_trans (lsum_take_le (fun x=>cnt at_ (x.vars (up t.kind b))) t.args m) ?_
  exact Nat.le_trans (lsum_le (g:=Tm.size) _ (fun x _=>cnt_size at_ _ x)) (by omega)
 obtain⟨S,hS⟩:∃S:Nat→Nat,∀m,S m=((t.args.take m).map fun x=>cnt at_ (x.vars (up t.kind b))).sum:=⟨_,fun _=>rfl⟩
 have hS0:S 0=0:=by rw[hS];rfl
 have hSl:S t.args.length=(t.args.map fun x=>cnt at_ (x.vars (up t.kind b))).sum:=by rw[hS,List.take_length]
 refine AC.mk Tryz.func169 rfl rfl rfl rfl rfl (Nat.le_of_ble_eq_true rfl) ?_
 repeat'(first|((with_reducible refine D.nil ?_);refine AX.nilL ?_)|((with_reducible refine D.load ?_);refine L.nl U U U U U ?_)|((with_reducible refine D.move ?_);refine L.mv U U U ?_)|((with_reducible refine D.fieldAddr ?_);refine L.nf U U U U U ?_)|((with_reducible refine D.assign ?_);refine L.asg U U U ?_)|((with_reducible refine D.bin ?_);refine L.bn U U U U U ?_)|((with_reducible refine D.call ?_);refine L.lnt U U U U ?_)|((with_reducible refine D.ax ?_);refine L.nn U U U ?_)|((with_reducible refine D.aw ?_);first|refine K.sq (AW.regL ?_)|refine K.sq (K.sq ?_)|refine AW.regL ?_|refine AW.condS U (fun h=> ?_) (fun h=> ?_)|refine AW.skip ?_|refine AW.ret ?_)|with_reducible refine K.tN ?_|with_reducible refine K.tR ?_|with_reducible refine K.r1 (by with_unfolding_all rfl) (by with_unfolding_all rfl) ?_)
 all_goals first
  |(exfalso;simp at h;exact hg h)
  |(exfalso;simp at h;exact hk h)
  |(exfalso;rename_i q;simp at q;exact hk q)
  |(exfalso;rename_i q _;simp at q;exact hk q)
  |skip
 refine AW.range t.args.length (fun m=>True)
  (fun m=>([(0,.nd t 0),(1,.i (at_+b)),(5,.i (S m)),(28,.s .nd t.args),(29,.i t.args.length),(30,.i m)],⟨0,[]⟩))
  (by omega) (fun m=>rfl) (fun m=>rfl) U trivial (Weak.mk [] _ _ _ U U U U (by(repeat'(first|exact trivial|refine And.intro ?_ ?_|refine⟨_,U,_,U,?_⟩|exact VLe.refl _|exact VLe.of_eq (by simp[Sto.upd,hS0])));done) (by(repeat'(first|exact trivial));done)) ?_ ?_
 ·intro m hm hP
  have hs2:=lsum_mem Tm.size (List.getElem_mem hm)
  have hc:=ih t.args[m] (up t.kind b) (by omega) (by omega) (by omega) (by omega) (shape_args hs _ (List.getElem_mem hm))
  rw[←e0] at hc
  have q1:=hbd m
  have q2:=hbd (m+1)
  have q3:=lsum_take (fun x=>cnt at_ (x.vars (up t.kind b))) t.args m hm
  rw[←hS,←hS] at q3
  rw[←hS] at q1 q2
  have q4:(S m:Int)+(cnt at_ ((t.args[m]).vars (up t.kind b)):Int)=(S (m+1):Nat):=by omega
  repeat'(first|((with_reducible refine D.nil ?_);refine AX.nilL ?_)|((with_reducible refine D.load ?_);refine L.lda U U U U U ?_)|((with_reducible refine D.move ?_);refine L.mv U U U ?_)|((with_reducible refine D.assign ?_);refine L.asg U U U ?_)|((with_reducible refine D.bin ?_);refine L.ad U U U U (by omega) ?_)|((with_reducible refine D.call ?_);first|refine L.c2 (hbl) U U U U ?_|refine L.c2 (hc) U U U U ?_)|((with_reducible refine D.indexAddr ?_);refine L.ixt _ U U U U U U U (by first|assumption|fail) ?_)|((with_reducible refine D.aw ?_);first|refine K.sq (AW.regL ?_)|refine AW.regL ?_)|with_reducible refine K.tN ?_|with_reducible refine K.bN ?_)
  exact⟨rfl,trivial,(Weak.mk [] _ _ _ U U U U (by(repeat'(first|exact trivial|refine And.intro ?_ ?_|refine⟨_,U,_,U,?_⟩|exact VLe.refl _|exact VLe.of_eq (by simp[Sto.upd,q4])));done) (by(repeat'(first|exact trivial));done))⟩
 ·intro hP
  rw[←hSl]
  repeat'(first|((with_reducible refine D.nil ?_);refine AX.nilL ?_)|((with_reducible refine D.move ?_);refine L.mv U U U ?_)|((with_reducible refine D.assign ?_);refine L.asg U U U ?_)|((with_reducible refine D.aw ?_);first|refine K.sq (AW.regL ?_)|refine AW.ret ?_)|with_reducible refine K.tN ?_|with_reducible refine K.r1 (by with_unfolding_all rfl) (by with_unfolding_all rfl) ?_)
  all_goals simp[tupV,V.wk,V.wks,constV,Ty.view,Tm.view]
theorem gput_c(at_:Int)(hat:0≤at_∧at_<65536)(s:Tm)(hss:s.shape=true)(hsz0:s.size≤4096)(hsx:∀p∈s.vars 0,p.1<4294967296):∀(n:Nat) (t:Tm) (b:Int),t.size≤n→n≤4096→0≤b→b+n<65536→t.shape=true→(∀p∈t.vars b,p.1<4294967296)→
 PC E 170 [.nd t 0,.i (at_+b),.nd s 0] (.nd (t.re (putG at_ s) b) 0):=by
 intro n
 induction n with
 |zero=>intro t b h;have:=t.size_pos;omega
 |succ n ih=>
 intro t b hsz hn hb hbn hs hx
 have hsz':=Tm.size_eq t
 have hlen:=lsum_len Tm.size Tm.size_pos t.args
 by_cases hg:t.gfr≤at_+b
 ·rw [put_gfr hs hg]
  refine AC.mk Tryz.func170 rfl rfl rfl rfl rfl (Nat.le_of_ble_eq_true rfl) ?_
  repeat'(first|((with_reducible refine D.nil ?_);refine AX.nilL ?_)|((with_reducible refine D.load ?_);refine L.nl U U U U U ?_)|((with_reducible refine D.move ?_);refine L.mv U U U ?_)|((with_reducible refine D.fieldAddr ?_);refine L.nf U U U U U ?_)|((with_reducible refine D.assign ?_);refine L.asg U U U ?_)|((with_reducible refine D.bin ?_);refine L.bn U U U U U ?_)|((with_reducible refine D.call ?_);refine L.lnt U U U U ?_)|((with_reducible refine D.ax ?_);refine L.nn U U U ?_)|((with_reducible refine D.aw ?_);first|refine K.sq (AW.regL ?_)|refine K.sq (AW.regD mixed (by kernel_rfl) ?_)|refine K.sq (K.sq ?_)|refine AW.regL ?_|refine AW.condS U (fun h=> ?_) (fun h=> ?_)|refine AW.skip ?_|refine AW.ret ?_)|with_reducible refine K.tN ?_|with_reducible refine K.tR ?_|with_reducible refine K.r1 (by with_unfolding_all rfl) (by with_unfolding_all rfl) ?_)
  all_goals first
   |rfl
   |(exfalso;simp at h;omega)
   |(exfalso;rename_i q;simp at q;omega)
   |(exfalso;rename_i q _;simp at q;omega)
 by_cases hk:t.kind=1
 ·obtain ⟨i,hti,hi⟩:=var_mk hs hk
  have h1:t.gfr=i+1:=by rw[hti,gfr_eq];rfl
  have hix:t.index=i:=by rw[hti];rfl
  have h3:i<4294967296:=hx (i,b) (by rw[hti,vars_vT];simp)
  have hre:t.re (putG at_ s) b=putG at_ s i b:=by rw[Tm.re_eq,if_pos hk,hix]
  rw[hre,putG_eq]
  by_cases hi2:i=at_+b
  ·have hl:=glift_c 0 (at_+b) (by omega) (by omega) _ s 0 (Nat.le_refl _) (by omega) (by omega) (by omega) hss (fun p hp=>by have:=hsx p hp;omega)
   rw[if_pos (by omega)]
   refine AC.mk Tryz.func170 rfl rfl rfl rfl rfl (Nat.le_of_ble_eq_true rfl) ?_
   repeat'(first|((with_reducible refine D.nil ?_);refine AX.nilL ?_)|((with_reducible refine D.load ?_);refine L.nl U U U U U ?_)|((with_reducible refine D.move ?_);refine L.mv U U U ?_)|((with_reducible refine D.fieldAddr ?_);refine L.nf U U U U U ?_)|((with_reducible refine D.assign ?_);refine L.asg U U U ?_)|((with_reducible refine D.bin ?_);first|refine L.sb U U U U (by omega) ?_|refine L.bn U U U U U ?_)|((with_reducible refine D.call ?_);first|refine L.lnt U U U U ?_|refine L.c2 (hl) U U U U ?_)|((with_reducible refine D.ax ?_);refine L.nn U U U ?_)|((with_reducible refine D.aw ?_);first|refine K.sq (AW.regL ?_)|refine K.sq (AW.regD mixed (by kernel_rfl) ?_)|refine K.sq (K.sq ?_)|refine AW.regL ?_|refine AW.condS U (fun h=> ?_) (fun h=> ?_)|refine AW.skip ?_|refine AW.ret ?_)|with_reducible refine K.tN ?_|with_reducible refine K.tR ?_|with_reducible refine K.r1 (by with_unfolding_all rfl) (by with_unfolding_all rfl) ?_)
   all_goals first
    |rfl
    |(exfalso;simp at h;exact hg h)
    |(exfalso;simp at h;exact h hk)
    |(exfalso;simp at h;omega)
    |(exfalso;rename_i q;simp at q;exact q hk)
    |(exfalso;rename_i q;simp at q;omega)
  ·have hc:=gbuild_t (k:=t.kind) (i:=t.index-1) (th:=t.ty) (xs:=[]) (fun x hx=>by cases hx) (by simp[Tm.size,Tm.sizes]) 0 (fun p hp=>by simp[Tm.vars,Tm.varss] at hp;obtain⟨_,rfl⟩:=hp;show t.index-1<_;omega) (by omega)
   rw[if_neg (by omega),if_pos (by omega)]
   have e1:vT (i-1)= .mk t.kind (t.index-1) t.ty []:=by rw[hti];rfl
   rw[e1]
   refine AC.mk Tryz.func170 rfl rfl rfl rfl rfl (Nat.le_of_ble_eq_true rfl) ?_
   repeat'(first|((with_reducible refine D.nil ?_);first|refine AX.nilL ?_|refine AX.nilD (by kernel_rfl) ?_)|((with_reducible refine D.load ?_);refine L.nl U U U U U ?_)|((with_reducible refine D.move ?_);refine L.mv U U U ?_)|((with_reducible refine D.fieldAddr ?_);refine L.nf U U U U U ?_)|((with_reducible refine D.assign ?_);refine L.asg U U U ?_)|((with_reducible refine D.bin ?_);first|refine L.sb U U U U (by omega) ?_|refine L.bn U U U U U ?_)|((with_reducible refine D.call ?_);first|refine L.lnt U U U U ?_|refine L.c2 (hc) U U U U ?_)|((with_reducible refine D.ax ?_);refine L.nn U U U ?_)|((with_reducible refine D.aw ?_);first|refine K.sq (AW.regL ?_)|refine K.sq (AW.regD mixed (by kernel_rfl) ?_)|refine K.sq (K.sq ?_)|refine AW.regL ?_|refine AW.condS U (fun h=> ?_) (fun h=> ?_)|refine AW.skip ?_|refine AW.ret ?_)|with_reducible refine K.tN ?_|with_reducible refine K.tR ?_|with_reducible refine K.r1 (by with_unfolding_all rfl) (by with_unfolding_all rfl) ?_)
   all_goals first
    |rfl
    |(exfalso;simp at h;exact hg h)
    |(exfalso;simp at h;exact h hk)
    |(exfalso;simp at h;omega)
    |(exfalso;rename_i q;simp at q;exact q hk)
    |(exfalso;rename_i q;simp at q;omega)
 rw[re_mk _ _ hk]
 have hup:b≤up t.kind b∧up t.kind b≤b+1:=by simp only[up];split<;>omega
 have e0:at_+b+up t.kind 0=at_+up t.kind b:=by have:=up_add t.kind 0 b;rw[Int.zero_add] at this;omega
 have hbl:=gbelow_c t
 have hsub:∀x∈t.args,∀p∈x.vars (up t.kind b),p.1<4294967296:=fun x hx' p hp=>hx p (by rw[Tm.vars_eq];exact List.mem_append_right _ (List.mem_flatMap.2 ⟨x,hx',hp⟩))
 have hre:=re_mk (putG at_ s) b hk
 have hps:=put_size at_ s t hss b hs
 have hcs:=cnt_size at_ b t
 have hmul:cnt at_ (t.vars b)*(s.size-1)≤4096*4096:=Nat.mul_le_mul (by omega) (by omega)
 have hw:=gwith_c (t:=t) (xs:=t.args.map (Tm.re (putG at_ s) (up t.kind b))) (gbuild_t (fun x hx'=>by
  obtain⟨y,hy,rfl⟩:=List.mem_map.1 hx'
  exact put_shape _ hss (shape_args hs y hy) (by omega) hat.1 (fun p hp=>by have:=vars_snd y _ p hp;omega)) (by rw[←hre,hps];omega) b (fun p hp=>by
  rw[←hre] at hp
  have:=put_idx (M:=4294967296) (by omega) hss hs hsx hx p hp
  omega) (by have:=shape_index hs;have:=this.2 hk;omega))
 refine AC.mk Tryz.func170 rfl rfl rfl rfl rfl (Nat.le_of_ble_eq_true rfl) ?_
 repeat'(first|((with_reducible refine D.nil ?_);refine AX.nilL ?_)|((with_reducible refine D.load ?_);refine L.nl U U U U U ?_)|((with_reducible refine D.move ?_);refine L.mv U U U ?_)|((with_reducible refine D.fieldAddr ?_);refine L.nf U U U U U ?_)|((with_reducible refine D.assign ?_);refine L.asg U U U ?_)|((with_reducible refine D.bin ?_);refine L.bn U U U U U ?_)|((with_reducible refine D.call ?_);refine L.lnt U U U U ?_)|((with_reducible refine D.ax ?_);refine L.nn U U U ?_)|((with_reducible refine D.aw ?_);first|refine K.sq (AW.regL ?_)|refine K.sq (AW.regD mixed (by kernel_rfl) ?_)|refine K.sq (K.sq ?_)|refine AW.regL ?_|refine AW.condS U (fun h=> ?_) (fun h=> ?_)|refine AW.skip ?_|refine AW.ret ?_)|with_reducible refine K.tN ?_|with_reducible refine K.tR ?_|with_reducible refine K.r1 (by with_unfolding_all rfl) (by with_unfolding_all rfl) ?_)
 all_goals first
  |(exfalso;simp at h;exact hg h)
  |(exfalso;simp at h;exact hk h)
  |(exfalso;rename_i q;simp at q;exact hk q)
  |(exfalso;rename_i q _;simp at q;exact hk q)
  |skip
 refine AW.range t.args.length (fun m=>True)
  (fun m=>([(0,.nd t 0),(1,.i (at_+b)),(2,.nd s 0),(7,.slice (.own 0) (.t .nd ((t.args.take m).map (Tm.re (putG at_ s) (up t.kind b))))),(48,.s .nd t.args),(49,.i t.args.length),(50,.i m)],⟨1,[(0,.row)]⟩))
  (by omega) (fun m=>rfl) (fun m=>rfl) U trivial (Weak.mk [none] _ _ _ U U U U (by(repeat'(first|exact trivial|refine And.intro ?_ ?_|refine⟨_,U,_,U,?_⟩|exact VLe.refl _));done) (by(repeat'(first|exact trivial|exact Or.inl U|refine And.intro ?_ ?_));done)) ?_ ?_
 ·intro m hm hP
  have hs2:=lsum_mem Tm.size (List.getElem_mem hm)
  have hc:=ih t.args[m] (up t.kind b) (by omega) (by omega) (by omega) (by omega) (shape_args hs _ (List.getElem_mem hm)) (hsub _ (List.getElem_mem hm))
  rw[←e0] at hc
  repeat'(first|((with_reducible refine D.nil ?_);refine AX.nilL ?_)|((with_reducible refine D.load ?_);refine L.lda U U U U U ?_)|((with_reducible refine D.move ?_);refine L.mv U U U ?_)|((with_reducible refine D.assign ?_);refine L.asg U U U ?_)|((with_reducible refine D.bin ?_);refine L.ad U U U U (by omega) ?_)|((with_reducible refine D.call ?_);first|refine L.apt U U U U U U (by first|exact trivial|exact⟨rfl,trivial⟩) U U (by first|omega|(simp;omega)) ?_|refine L.c2 (hbl) U U U U ?_|refine L.c2 (hc) U U U U ?_)|((with_reducible refine D.indexAddr ?_);refine L.ixt _ U U U U U U U (by first|assumption|fail) ?_)|((with_reducible refine D.ax ?_);refine L.bs1 U U U U U (EC.fold_of U) U U ?_)|((with_reducible refine D.aw ?_);first|refine K.sq (AW.regL ?_)|refine AW.regL ?_)|with_reducible refine K.tN ?_|with_reducible refine K.bN ?_)
  exact⟨rfl,trivial,(Weak.mk [some 1] _ _ _ U U U U (by(repeat'(first|exact trivial|refine And.intro ?_ ?_|refine⟨_,U,_,U,?_⟩|exact VLe.refl _|exact VLe.of_eq (by simp[Sto.upd,map_take _ _ _ hm])));done) (by(repeat'(first|exact trivial|exact Or.inr ⟨_,U,rfl⟩|refine And.intro ?_ ?_));done))⟩
 ·intro hP
  have hlt:t.args.take t.args.length=t.args:=List.take_length
  rw[hlt]
  repeat'(first|((with_reducible refine D.nil ?_);refine AX.nilL ?_)|((with_reducible refine D.move ?_);refine L.mv U U U ?_)|((with_reducible refine D.assign ?_);refine L.asg U U U ?_)|((with_reducible refine D.call ?_);refine L.c2 (hw) U U U U ?_)|((with_reducible refine D.aw ?_);first|refine K.sq (AW.regL ?_)|refine AW.ret ?_)|with_reducible refine K.tN ?_|with_reducible refine K.r1 (by with_unfolding_all rfl) (by with_unfolding_all rfl) ?_)
  all_goals simp[tupV,V.wk,V.wks,constV,Ty.view,Tm.view]
end Go.Ab
