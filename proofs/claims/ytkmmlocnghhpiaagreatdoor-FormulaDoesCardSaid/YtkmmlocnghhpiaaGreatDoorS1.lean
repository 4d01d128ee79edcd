/- A part of the proofs of this seat's statements: H1, S1, S2, S3, S4, S5, S6, S7, S8, S9, S10, S11. It has no conditions of its own. -/
import Derived.Test.YtkmmlocnghhpiaaGreatDoorA1
import Derived.Test.YtkmmlocnghhpiaaGreatDoorRows
import Derived.Test.YtkmmlocnghhpiaaGreatDoorA2
import Derived.Test.YtkmmlocnghhpiaaGreatDoorD1
namespace Go.Ab
open Go Go.Proofs
def tab:List (TypeId×TI):=[
 (1,⟨1,[.nilf],.other⟩),
 (2,⟨1,[.int .i64 0],.int .i64⟩),
 (3,⟨1,[.int .i64 0],.int .i64⟩),
 (4,⟨1,[.bool false],.bool⟩),
 (5,⟨1,[.int .u8 0],.int .u8⟩),
 (7,⟨4,[.int .i64 0,.int .i64 0,.bool false,.int .u8 0],.strct [(0,1,false),(1,1,false),(2,1,false),(3,1,false)]⟩),
 (9,⟨1,[.str ⟨#[]⟩],.str⟩),
 (12,⟨1,[.int .u64 0],.int .u64⟩),
 (13,⟨2,[.str ⟨#[]⟩,.int .u64 0],.strct [(0,1,false),(1,1,false)]⟩),
 (15,⟨1,[.nilp],.other⟩),
 (16,⟨1,[.nilp],.other⟩),
 (17,⟨1,[.nilp],.other⟩),
 (18,⟨1,[.nilp],.strct [(0,1,false)]⟩),
 (20,⟨1,[.raw .nilIface],.other⟩),
 (21,⟨1,[.int .i32 0],.int .i32⟩),
 (22,⟨1,[.slice .nil (.t .int [])],.slc (some .int) 1 8⟩),
 (23,⟨1,[.slice .nil (.t .ty [])],.slc (some .ty) 2 32⟩),
 (24,⟨2,[.int .i64 0,.slice .nil (.t .ty [])],.strct [(0,1,false),(1,1,false)]⟩),
 (25,⟨2,[.int .i64 0,.slice .nil (.t .ty [])],.strct [(0,1,false),(1,1,false)]⟩),
 (26,⟨1,[.slice .nil (.t .tm [])],.slc (some .tm) 5 72⟩),
 (27,⟨1,[.slice .nil (.t .fm [])],.slc (some .fm) 5 88⟩),
 (28,⟨5,[.int .i64 0,.int .i64 0,.slice .nil (.t .ty []),.slice .nil (.t .tm []),.slice .nil (.t .fm [])],.strct [(0,1,false),(1,2,true),(3,1,false),(4,1,false)]⟩),
 (29,⟨5,[.int .i64 0,.int .i64 0,.slice .nil (.t .ty []),.slice .nil (.t .tm []),.slice .nil (.t .fm [])],.strct [(0,1,false),(1,2,true),(3,1,false),(4,1,false)]⟩),
 (30,⟨5,[.int .i64 0,.int .i64 0,.int .i64 0,.slice .nil (.t .ty []),.slice .nil (.t .tm [])],.strct [(0,1,false),(1,1,false),(2,2,true),(4,1,false)]⟩),
 (31,⟨5,[.int .i64 0,.int .i64 0,.int .i64 0,.slice .nil (.t .ty []),.slice .nil (.t .tm [])],.strct [(0,1,false),(1,1,false),(2,2,true),(4,1,false)]⟩),
 (32,⟨1,[.nilf],.other⟩),
 (33,⟨1,[.nilf],.other⟩),
 (34,⟨1,[.nilf],.other⟩),
 (35,⟨1,[.nilf],.other⟩),
 (36,⟨1,[.nilf],.other⟩),
 (37,⟨1,[.nilp],.other⟩),
 (38,⟨1,[.nilf],.other⟩),
 (39,⟨1,[.nilf],.other⟩),
 (40,⟨1,[.nilf],.other⟩),
 (41,⟨1,[.nilf],.other⟩),
 (42,⟨1,[.nilf],.other⟩),
 (43,⟨1,[.nilf],.other⟩),
 (44,⟨1,[.int .i64 0],.int .i64⟩),
 (46,⟨1,[.nilf],.other⟩),
 (48,⟨1,[.nilf],.other⟩),
 (50,⟨1,[.nilf],.other⟩),
 (51,⟨1,[.nilf],.other⟩),
 (52,⟨1,[.nilf],.other⟩),
 (53,⟨1,[.nilf],.other⟩),
 (54,⟨1,[.nilf],.other⟩),
 (55,⟨1,[.slice .nil (.t .tys [])],.slc (some .tys) 1 24⟩),
 (56,⟨1,[.nilf],.other⟩),
 (57,⟨2,[.int .i64 0,.int .i64 0],.arr 2 1 false⟩),
 (58,⟨1,[.nilf],.other⟩),
 (59,⟨1,[.slice .nil (.u 2 [])],.slc none 2 16⟩),
 (60,⟨1,[.nilf],.other⟩),
 (61,⟨1,[.nilf],.other⟩),
 (62,⟨1,[.nilf],.other⟩),
 (63,⟨1,[.nilf],.other⟩),
 (64,⟨1,[.nilf],.other⟩),
 (65,⟨1,[.nilf],.other⟩),
 (66,⟨1,[.nilf],.other⟩),
 (67,⟨1,[.nilf],.other⟩),
 (68,⟨1,[.nilf],.other⟩),
 (69,⟨2,[.slice .nil (.t .int []),.int .i64 0],.strct [(0,1,false),(1,1,false)]⟩),
 (70,⟨2,[.slice .nil (.t .int []),.int .i64 0],.strct [(0,1,false),(1,1,false)]⟩),
 (71,⟨1,[.nilf],.other⟩),
 (72,⟨1,[.nilf],.other⟩),
 (73,⟨1,[.nilf],.other⟩),
 (74,⟨1,[.nilf],.other⟩),
 (75,⟨1,[.nilf],.other⟩),
 (76,⟨1,[.nilf],.other⟩),
 (77,⟨1,[.nilf],.other⟩),
 (78,⟨1,[.nilp],.other⟩),
 (79,⟨1,[.nilf],.other⟩),
 (80,⟨1,[.nilf],.other⟩),
 (81,⟨1,[.nilf],.other⟩),
 (82,⟨1,[.nilf],.other⟩),
 (83,⟨1,[.nilf],.other⟩),
 (84,⟨1,[.nilf],.other⟩),
 (85,⟨1,[.nilf],.other⟩),
 (86,⟨1,[.raw (.map none)],.other⟩),
 (87,⟨1,[.nilf],.other⟩),
 (88,⟨1,[.nilf],.other⟩),
 (89,⟨1,[.nilf],.other⟩),
 (90,⟨1,[.nilf],.other⟩),
 (91,⟨1,[.nilf],.other⟩),
 (92,⟨1,[.nilf],.other⟩),
 (93,⟨1,[.nilf],.other⟩),
 (94,⟨1,[.nilf],.other⟩),
 (95,⟨1,[.nilf],.other⟩),
 (96,⟨1,[.nilf],.other⟩),
 (97,⟨1,[.nilf],.other⟩),
 (98,⟨1,[.nilf],.other⟩),
 (99,⟨1,[.nilf],.other⟩),
 (100,⟨1,[.nilf],.other⟩),
 (101,⟨1,[.slice .nil (.t .sz [])],.slc (some .sz) 3 40⟩),
 (102,⟨1,[.slice .nil (.t .sz [])],.slc (some .sz) 3 40⟩),
 (103,⟨1,[.nilf],.other⟩),
 (104,⟨1,[.nilf],.other⟩),
 (105,⟨1,[.nilf],.other⟩),
 (106,⟨1,[.nilf],.other⟩),
 (107,⟨1,[.nilf],.other⟩),
 (108,⟨1,[.nilf],.other⟩),
 (109,⟨1,[.nilf],.other⟩),
 (110,⟨1,[.nilf],.other⟩),
 (111,⟨1,[.nilf],.other⟩),
 (112,⟨1,[.nilf],.other⟩),
 (113,⟨1,[.nilf],.other⟩),
 (114,⟨1,[.nilf],.other⟩),
 (116,⟨1,[.nilf],.other⟩),
 (117,⟨1,[.nilf],.other⟩),
 (119,⟨1,[.nilf],.other⟩),
 (120,⟨1,[.nilf],.other⟩),
 (121,⟨1,[.nilf],.other⟩),
 (122,⟨1,[.nilf],.other⟩),
 (123,⟨1,[.nilf],.other⟩),
 (124,⟨1,[.nilf],.other⟩),
 (125,⟨1,[.nilf],.other⟩),
 (126,⟨1,[.nilf],.other⟩),
 (127,⟨3,[.int .i64 0,.slice .nil (.t .ty []),.int .i64 0],.strct [(0,2,true),(2,1,false)]⟩),
 (128,⟨3,[.int .i64 0,.slice .nil (.t .ty []),.int .i64 0],.strct [(0,2,true),(2,1,false)]⟩),
 (129,⟨1,[.nilf],.other⟩),
 (130,⟨1,[.nilf],.other⟩),
 (131,⟨1,[.nilf],.other⟩),
 (132,⟨1,[.nilf],.other⟩),
 (133,⟨1,[.nilf],.other⟩),
 (134,⟨1,[.nilf],.other⟩),
 (135,⟨1,[.nilf],.other⟩),
 (136,⟨1,[.nilf],.other⟩),
 (137,⟨1,[.nilf],.other⟩),
 (138,⟨1,[.int .u64 0],.int .u64⟩),
 (139,⟨1,[.nilf],.other⟩),
 (140,⟨1,[.nilf],.other⟩),
 (142,⟨1,[.nilf],.other⟩),
 (143,⟨1,[.nilf],.other⟩),
 (144,⟨1,[.nilf],.other⟩),
 (145,⟨1,[.nilf],.other⟩),
 (146,⟨1,[.nilf],.other⟩),
 (147,⟨1,[.int .i64 0],.int .i64⟩),
 (149,⟨1,[.nilf],.other⟩),
 (150,⟨1,[.nilf],.other⟩),
 (151,⟨1,[.nilf],.other⟩),
 (152,⟨1,[.nilf],.other⟩),
 (153,⟨1,[.nilf],.other⟩),
 (154,⟨1,[.nilf],.other⟩),
 (155,⟨1,[.int .u32 0],.int .u32⟩),
 (156,⟨1,[.nilf],.other⟩),
 (157,⟨1,[.int .u64 0],.int .u64⟩),
 (158,⟨1,[.nilf],.other⟩),
 (160,⟨1,[.nilf],.other⟩),
 (161,⟨1,[.nilf],.other⟩),
 (162,⟨14,[.int .i64 0,.int .i64 0,.int .i64 0,.int .i64 0,.int .i64 0,.int .i64 0,.int .i64 0,.int .i64 0,.int .i64 0,.int .i64 0,.int .i64 0,.int .i64 0,.int .i64 0,.int .i64 0],.arr 14 1 false⟩),
 (163,⟨1,[.int .u64 0],.int .u64⟩),
 (164,⟨1,[.nilf],.other⟩),
 (165,⟨1,[.nilf],.other⟩),
 (166,⟨1,[.nilf],.other⟩),
 (167,⟨1,[.nilp],.other⟩),
 (168,⟨1,[.nilf],.other⟩),
 (169,⟨1,[.nilf],.other⟩),
 (170,⟨9,[.int .i64 0,.slice .nil (.t .ty []),.int .i64 0,.int .i64 0,.slice .nil (.t .ty []),.int .i64 0,.int .i64 0,.slice .nil (.t .ty []),.int .i64 0],.arr 3 3 true⟩),
 (171,⟨1,[.nilf],.other⟩),
 (172,⟨1,[.nilf],.other⟩),
 (173,⟨1,[.nilp],.other⟩),
 (175,⟨1,[.nilf],.other⟩),
 (176,⟨1,[.nilf],.other⟩),
 (177,⟨1,[.nilf],.other⟩),
 (178,⟨1,[.nilf],.other⟩),
 (179,⟨1,[.nilf],.other⟩),
 (180,⟨1,[.nilf],.other⟩),
 (181,⟨1,[.nilf],.other⟩),
 (182,⟨4,[.nilp,.nilp,.nilp,.str ⟨#[]⟩],.strct [(0,1,false),(1,1,false),(2,1,false),(3,1,false)]⟩),
 (184,⟨0,[],.arr 0 1 false⟩),
 (187,⟨1,[.nilf],.other⟩),
 (190,⟨1,[.nilf],.other⟩),
 (191,⟨1,[.nilp],.other⟩),
 (194,⟨11,[.int .u64 0,.int .u64 0,.int .u32 0,.int .u8 0,.int .u8 0,.int .u8 0,.int .u8 0,.nilf,.nilp,.int .i32 0,.int .i32 0],.strct [(0,1,false),(1,1,false),(2,1,false),(3,1,false),(4,1,false),(5,1,false),(6,1,false),(7,1,false),(8,1,false),(9,1,false),(10,1,false)]⟩)]
set_option maxRecDepth 100000
theorem tab_ok:tab.all (fun p=>tiB Tryz.prog p.1 p.2)=true:=by kernel_rfl
def arV:List V:=[.i 0,.i 0,.i 1,.i 2,.i 0,.i 1,.i 3,.i 0,.i 2,.i 3,.i 2,.i 1,.i 1,.i 0]
noncomputable def E:Env:=⟨Tryz.prog,[(0,arV)],tab,tab_ok,[]⟩
end Go.Ab
namespace Go.Ab
open Go Go.Proofs
set_option maxRecDepth 100000
set_option linter.all false
theorem mixed:E.P.follows .mixedOrders=true:=Tryz.checked.mixed
theorem copyTy_c:∀(b:Nat) (t:Ty),t.size≤b→b<1099511627776→PC E 106 [.agg t.view] (.agg t.view):=by
 intro b
 induction b with
 |zero=>intro t h;have:=t.size_pos;omega
 |succ b ih=>
 intro t hsz hb
 have hsz':=Ty.size_eq t
 have hlen:=lsum_len Ty.size Ty.size_pos t.args
 refine M.F Tryz.func106 ?_
 repeat'(first|refine M.gw ?_|fail)
 refine AW.range t.args.length (fun m=>True)
  (fun m=>([(1,.ptr 0 0),(2,.ptr 1 0),(3,.slice (.own 2) (.t .ty (t.args.take m))),(7,.s .ty t.args),(8,.i t.args.length),(9,.i m)],⟨3,[(0,.var t.view),(1,.var [.i 0,.slice .nil (.t .ty [])]),(2,.row)]⟩))
  (by omega) (fun m=>rfl) (fun m=>rfl) rfl trivial (M.W [some 0,some 1,none]) ?_ ?_
 ·intro m hm hP
  have hs2:=lsum_mem Ty.size (List.getElem_mem hm)
  repeat'(first|refine M.gw ?_|refine M.c2 (ih _ ?_ ?_) ?_|exact M.le|exact M.lt|fail)
  exact⟨rfl,trivial,(M.W [some 0,some 1,some 4] (hf:=(by(repeat'(first|exact trivial|refine And.intro ?_ ?_|refine⟨_,U,_,U,?_⟩|exact VLe.refl _|exact VLe.of_eq (by simp[Sto.upd,List.take_append_getElem])));done)))⟩
 ·intro hP
  repeat'(first|refine M.gw ?_|fail)
  simp[tupV,V.wk,V.wks,constV,Ty.view,Tm.view]
theorem ownTy_c:∀(b:Nat) (t:Ty),t.size≤b→b<1099511627776→PC E 155 [.agg t.view] (.agg t.view):=by
 intro b
 induction b with
 |zero=>intro t h;have:=t.size_pos;omega
 |succ b ih=>
 intro t hsz hb
 have hsz':=Ty.size_eq t
 have hlen:=lsum_len Ty.size Ty.size_pos t.args
 refine M.F Tryz.func155 ?_
 repeat'(first|refine M.gw ?_|fail)
 refine AW.range t.args.length (fun m=>True)
  (fun m=>([(1,.ptr 0 0),(2,.ptr 1 0),(3,.ptr 2 0),(10,.s .ty t.args),(11,.i t.args.length),(12,.i m)],⟨4,[(0,.var t.view),(1,.var [.i 0,.slice .nil (.t .ty [])]),(2,.var [.i t.kind,.slice (.own 3) (.t .ty (t.args.take m))]),(3,.row)]⟩))
  (by omega) (fun m=>rfl) (fun m=>rfl) rfl trivial (M.W [some 0,some 1,some 2,none]) ?_ ?_
 ·intro m hm hP
  have hs2:=lsum_mem Ty.size (List.getElem_mem hm)
  repeat'(first|refine M.gw ?_|refine M.c2 (ih _ ?_ ?_) ?_|exact M.le|exact M.lt|fail)
  exact⟨rfl,trivial,(M.W [some 0,some 1,some 2,some 5] (he:=(by(repeat'(first|exact trivial|exact Or.inr ⟨_,U,rfl⟩|refine And.intro ?_ ?_|refine⟨_,U,_,U,_,U,?_⟩|exact VLe.refl _|exact VLe.of_eq (by simp[Sto.upd,List.take_append_getElem])));done)))⟩
 ·intro hP
  repeat'(first|refine M.gw ?_|fail)
  simp[tupV,V.wk,V.wks,constV,Ty.view,Tm.view]
theorem typeNodes_c:∀(b:Nat) (t:Ty),t.size≤b→b<1099511627776→PC E 180 [.agg t.view] (nodesT t):=by
 intro b
 induction b with
 |zero=>intro t h;have:=t.size_pos;omega
 |succ b ih=>
 intro t hsz hb
 have hsz':=Ty.size_eq t
 have hlen:=lsum_len Ty.size Ty.size_pos t.args
 have hsh:=Ty.shape_eq t
 refine M.F Tryz.func180 ?_
 repeat'(first|refine M.gw ?_|fail)
 refine AW.cutT (ι:={n:Nat // arT t.kind=some n}) (fun n=>([(1,.ptr 0 0),(4,.i n.1)],⟨1,[(0,.var t.view)]⟩)) ?_ ?_
 ·refine AW.block ?_
  repeat'(first|refine M.gw ?_|refine M.cs ?_ ?_<;>intro h|fail)
  ·exact ⟨⟨0,by simp at h;simp[arT,h]⟩,(M.W [some 0])⟩
  ·exact ⟨⟨0,by simp at h;simp[arT,h]⟩,(M.W [some 0])⟩
  ·exact ⟨⟨0,by simp at h;simp[arT,h]⟩,(M.W [some 0])⟩
  ·exact ⟨⟨2,by simp at h;simp[arT,h]⟩,(M.W [some 0])⟩
  ·exact ⟨⟨2,by simp at h;simp[arT,h]⟩,(M.W [some 0])⟩
  ·have:t.shape=false:=by simp at*;simp[hsh,arT, *]
   simp[nodesT,Ty.nodes,this,tupV,constV,V.wk,V.wks]
 rintro⟨n,hn⟩
 repeat'(first|refine M.gw ?_|refine M.cs ?_ ?_<;>intro h|fail)
 ·have h1:¬t.args.length=n:=by simp at h;omega
  have:t.shape=false:=by simp[hsh,hn,h1]
  simp[nodesT,Ty.nodes,this,tupV,constV,V.wk,V.wks]
 have hn':t.args.length=n:=by simp at h;omega
 refine AW.range t.args.length (fun m=>∀j (hj:j<t.args.length),j<m→(t.args[j]).shape=true)
  (fun m=>([(1,.ptr 0 0),(5,.i (1+((t.args.take m).map Ty.size).sum)),(25,.s .ty t.args),(26,.i t.args.length),(27,.i m)],⟨1,[(0,.var t.view)]⟩))
  (by omega) (fun m=>rfl) (fun m=>rfl) rfl (by intro j hj h;omega) (M.W [some 0]) ?_ ?_
 ·intro m hm hP
  have hs1:=lsum_take Ty.size t.args m hm
  have hs2:=lsum_mem Ty.size (List.getElem_mem hm)
  have hs3:=lsum_take_le Ty.size t.args (m+1)
  have hs4:=Ty.nodes_le t.args[m]
  repeat'(first|refine M.gw ?_|refine M.c2 (ih _ ?_ ?_) ?_|refine M.cs ?_ ?_<;>intro h|exact M.le|exact M.lt|fail)
  ·have h1:(t.args[m]).shape=false:=by simpa using h
   have:t.shape=false:=by rw[hsh,all_not Ty.shape hm h1,Bool.and_false]
   simp[nodesT,Ty.nodes,this,tupV,constV,V.wk,V.wks]
  ·have hh:(t.args[m]).shape=true:=by simpa using h
   refine⟨rfl,all_step (p:=fun t=>Ty.shape t=true) hm hP hh,?_⟩
   have e:(1+((((t.args.take (m+1)).map Ty.size).sum:Nat):Int))=1+(((t.args.take m).map Ty.size).sum:Nat)+t.args[m].nodes:=by simp only[Ty.nodes,hh,hs1];simp;omega
   simp only[e]
   exact(M.W [some 0])
 ·intro hP
  have:t.shape=true:=by simp only[hsh,hn,hn',all_of Ty.shape t.args fun j hj=>hP j hj hj];simp
  repeat'(first|refine M.gw ?_|fail)
  simp[nodesT,Ty.nodes,this,tupV,constV,hsz',V.wk,V.wks]
theorem var_c(i:Int):PC E 37 [.i i] (.agg (Tm.mk 1 i (.mk 0 []) []).view):=by
 refine M.F Tryz.func37 ?_
 repeat'(first|refine M.gw ?_|fail)
 simp[tupV,V.wk,V.wks,constV,Ty.view,Tm.view]
theorem tvar_c(i:Int):PC E 81 [.i i] (.agg (Tm.mk 1 i (.mk 0 []) []).view):=by
 refine M.F Tryz.func81 ?_
 repeat'(first|refine M.gw ?_|fail)
 simp[tupV,V.wk,V.wks,constV,Ty.view,Tm.view]
theorem nat_c:PC E 47 [] (.agg (Ty.mk 1 []).view):=by
 refine M.F Tryz.func47 ?_
 repeat'(first|refine M.gw ?_|fail)
 simp[tupV,V.wk,V.wks,constV,Ty.view,Tm.view]
theorem list_c:PC E 54 [] (.agg (Ty.mk 2 []).view):=by
 refine M.F Tryz.func54 ?_
 repeat'(first|refine M.gw ?_|fail)
 simp[tupV,V.wk,V.wks,constV,Ty.view,Tm.view]
theorem unit_c:PC E 59 [] (.agg (Ty.mk 5 []).view):=by
 refine M.F Tryz.func59 ?_
 repeat'(first|refine M.gw ?_|fail)
 simp[tupV,V.wk,V.wks,constV,Ty.view,Tm.view]
theorem two_c(x y:Ty)(hx:x.size<1099511627776)(hy:y.size<1099511627776):PC E 60 [.agg x.view,.agg y.view] (.agg (Ty.mk 3 [x,y]).view):=by
 have h1:=copyTy_c _ x (Nat.le_refl _) hx
 have h2:=copyTy_c _ y (Nat.le_refl _) hy
 refine M.F Tryz.func60 ?_
 repeat'(first|refine M.gw ?_|refine M.c2 (h1) ?_|refine M.c2 (h2) ?_|fail)
 simp[tupV,V.wk,V.wks,constV,Ty.view,Tm.view]
theorem fun_c(x y:Ty)(hx:x.size<1099511627776)(hy:y.size<1099511627776):PC E 61 [.agg x.view,.agg y.view] (.agg (Ty.mk 4 [x,y]).view):=by
 have h1:=copyTy_c _ x (Nat.le_refl _) hx
 have h2:=copyTy_c _ y (Nat.le_refl _) hy
 refine M.F Tryz.func61 ?_
 repeat'(first|refine M.gw ?_|refine M.c2 (h1) ?_|refine M.c2 (h2) ?_|fail)
 simp[tupV,V.wk,V.wks,constV,Ty.view,Tm.view]
theorem noType_c(t:Ty):PC E 166 [.agg t.view] (.bool t.isNo):=by
 refine M.F Tryz.func166 ?_
 repeat'(first|refine M.gw ?_|refine M.gs ?_ ?_<;>intro h|fail)
 all_goals simp_all[tupV,V.wk,V.wks,constV,Ty.isNo]
 rw[Bool.eq_iff_iff];simp
theorem typed_c(k:Int):PC E 168 [.i k] (.bool (typedK k)):=by
 refine M.F Tryz.func168 ?_
 repeat'(first|refine M.gw ?_|refine M.gs ?_ ?_<;>intro h|fail)
 all_goals simp_all[tupV,V.wk,V.wks,constV,typedK]
theorem checkTy_c(t:Ty)(ht:t.size<1099511627776):PC E 159 [.agg t.view] (.tup [.i t.num,.i t.err]):=by
 have h1:=typeNodes_c _ t (Nat.le_refl _) ht
 refine M.F Tryz.func159 ?_
 repeat'(first|refine M.gw ?_|refine M.c2 (h1) ?_|refine M.zb ?_|refine M.cs ?_ ?_<;>intro h|fail)
 all_goals simp_all[tupV,V.wk,V.wks,constV,Ty.num,Ty.err,Ty.nodes]
 all_goals(first|omega|(split<;>first|omega|simp_all))
theorem arity_c(k:Int):PC E 167 [.i k] (.tup [.i ((arK k).getD 0),.bool (arK k).isSome]):=by
 refine M.F Tryz.func167 ?_
 repeat'(first|refine M.gw ?_|refine M.gs ?_ ?_<;>intro h|refine M.cs ?_ ?_<;>intro h|fail)
 ·have:arK k=none:=by simp at h;simp only[arK];(repeat' rw[if_neg (by omega)])
  simp[this,tupV,V.wk,V.wks,constV]
 ·have:arK k=none:=by simp at h;simp only[arK];(repeat' rw[if_neg (by omega)])
  simp[this,tupV,V.wk,V.wks,constV]
 ·rename_i h0
  simp at h h0
  have:k=1∨k=2∨k=3∨k=4∨k=5∨k=6∨k=7∨k=8∨k=9∨k=10∨k=11∨k=12∨k=13:=by omega
  rcases this with rfl|rfl|rfl|rfl|rfl|rfl|rfl|rfl|rfl|rfl|rfl|rfl|rfl
  ·refine L.ixa 1 rfl rfl rfl rfl rfl ?_ ?_ rfl ?_
   ·decide
   ·decide
   repeat'(first|refine M.gw ?_|fail)
   rfl
  ·refine L.ixa 2 rfl rfl rfl rfl rfl ?_ ?_ rfl ?_
   ·decide
   ·decide
   repeat'(first|refine M.gw ?_|fail)
   rfl
  ·refine L.ixa 3 rfl rfl rfl rfl rfl ?_ ?_ rfl ?_
   ·decide
   ·decide
   repeat'(first|refine M.gw ?_|fail)
   rfl
  ·refine L.ixa 4 rfl rfl rfl rfl rfl ?_ ?_ rfl ?_
   ·decide
   ·decide
   repeat'(first|refine M.gw ?_|fail)
   rfl
  ·refine L.ixa 5 rfl rfl rfl rfl rfl ?_ ?_ rfl ?_
   ·decide
   ·decide
   repeat'(first|refine M.gw ?_|fail)
   rfl
  ·refine L.ixa 6 rfl rfl rfl rfl rfl ?_ ?_ rfl ?_
   ·decide
   ·decide
   repeat'(first|refine M.gw ?_|fail)
   rfl
  ·refine L.ixa 7 rfl rfl rfl rfl rfl ?_ ?_ rfl ?_
   ·decide
   ·decide
   repeat'(first|refine M.gw ?_|fail)
   rfl
  ·refine L.ixa 8 rfl rfl rfl rfl rfl ?_ ?_ rfl ?_
   ·decide
   ·decide
   repeat'(first|refine M.gw ?_|fail)
   rfl
  ·refine L.ixa 9 rfl rfl rfl rfl rfl ?_ ?_ rfl ?_
   ·decide
   ·decide
   repeat'(first|refine M.gw ?_|fail)
   rfl
  ·refine L.ixa 10 rfl rfl rfl rfl rfl ?_ ?_ rfl ?_
   ·decide
   ·decide
   repeat'(first|refine M.gw ?_|fail)
   rfl
  ·refine L.ixa 11 rfl rfl rfl rfl rfl ?_ ?_ rfl ?_
   ·decide
   ·decide
   repeat'(first|refine M.gw ?_|fail)
   rfl
  ·refine L.ixa 12 rfl rfl rfl rfl rfl ?_ ?_ rfl ?_
   ·decide
   ·decide
   repeat'(first|refine M.gw ?_|fail)
   rfl
  ·refine L.ixa 13 rfl rfl rfl rfl rfl ?_ ?_ rfl ?_
   ·decide
   ·decide
   repeat'(first|refine M.gw ?_|fail)
   rfl
end Go.Ab
namespace Go.Ab
open Go Go.Proofs
set_option maxRecDepth 100000
set_option maxHeartbeats 4000000
set_option linter.all false
theorem copyTm_c:∀(b:Nat) (t:Tm),t.full≤b→b<1099511627776→PC E 107 [.agg t.view] (.agg t.view):=by
 intro b
 induction b with
 |zero=>intro t h;have:=t.full_pos;omega
 |succ b ih=>
 intro t hsz hb
 have hsz':=Tm.full_eq t
 have hlen:=lsum_len Tm.full Tm.full_pos t.args
 have hty:=copyTy_c _ t.ty (Nat.le_refl _) (by omega)
 refine M.F Tryz.func107 ?_
 repeat'(first|refine M.gw ?_|fail)
 refine AW.range t.args.length (fun m=>True)
  (fun m=>([(1,.ptr 0 0),(2,.ptr 1 0),(3,.slice (.own 2) (.t .tm (t.args.take m))),(7,.s .tm t.args),(8,.i t.args.length),(9,.i m)],⟨3,[(0,.var t.view),(1,.var [.i 0,.i 0,.i 0,.slice .nil (.t .ty []),.slice .nil (.t .tm [])]),(2,.row)]⟩))
  (by omega) (fun m=>rfl) (fun m=>rfl) rfl trivial (M.W [some 0,some 1,none]) ?_ ?_
 ·intro m hm hP
  have hs2:=lsum_mem Tm.full (List.getElem_mem hm)
  repeat'(first|refine M.gw ?_|refine M.c2 (ih _ ?_ ?_) ?_|exact M.le|exact M.lt|fail)
  exact⟨rfl,trivial,(M.W [some 0,some 1,some 4] (hf:=(by(repeat'(first|exact trivial|refine And.intro ?_ ?_|refine⟨_,U,_,U,?_⟩|exact VLe.refl _|exact VLe.of_eq (by simp[Sto.upd,List.take_append_getElem])));done)))⟩
 ·intro hP
  repeat'(first|refine M.gw ?_|refine M.c2 (hty) ?_|fail)
  simp[tupV,V.wk,V.wks,constV,Ty.view,Tm.view]
theorem n_c(k:Int)(l:List Tm)(hl:(l.map Tm.full).sum<1099511627776):PC E 51 [.i k,.s .tm l] (.agg (Tm.mk k 0 (.mk 0 []) l).view):=by
 have hlen:=lsum_len Tm.full Tm.full_pos l
 refine M.F Tryz.func51 ?_
 repeat'(first|refine M.gw ?_|fail)
 refine AW.range l.length (fun m=>True)
  (fun m=>([(0,.i k),(4,.ptr 0 0),(5,.slice (.own 1) (.t .tm (l.take m))),(8,.s .tm l),(9,.i l.length),(10,.i m)],⟨2,[(0,.var [.i 0,.i 0,.i 0,.slice .nil (.t .ty []),.slice .nil (.t .tm [])]),(1,.row)]⟩))
  (by omega) (fun m=>rfl) (fun m=>rfl) rfl trivial (M.W [some 0,none]) ?_ ?_
 ·intro m hm hP
  have hs2:=lsum_mem Tm.full (List.getElem_mem hm)
  repeat'(first|refine M.gw ?_|refine M.c2 (copyTm_c _ _ (Nat.le_refl _) ?_) ?_|exact M.lt|fail)
  exact⟨rfl,trivial,(M.W [some 0,some 3] (hf:=(by(repeat'(first|exact trivial|refine And.intro ?_ ?_|refine⟨_,U,_,U,?_⟩|exact VLe.refl _|exact VLe.of_eq (by simp[Sto.upd,List.take_append_getElem])));done)))⟩
 ·intro hP
  repeat'(first|refine M.gw ?_|fail)
  simp[tupV,V.wk,V.wks,constV,Ty.view,Tm.view]
theorem t_c(k:Int)(s:Ty)(l:List Tm)(hl:(l.map Tm.full).sum<1099511627776)(hs:s.size<1099511627776):PC E 52 [.i k,.agg s.view,.s .tm l] (.agg (Tm.mk k 0 s l).view):=by
 have h1:=n_c k l hl
 have h2:=copyTy_c _ s (Nat.le_refl _) hs
 refine M.F Tryz.func52 ?_
 repeat'(first|refine M.gw ?_|refine M.c2 (h1) ?_|refine M.c2 (h2) ?_|fail)
 simp[tupV,V.wk,V.wks,constV,Ty.view,Tm.view]
theorem Ty.ok_err(t:Ty):t.ok=(t.err==0):=by
 simp only[Ty.ok,Ty.err]
 cases t.shape
 ·simp
 ·by_cases h:t.size≤64
  ·have:¬t.size>64:=by omega
   simp[h,this]
  ·have:t.size>64:=by omega
   simp[h,this]
theorem Tm.head_eq(t:Tm):t.head=(!(!(arK t.kind).isSome)&& !((t.args.length:Int) !=(((arK t.kind).getD 0:Nat):Int))&& !decide (t.index<0)&&(!(t.index !=0)|| !(t.kind !=1))&&(bif typedK t.kind then !(t.ty.err !=0) else !(!t.ty.isNo))):=by
 simp only[Tm.head,Ty.ok_err]
 cases hk:arK t.kind with
 |none=>simp
 |some n=>
  have h1:(t.args.length==n)= !((t.args.length:Int) !=((n:Nat):Int)):=by rw[Bool.eq_iff_iff];simp;omega
  have h2:decide (0≤t.index)= !decide (t.index<0):=by rw[Bool.eq_iff_iff];simp
  simp[h1,h2,bne]
theorem termNodes_c:∀(b:Nat) (t:Tm),t.full≤b→b<1099511627776→PC E 150 [.agg t.view] (nodesM t):=by
 intro b
 induction b with
 |zero=>intro t h;have:=t.full_pos;omega
 |succ b ih=>
 intro t hsz hb
 have hsz':=Tm.full_eq t
 have hszz:=Tm.size_eq t
 have hle:=Tm.size_le_full t
 have hlen:=lsum_len Tm.full Tm.full_pos t.args
 have hsh:=Tm.shape_eq t
 have h1:=arity_c t.kind
 have h2:=typed_c t.kind
 have h3:=noType_c t.ty
 have h4:=checkTy_c t.ty (by omega)
 have bad:t.shape=false→(V.tup [.i 0,.bool false])=nodesM t:=fun h=>by simp[nodesM,Tm.nodes,h]
 refine M.F Tryz.func150 ?_
 repeat'(first|refine M.gw ?_|refine M.c2 (h1) ?_|refine M.c2 (h2) ?_|refine M.c2 (h3) ?_|refine M.c2 (h4) ?_|refine M.gs ?_ ?_<;>intro h|refine M.cs ?_ ?_<;>intro h|fail)
 all_goals first
  |(have hd:t.head=false:=by rw[t.head_eq];simp_all
    have:t.shape=false:=by rw[hsh,hd,Bool.false_and]
    simp[Tm.nodes,this,tupV,constV,V.wk,V.wks];done)
  |(have hd:t.head=true:=by rw[t.head_eq];simp_all
    refine AW.range t.args.length (fun m=>∀j (hj:j<t.args.length),j<m→(t.args[j]).shape=true)
     (fun m=>([(1,.ptr 0 0),(8,.i (1+((t.args.take m).map Tm.size).sum)),(59,.s .tm t.args),(60,.i t.args.length),(61,.i m)],⟨1,[(0,.var t.view)]⟩))
     (by omega) (fun m=>rfl) (fun m=>rfl) rfl (by intro j hj h;omega) (M.W [some 0]) ?_ ?_
    ·intro m hm hP
     have hs1:=lsum_take Tm.size t.args m hm
     have hs2:=lsum_mem Tm.full (List.getElem_mem hm)
     have hs3:=lsum_take_le Tm.size t.args (m+1)
     have hs4:=Tm.nodes_le t.args[m]
     have hs5:=Tm.size_le_full t.args[m]
     repeat'(first|refine M.gw ?_|refine M.c2 (ih _ ?_ ?_) ?_|refine M.cs ?_ ?_<;>intro h|exact M.le|exact M.lt|fail)
     ·have h1:(t.args[m]).shape=false:=by simpa using h
      have:t.shape=false:=by rw[hsh,all_not Tm.shape hm h1,Bool.and_false]
      simp[Tm.nodes,this,tupV,constV,V.wk,V.wks]
     ·have hh:(t.args[m]).shape=true:=by simpa using h
      refine⟨rfl,all_step (p:=fun t=>Tm.shape t=true) hm hP hh,?_⟩
      have e:(1+((((t.args.take (m+1)).map Tm.size).sum:Nat):Int))=1+(((t.args.take m).map Tm.size).sum:Nat)+t.args[m].nodes:=by simp only[Tm.nodes,hh,hs1];simp;omega
      simp only[e]
      exact(M.W [some 0])
    ·intro hP
     have:t.shape=true:=by simp only[hsh,hd,all_of Tm.shape t.args fun j hj=>hP j hj hj];simp
     repeat'(first|refine M.gw ?_|fail)
     simp[Tm.nodes,this,tupV,constV,hszz,V.wk,V.wks])
theorem checkTm_c(t:Tm)(ht:t.full<1099511627776):PC E 144 [.agg t.view] (.tup [.i t.num,.i t.err]):=by
 have h1:=termNodes_c _ t (Nat.le_refl _) ht
 refine M.F Tryz.func144 ?_
 repeat'(first|refine M.gw ?_|refine M.c2 (h1) ?_|refine M.zb ?_|refine M.cs ?_ ?_<;>intro h|fail)
 all_goals simp_all[tupV,V.wk,V.wks,constV,Tm.num,Tm.err,Tm.nodes]
 all_goals(first|omega|(split<;>first|omega|simp_all))
theorem size_c(t:Tm)(ht:t.full<1099511627776):PC E 98 [.agg t.view] (.tup [.i t.num,.i t.err]):=by
 have h1:=checkTm_c t ht
 refine M.F Tryz.func98 ?_
 repeat'(first|refine M.gw ?_|refine M.c2 (h1) ?_|fail)
 simp[tupV,V.wk,V.wks,constV,Ty.view,Tm.view]
end Go.Ab
namespace Go.Ab
open Go Go.Proofs
set_option maxRecDepth 100000
set_option linter.all false
theorem sameTy_c:∀(n:Nat) (x y:Ty),x.size≤n→n<1099511627776→PC E 55 [.agg x.view,.agg y.view] (.bool (decide (x=y))):=by
 intro n
 induction n with
 |zero=>intro x y h;have:=x.size_pos;omega
 |succ n ih=>
 intro x y hsz hb
 have hsz':=Ty.size_eq x
 have hlen:=lsum_len Ty.size Ty.size_pos x.args
 have heq:=Ty.eq_iff x y
 refine M.F Tryz.func55 ?_
 repeat'(first|refine M.gw ?_|refine M.gs ?_ ?_<;>intro h|refine M.cs ?_ ?_<;>intro h|fail)
 ·have:¬x=y:=by rw[heq];simp_all
  simp[this,tupV,constV,V.wk,V.wks]
 ·have:¬x=y:=by rintro rfl;simp at h
  simp[this,tupV,constV,V.wk,V.wks]
 ·rename_i hk
  simp at h hk
  have hl:x.args.length=y.args.length:=by omega
  refine AW.range x.args.length (fun m=>∀j (hj:j<x.args.length),j<m→x.args[j]=y.args[j]'(by omega))
   (fun m=>([(2,.ptr 0 0),(3,.ptr 1 0),(22,.i x.args.length),(23,.i m)],⟨2,[(0,.var x.view),(1,.var y.view)]⟩))
   (by omega) (fun m=>rfl) (fun m=>rfl) rfl (by intro j hj h;omega) (M.W [some 0,some 1]) ?_ ?_
  ·intro m hm hP
   have hm':m<y.args.length:=by omega
   have hs2:=lsum_mem Ty.size (List.getElem_mem hm)
   repeat'(first|refine M.gw ?_|refine M.c2 (ih _ _ ?_ ?_) ?_|refine M.cs ?_ ?_<;>intro h|exact M.le|exact M.lt|fail)
   ·have:¬x=y:=by rw[heq];exact fun hc=>list_ne hm hm' (by simpa using h) hc.2
    simp[this,tupV,constV,V.wk,V.wks]
   ·exact ⟨rfl,step2 hl hm hP (by simpa using h),(M.W [some 0,some 1])⟩
  ·intro hP
   have:x=y:=heq.2 ⟨hk,list_eq hl hP⟩
   repeat'(first|refine M.gw ?_|fail)
   simp[this,tupV,constV,V.wk,V.wks]
theorem sameTy2_c:∀(n:Nat) (x y:Ty),x.size≤n→n<1099511627776→PC E 128 [.agg x.view,.agg y.view] (.bool (decide (x=y))):=by
 intro n
 induction n with
 |zero=>intro x y h;have:=x.size_pos;omega
 |succ n ih=>
 intro x y hsz hb
 have hsz':=Ty.size_eq x
 have hlen:=lsum_len Ty.size Ty.size_pos x.args
 have heq:=Ty.eq_iff x y
 refine M.F Tryz.func128 ?_
 repeat'(first|refine M.gw ?_|refine M.gs ?_ ?_<;>intro h|refine M.cs ?_ ?_<;>intro h|fail)
 ·have:¬x=y:=by rw[heq];simp_all
  simp[this,tupV,constV,V.wk,V.wks]
 ·have:¬x=y:=by rintro rfl;simp at h
  simp[this,tupV,constV,V.wk,V.wks]
 ·rename_i hk
  simp at h hk
  have hl:x.args.length=y.args.length:=by omega
  refine AW.range x.args.length (fun m=>∀j (hj:j<x.args.length),j<m→x.args[j]=y.args[j]'(by omega))
   (fun m=>([(2,.ptr 0 0),(3,.ptr 1 0),(22,.s .ty x.args),(23,.i x.args.length),(24,.i m)],⟨2,[(0,.var x.view),(1,.var y.view)]⟩))
   (by omega) (fun m=>rfl) (fun m=>rfl) rfl (by intro j hj h;omega) (M.W [some 0,some 1]) ?_ ?_
  ·intro m hm hP
   have hm':m<y.args.length:=by omega
   have hs2:=lsum_mem Ty.size (List.getElem_mem hm)
   repeat'(first|refine M.gw ?_|refine M.c2 (ih _ _ ?_ ?_) ?_|refine M.cs ?_ ?_<;>intro h|exact M.le|exact M.lt|fail)
   ·have:¬x=y:=by rw[heq];exact fun hc=>list_ne hm hm' (by simpa using h) hc.2
    simp[this,tupV,constV,V.wk,V.wks]
   ·exact ⟨rfl,step2 hl hm hP (by simpa using h),(M.W [some 0,some 1])⟩
  ·intro hP
   have:x=y:=heq.2 ⟨hk,list_eq hl hP⟩
   repeat'(first|refine M.gw ?_|fail)
   simp[this,tupV,constV,V.wk,V.wks]
theorem sameTm_c:∀(n:Nat) (x y:Tm),x.full≤n→n<1099511627776→PC E 127 [.agg x.view,.agg y.view] (.bool (decide (x=y))):=by
 intro n
 induction n with
 |zero=>intro x y h;have:=x.full_pos;omega
 |succ n ih=>
 intro x y hsz hb
 have hsz':=Tm.full_eq x
 have hlen:=lsum_len Tm.full Tm.full_pos x.args
 have heq:=Tm.eq_iff x y
 have hty:=sameTy_c _ x.ty y.ty (Nat.le_refl _) (by omega)
 refine M.F Tryz.func127 ?_
 repeat'(first|refine M.gw ?_|refine M.c2 (hty) ?_|refine M.gs ?_ ?_<;>intro h|refine M.cs ?_ ?_<;>intro h|fail)
 ·have:¬x=y:=by rw[heq];simp_all
  simp[this,tupV,constV,V.wk,V.wks]
 ·have:¬x=y:=by rw[heq];simp_all
  simp[this,tupV,constV,V.wk,V.wks]
 ·have:¬x=y:=by rw[heq];simp_all
  simp[this,tupV,constV,V.wk,V.wks]
 ·have:¬x=y:=by rintro rfl;simp at h
  simp[this,tupV,constV,V.wk,V.wks]
 ·rename_i h1 h2 h3
  simp at h h1 h2 h3
  have hl:x.args.length=y.args.length:=by omega
  refine AW.range x.args.length (fun m=>∀j (hj:j<x.args.length),j<m→x.args[j]=y.args[j]'(by omega))
   (fun m=>([(2,.ptr 0 0),(3,.ptr 1 0),(37,.i x.args.length),(38,.i m)],⟨2,[(0,.var x.view),(1,.var y.view)]⟩))
   (by omega) (fun m=>rfl) (fun m=>rfl) rfl (by intro j hj h;omega) (M.W [some 0,some 1]) ?_ ?_
  ·intro m hm hP
   have hm':m<y.args.length:=by omega
   have hs2:=lsum_mem Tm.full (List.getElem_mem hm)
   repeat'(first|refine M.gw ?_|refine M.c2 (ih _ _ ?_ ?_) ?_|refine M.cs ?_ ?_<;>intro h|exact M.le|exact M.lt|fail)
   ·have:¬x=y:=by rw[heq];exact fun hc=>list_ne hm hm' (by simpa using h) hc.2.2.2
    simp[this,tupV,constV,V.wk,V.wks]
   ·exact ⟨rfl,step2 hl hm hP (by simpa using h),(M.W [some 0,some 1])⟩
  ·intro hP
   have:x=y:=heq.2 ⟨h1,h2,h3,list_eq hl hP⟩
   repeat'(first|refine M.gw ?_|fail)
   simp[this,tupV,constV,V.wk,V.wks]
theorem sameTm2_c:∀(n:Nat) (x y:Tm),x.full≤n→n<1099511627776→PC E 129 [.agg x.view,.agg y.view] (.bool (decide (x=y))):=by
 intro n
 induction n with
 |zero=>intro x y h;have:=x.full_pos;omega
 |succ n ih=>
 intro x y hsz hb
 have hsz':=Tm.full_eq x
 have hlen:=lsum_len Tm.full Tm.full_pos x.args
 have heq:=Tm.eq_iff x y
 have hty:=sameTy2_c _ x.ty y.ty (Nat.le_refl _) (by omega)
 refine M.F Tryz.func129 ?_
 repeat'(first|refine M.gw ?_|refine M.c2 (hty) ?_|refine M.gs ?_ ?_<;>intro h|refine M.cs ?_ ?_<;>intro h|fail)
 ·have:¬x=y:=by rw[heq];simp_all
  simp[this,tupV,constV,V.wk,V.wks]
 ·have:¬x=y:=by rw[heq];simp_all
  simp[this,tupV,constV,V.wk,V.wks]
 ·have:¬x=y:=by rw[heq];simp_all
  simp[this,tupV,constV,V.wk,V.wks]
 ·have:¬x=y:=by rintro rfl;simp at h
  simp[this,tupV,constV,V.wk,V.wks]
 ·rename_i h1 h2 h3
  simp at h h1 h2 h3
  have hl:x.args.length=y.args.length:=by omega
  refine AW.range x.args.length (fun m=>∀j (hj:j<x.args.length),j<m→x.args[j]=y.args[j]'(by omega))
   (fun m=>([(2,.ptr 0 0),(3,.ptr 1 0),(37,.s .tm x.args),(38,.i x.args.length),(39,.i m)],⟨2,[(0,.var x.view),(1,.var y.view)]⟩))
   (by omega) (fun m=>rfl) (fun m=>rfl) rfl (by intro j hj h;omega) (M.W [some 0,some 1]) ?_ ?_
  ·intro m hm hP
   have hm':m<y.args.length:=by omega
   have hs2:=lsum_mem Tm.full (List.getElem_mem hm)
   repeat'(first|refine M.gw ?_|refine M.c2 (ih _ _ ?_ ?_) ?_|refine M.cs ?_ ?_<;>intro h|exact M.le|exact M.lt|fail)
   ·have:¬x=y:=by rw[heq];exact fun hc=>list_ne hm hm' (by simpa using h) hc.2.2.2
    simp[this,tupV,constV,V.wk,V.wks]
   ·exact ⟨rfl,step2 hl hm hP (by simpa using h),(M.W [some 0,some 1])⟩
  ·intro hP
   have:x=y:=heq.2 ⟨h1,h2,h3,list_eq hl hP⟩
   repeat'(first|refine M.gw ?_|fail)
   simp[this,tupV,constV,V.wk,V.wks]
def nearF(b:Bool)(l:List (Int×Int)):Bool:=b&&l.all fun p=>decide (p.1≤536870912)
theorem nearF_append(b:Bool)(l l':List (Int×Int)):nearF (nearF b l) l'=nearF b (l++l'):=by simp[nearF,Bool.and_assoc]
theorem nearF_nil(b:Bool):nearF b []=b:=by simp[nearF]
theorem nearCb(b:Bool)(i bl:Int):AC E 145 [.i i,.i bl,.ptr 0 0] ⟨1,[(0,.var [.bool b])]⟩ (.tup []) ⟨1,[(0,.var [.bool (nearF b [(i,bl)])])]⟩:=by
 refine M.F Tryz.func145 ?_
 repeat'(first|refine M.gw ?_|refine M.gs ?_ ?_<;>intro h|fail)
 ·(exact M.n2 [some 0] (h6:=(by(repeat'(first|exact trivial|refine And.intro ?_ ?_|refine⟨_,U,_,U,_,U,?_⟩|exact VLe.of_eq (by simp[Sto.upd,nearF,h])));done)) (h8:=(by simp[tupV,V.wk,V.wks,constV,Ty.view,Tm.view,nearF,h])))
 ·(exact M.n2 [some 0] (h6:=(by(repeat'(first|exact trivial|refine And.intro ?_ ?_|refine⟨_,U,_,U,_,U,?_⟩|exact VLe.of_eq (by simp[Sto.upd,nearF,h])));done)) (h8:=(by simp[tupV,V.wk,V.wks,constV,Ty.view,Tm.view,nearF,h])))
theorem nearEach1:∀(n:Nat) (t:Tm) (b:Bool) (bl:Int),t.full≤n→n<1099511627776→0≤bl→bl+n<1099511627776→AC E 114 [.agg t.view,.i bl,.ptr 0 0,.ptr 1 0] ⟨3,[(0,.var [.fn (.func 145) [] [.ptr 2 0]]),(1,.var [.fn (.func 114) [] [.ptr 0 0,.ptr 1 0]]),(2,.var [.bool b])]⟩ (.tup [])
 ⟨3,[(0,.var [.fn (.func 145) [] [.ptr 2 0]]),(1,.var [.fn (.func 114) [] [.ptr 0 0,.ptr 1 0]]),(2,.var [.bool (nearF b (t.vars bl))])]⟩:=by
 intro n
 induction n with
 |zero=>intro t b bl h;have:=t.full_pos;omega
 |succ n ih=>
 intro t b bl hsz hb hbl hbn
 have hsz':=Tm.full_eq t
 have hlen:=lsum_len Tm.full Tm.full_pos t.args
 have hv:=Tm.vars_eq bl t
 refine M.F Tryz.func114 ?_
 repeat'(first|refine M.gw ?_|refine M.cv (nearCb _ _ _) [2] 0 ?_|refine M.cs ?_ ?_<;>intro h|fail)
 all_goals
  have hup:up t.kind bl≤bl+1:=by simp only[up];split<;>omega
  have hup0:0≤up t.kind bl:=by simp only[up];split<;>omega
  refine AW.range t.args.length (fun m=>True)
   (fun m=>([(1,.i (up t.kind bl)),(3,.ptr 1 0),(22,.s .tm t.args),(23,.i t.args.length),(24,.i m)],⟨4,[(0,.var [.fn (.func 145) [] [.ptr 2 0]]),(1,.var [.fn (.func 114) [] [.ptr 0 0,.ptr 1 0]]),(2,.var [.bool (nearF b ((if t.kind=1 then [(t.index,bl)] else [])++(t.args.take m).flatMap (Tm.vars (up t.kind bl))))]),(3,.var t.view)]⟩))
   (by omega) (fun m=>rfl) (fun m=>rfl) rfl trivial ?_ ?_ ?_
  ·simp_all only[beq_iff_eq,beq_eq_false_iff_ne,ne_eq]
   exact(M.W [some 0,some 1,some 2,some 3] (hf:=(by(repeat'(first|exact trivial|refine And.intro ?_ ?_|refine⟨_,U,_,U,?_⟩|exact VLe.refl _|exact VLe.of_eq (by simp[Sto.upd,up, *,nearF_nil])));done)) (he:=(by(repeat'(first|exact trivial|refine And.intro ?_ ?_|refine⟨_,U,_,U,_,U,?_⟩|exact VLe.refl _|exact VLe.of_eq (by simp[Sto.upd,up, *,nearF_nil])));done)))
  ·intro m hm hP
   have hs2:=lsum_mem Tm.full (List.getElem_mem hm)
   have hc:=ih t.args[m] (nearF b ((if t.kind=1 then [(t.index,bl)] else [])++(t.args.take m).flatMap (Tm.vars (up t.kind bl)))) (up t.kind bl) (by omega) (by omega) hup0 (by omega)
   repeat'(first|refine M.gw ?_|refine M.cv (hc) [0,1,2] 0 ?_|fail)
   refine⟨rfl,trivial,?_⟩
   exact(M.W [some 0,some 1,some 2,some 3] (he:=(by(repeat'(first|exact trivial|refine And.intro ?_ ?_|refine⟨_,U,_,U,_,U,?_⟩|exact VLe.refl _|exact VLe.of_eq (by simp[Sto.upd,nearF_append,flat_take _ _ _ hm])));done)))
  ·intro hP
   skip
   (exact M.n2 [some 0,some 1,some 2] (h6:=(by(repeat'(first|exact trivial|refine And.intro ?_ ?_|refine⟨_,U,_,U,_,U,?_⟩|exact VLe.refl _|exact VLe.of_eq (by simp[Sto.upd,hv])));done)) (h8:=(by simp[tupV,V.wk,V.wks,constV,Ty.view,Tm.view,hv])))
theorem nearEach(t:Tm)(b:Bool)(ht:t.full<1099511627776):AC E 66 [.agg t.view,.fn (.func 145) [] [.ptr 0 0]] ⟨1,[(0,.var [.bool b])]⟩ (.tup []) ⟨1,[(0,.var [.bool (nearF b (t.vars 0))])]⟩:=by
 have hc:=nearEach1 _ t b 0 (Nat.le_refl _) (by omega) (by omega) (by omega)
 refine M.F Tryz.func66 ?_
 repeat'(first|refine M.gw ?_|refine M.cv (hc) [2,3,0] 0 ?_|fail)
 (exact M.n2 [some 0] (h8:=(by simp[tupV,V.wk,V.wks,constV,Ty.view,Tm.view,nearF])))
theorem near_c(t:Tm)(ht:t.full<1099511627776):PC E 99 [.agg t.view] (.bool t.near):=by
 have hc:=nearEach t true ht
 refine M.F Tryz.func99 ?_
 repeat'(first|refine M.gw ?_|refine M.cb (hc) [1] 0 ?_|fail)
 simp[tupV,V.wk,V.wks,nearF,Tm.near]
theorem countCb(at_ c i bl:Int)(hc:0≤c∧c<1099511627776)(hi:0≤i∧i<9223372036854775808)(hb:0≤bl∧bl<1099511627776):AC E 164 [.i i,.i bl,.ptr 0 0,.ptr 1 0] ⟨2,[(0,.var [.i at_]),(1,.var [.i c])]⟩ (.tup []) ⟨2,[(0,.var [.i at_]),(1,.var [.i (c+cnt at_ [(i,bl)])])]⟩:=by
 refine M.F Tryz.func164 ?_
 repeat'(first|refine M.gw ?_|refine M.cs ?_ ?_<;>intro h|fail)
 ·have:i-bl=at_:=by simpa using h
  (exact M.n2 [some 0,some 1] (h6:=(by(repeat'(first|exact trivial|refine And.intro ?_ ?_|refine⟨_,U,_,U,_,U,?_⟩|exact VLe.refl _|exact VLe.of_eq (by simp[Sto.upd,cnt_one,this])));done)) (h8:=(by simp[tupV,V.wk,V.wks,constV,Ty.view,Tm.view,cnt_one,this])))
 ·have:¬i-bl=at_:=by simpa using h
  (exact M.n2 [some 0,some 1] (h6:=(by(repeat'(first|exact trivial|refine And.intro ?_ ?_|refine⟨_,U,_,U,_,U,?_⟩|exact VLe.refl _|exact VLe.of_eq (by simp[Sto.upd,cnt_one,this])));done)) (h8:=(by simp[tupV,V.wk,V.wks,constV,Ty.view,Tm.view,cnt_one,this])))
theorem countEach1(at_:Int):∀(n:Nat) (t:Tm) (c:Int) (bl:Int),t.full≤n→n<1099511627776→0≤bl→bl+n<1099511627776→0≤c→c+t.full<1099511627776→(∀p∈t.vars bl,0≤p.1∧p.1<9223372036854775808)→AC E 114 [.agg t.view,.i bl,.ptr 0 0,.ptr 1 0] ⟨4,[(0,.var [.fn (.func 164) [] [.ptr 2 0,.ptr 3 0]]),(1,.var [.fn (.func 114) [] [.ptr 0 0,.ptr 1 0]]),(2,.var [.i at_]),(3,.var [.i c])]⟩ (.tup [])
 ⟨4,[(0,.var [.fn (.func 164) [] [.ptr 2 0,.ptr 3 0]]),(1,.var [.fn (.func 114) [] [.ptr 0 0,.ptr 1 0]]),(2,.var [.i at_]),(3,.var [.i (c+cnt at_ (t.vars bl))])]⟩:=by
 intro n
 induction n with
 |zero=>intro t b bl h;have:=t.full_pos;omega
 |succ n ih=>
 intro t c bl hsz hb hbl hbn hc0 hcn hix
 have hsz':=Tm.full_eq t
 have hlen:=lsum_len Tm.full Tm.full_pos t.args
 have hv:=Tm.vars_eq bl t
 have hi:t.kind=1→0≤t.index∧t.index<9223372036854775808:=fun h=>by simpa using hix (t.index,bl) (by rw[hv];simp[h])
 have hcb:t.kind=1→_:=fun h=>countCb at_ c t.index bl (by omega) (hi h) (by omega)
 refine M.F Tryz.func114 ?_
 repeat'(first|refine M.gw ?_|refine M.cv (hcb (by simpa using h)) [2,3] 0 ?_|refine M.cs ?_ ?_<;>intro h|fail)
 all_goals
  have hup:up t.kind bl≤bl+1:=by simp only[up];split<;>omega
  have hup0:0≤up t.kind bl:=by simp only[up];split<;>omega
  refine AW.range t.args.length (fun m=>True)
   (fun m=>([(1,.i (up t.kind bl)),(3,.ptr 1 0),(22,.s .tm t.args),(23,.i t.args.length),(24,.i m)],⟨5,[(0,.var [.fn (.func 164) [] [.ptr 2 0,.ptr 3 0]]),(1,.var [.fn (.func 114) [] [.ptr 0 0,.ptr 1 0]]),(2,.var [.i at_]),(3,.var [.i (c+cnt at_ ((if t.kind=1 then [(t.index,bl)] else [])++(t.args.take m).flatMap (Tm.vars (up t.kind bl))))]),(4,.var t.view)]⟩))
   (by omega) (fun m=>rfl) (fun m=>rfl) rfl trivial ?_ ?_ ?_
  ·simp_all only[beq_iff_eq,beq_eq_false_iff_ne,ne_eq]
   exact(M.W [some 0,some 1,some 2,some 3,some 4] (hf:=(by(repeat'(first|exact trivial|refine And.intro ?_ ?_|refine⟨_,U,_,U,?_⟩|exact VLe.refl _|exact VLe.of_eq (by simp[Sto.upd,up, *,cnt_append,cnt])));done)) (he:=(by(repeat'(first|exact trivial|refine And.intro ?_ ?_|refine⟨_,U,_,U,_,U,?_⟩|exact VLe.refl _|exact VLe.of_eq (by simp[Sto.upd,up, *,cnt_append,cnt])));done)))
  ·intro m hm hP
   have hs2:=lsum_mem Tm.full (List.getElem_mem hm)
   have hs3:cnt at_ ((if t.kind=1 then [(t.index,bl)] else [])++(t.args.take m).flatMap (Tm.vars (up t.kind bl)))+t.args[m].full≤1+(t.args.map Tm.full).sum:=by
    have h1:=cnt_le at_ ((if t.kind=1 then [(t.index,bl)] else [])++(t.args.take m).flatMap (Tm.vars (up t.kind bl)))
    have h2:=flatLen (t.args.take m) (Tm.vars (up t.kind bl)) fun x _=>x.vars_len _
    have h3:((t.args.take m).map Tm.size).sum≤((t.args.take m).map Tm.full).sum:=lsum_le _ (fun x _=>x.size_le_full)
    have h4:=lsum_take Tm.full t.args m hm
    have h5:=lsum_take_le Tm.full t.args (m+1)
    have h6:(if t.kind=1 then [(t.index,bl)] else []).length≤1:=by split<;>simp
    simp only[List.length_append] at h1
    omega
   have hix':∀p∈(t.args[m]).vars (up t.kind bl),0≤p.1∧p.1<9223372036854775808:=fun p hp=>hix p (by rw[hv];exact List.mem_append_right _ (List.mem_flatMap.2 ⟨_,List.getElem_mem hm,hp⟩))
   have hc:=ih t.args[m] (c+cnt at_ ((if t.kind=1 then [(t.index,bl)] else [])++(t.args.take m).flatMap (Tm.vars (up t.kind bl)))) (up t.kind bl) (by omega) (by omega) hup0 (by omega) (by omega) (by omega) hix'
   repeat'(first|refine M.gw ?_|refine M.cv (hc) [0,1,2,3] 0 ?_|fail)
   refine⟨rfl,trivial,?_⟩
   exact(M.W [some 0,some 1,some 2,some 3,some 4] (he:=(by(repeat'(first|exact trivial|refine And.intro ?_ ?_|refine⟨_,U,_,U,_,U,?_⟩|exact VLe.refl _|exact VLe.of_eq (by simp[Sto.upd,cnt_append,flat_take _ _ _ hm,Int.add_assoc])));done)))
  ·intro hP
   skip
   (exact M.n2 [some 0,some 1,some 2,some 3] (h6:=(by(repeat'(first|exact trivial|refine And.intro ?_ ?_|refine⟨_,U,_,U,_,U,?_⟩|exact VLe.refl _|exact VLe.of_eq (by simp[Sto.upd,hv])));done)) (h8:=(by simp[tupV,V.wk,V.wks,constV,Ty.view,Tm.view,hv])))
theorem countEach(t:Tm)(at_:Int)(ht:t.full<549755813888)(hix:∀p∈t.vars 0,0≤p.1∧p.1<9223372036854775808):AC E 66 [.agg t.view,.fn (.func 164) [] [.ptr 0 0,.ptr 1 0]] ⟨2,[(0,.var [.i at_]),(1,.var [.i 0])]⟩ (.tup []) ⟨2,[(0,.var [.i at_]),(1,.var [.i (cnt at_ (t.vars 0))])]⟩:=by
 have hc:=countEach1 at_ _ t 0 0 (Nat.le_refl _) (by omega) (by omega) (by omega) (by omega) (by omega) hix
 refine M.F Tryz.func66 ?_
 repeat'(first|refine M.gw ?_|refine M.cv (hc) [3,4,0,1] 0 ?_|fail)
 (exact M.n2 [some 0,some 1] (h6:=(by(repeat'(first|exact trivial|refine And.intro ?_ ?_|refine⟨_,U,_,U,_,U,?_⟩|exact VLe.refl _|exact VLe.of_eq (by simp[Sto.upd,cnt])));done)) (h8:=(by simp[tupV,V.wk,V.wks,constV,Ty.view,Tm.view,cnt])))
theorem count_w(t:Tm)(at_:Int)(ht:t.full<549755813888)(hix:∀p∈t.vars 0,0≤p.1∧p.1<9223372036854775808):PC E 140 [.agg t.view,.i at_] (.i (cnt at_ (t.vars 0))):=by
 have hc:=countEach t at_ ht hix
 refine M.F Tryz.func140 ?_
 repeat'(first|refine M.gw ?_|refine M.cb (hc) [1,2] 0 ?_|fail)
 simp[tupV,V.wk,V.wks]
theorem count_c(t:Tm)(at_:Int)(ht:t.full<549755813888)(hix:∀p∈t.vars 0,0≤p.1∧p.1<1099511627776):PC E 140 [.agg t.view,.i at_] (.i (cnt at_ (t.vars 0))):=
 count_w t at_ ht fun p hp=>by have:=hix p hp;omega
theorem liftCb(fr by_ i bl:Int)(hi:0≤i∧i<549755813888)(hb:0≤bl∧bl<1099511627776)(hy: -1099511627776≤by_∧by_<1099511627776):AC E 163 [.i i,.i bl,.ptr 0 0,.ptr 1 0] ⟨2,[(0,.var [.i fr]),(1,.var [.i by_])]⟩ (.agg (liftG fr by_ i bl).view) ⟨2,[(0,.var [.i fr]),(1,.var [.i by_])]⟩:=by
 have hv:=tvar_c
 refine M.F Tryz.func163 ?_
 repeat'(first|refine M.gw ?_|refine M.c2 (hv _) ?_|refine M.cs ?_ ?_<;>intro h|fail)
 ·have h':fr≤i-bl:=by simpa using h
  (exact M.n2 [some 0,some 1] (h8:=(by simp[tupV,V.wk,V.wks,constV,Ty.view,Tm.view,liftG,h'])))
 ·have h':¬fr≤i-bl:=by simpa using h
  (exact M.n2 [some 0,some 1] (h8:=(by simp[tupV,V.wk,V.wks,constV,Ty.view,Tm.view,liftG,h'])))
theorem liftRe1(fr by_:Int)(hy: -1099511627776≤by_∧by_<1099511627776):∀(n:Nat) (t:Tm) (bl:Int),t.full≤n→n<549755813888→0≤bl→bl+n<549755813888→(∀p∈t.vars bl,0≤p.1∧p.1<549755813888)→AC E 184 [.agg t.view,.i bl,.ptr 0 0,.ptr 1 0] ⟨4,[(0,.var [.fn (.func 163) [] [.ptr 2 0,.ptr 3 0]]),(1,.var [.fn (.func 184) [] [.ptr 0 0,.ptr 1 0]]),(2,.var [.i fr]),(3,.var [.i by_])]⟩ (.agg (t.re (liftG fr by_) bl).view) ⟨4,[(0,.var [.fn (.func 163) [] [.ptr 2 0,.ptr 3 0]]),(1,.var [.fn (.func 184) [] [.ptr 0 0,.ptr 1 0]]),(2,.var [.i fr]),(3,.var [.i by_])]⟩:=by
 intro n
 induction n with
 |zero=>intro t bl h;have:=t.full_pos;omega
 |succ n ih=>
 intro t bl hsz hb hbl hbn hix
 have hsz':=Tm.full_eq t
 have hlen:=lsum_len Tm.full Tm.full_pos t.args
 have hv:=Tm.vars_eq bl t
 have hre:=Tm.re_eq (liftG fr by_) bl t
 have hi:t.kind=1→0≤t.index∧t.index<549755813888:=fun h=>by simpa using hix (t.index,bl) (by rw[hv];simp[h])
 have hcb:t.kind=1→_:=fun h=>liftCb fr by_ t.index bl (hi h) (by omega) hy
 have hown:=ownTy_c _ t.ty (Nat.le_refl _) (by omega)
 refine M.F Tryz.func184 ?_
 repeat'(first|refine M.gw ?_|refine M.cv (hcb (by simpa using h)) [2,3] 0 ?_|refine M.c2 (hown) ?_|refine M.cs ?_ ?_<;>intro h|fail)
 ·have hk:t.kind=1:=by simpa using h
  (exact M.n2 [some 0,some 1,some 2,some 3] (h8:=(by simp[tupV,V.wk,V.wks,constV,Ty.view,Tm.view,hre,hk])))
 all_goals
  rename_i hk1
  have hup:up t.kind bl≤bl+1:=by simp only[up];split<;>omega
  have hup0:0≤up t.kind bl:=by simp only[up];split<;>omega
  have hk1':¬t.kind=1:=by simpa using hk1
  refine AW.range t.args.length (fun m=>True)
   (fun m=>([(1,.i (up t.kind bl)),(3,.ptr 1 0),(6,.ptr 5 0),(7,.ptr 6 0),(32,.s .tm t.args),(33,.i t.args.length),(34,.i m)],⟨8,[(0,.var [.fn (.func 163) [] [.ptr 2 0,.ptr 3 0]]),(1,.var [.fn (.func 184) [] [.ptr 0 0,.ptr 1 0]]),(2,.var [.i fr]),(3,.var [.i by_]),(4,.var t.view),(5,.var [.i 0,.i 0,.i 0,.slice .nil (.t .ty []),.slice .nil (.t .tm [])]),(6,.var [.i t.kind,.i t.index,.i t.ty.kind,.s .ty t.ty.args,.slice (.own 7) (.t .tm ((t.args.take m).map (Tm.re (liftG fr by_) (up t.kind bl))))]),(7,.row)]⟩))
   (by omega) (fun m=>rfl) (fun m=>rfl) rfl trivial ?_ ?_ ?_
  ·simp_all only[beq_iff_eq,beq_eq_false_iff_ne,ne_eq]
   exact(M.W [some 0,some 1,some 2,some 3,some 4,some 5,some 6,none] (hf:=(by(repeat'(first|exact trivial|refine And.intro ?_ ?_|refine⟨_,U,_,U,?_⟩|exact VLe.refl _|exact VLe.of_eq (by simp[Sto.upd,up, *])));done)))
  ·intro m hm hP
   have hs2:=lsum_mem Tm.full (List.getElem_mem hm)
   have hix':∀p∈(t.args[m]).vars (up t.kind bl),0≤p.1∧p.1<549755813888:=fun p hp=>hix p (by rw[hv];exact List.mem_append_right _ (List.mem_flatMap.2 ⟨_,List.getElem_mem hm,hp⟩))
   have hc:=ih t.args[m] (up t.kind bl) (by omega) (by omega) hup0 (by omega) hix'
   repeat'(first|refine M.gw ?_|refine M.cv (hc) [0,1,2,3] 0 ?_|fail)
   refine⟨rfl,trivial,?_⟩
   exact(M.W [some 0,some 1,some 2,some 3,some 4,some 5,some 6,some 9] (he:=(by(repeat'(first|exact trivial|exact Or.inr ⟨_,U,rfl⟩|refine And.intro ?_ ?_|refine⟨_,U,_,U,_,U,?_⟩|exact VLe.refl _|exact VLe.of_eq (by simp[Sto.upd,map_take _ _ _ hm])));done)))
  ·intro hP
   repeat'(first|refine M.gw ?_|fail)
   (exact M.n2 [some 0,some 1,some 2,some 3] (h8:=(by simp[tupV,V.wk,V.wks,constV,Ty.view,Tm.view,hre,hk1'])))
theorem liftRe(fr by_:Int)(hy: -1099511627776≤by_∧by_<1099511627776)(t:Tm)(ht:t.full<274877906944)(hix:∀p∈t.vars 0,0≤p.1∧p.1<549755813888):AC E 162 [.agg t.view,.fn (.func 163) [] [.ptr 0 0,.ptr 1 0]] ⟨2,[(0,.var [.i fr]),(1,.var [.i by_])]⟩ (.agg (t.re (liftG fr by_) 0).view) ⟨2,[(0,.var [.i fr]),(1,.var [.i by_])]⟩:=by
 have hc:=liftRe1 fr by_ hy _ t 0 (Nat.le_refl _) (by omega) (by omega) (by omega) hix
 refine M.F Tryz.func162 ?_
 repeat'(first|refine M.gw ?_|refine M.cv (hc) [3,5,0,1] 0 ?_|fail)
 (exact M.n2 [some 0,some 1] (h8:=(by simp[tupV,V.wk,V.wks,constV,Ty.view,Tm.view,hc])))
theorem lift_c(t:Tm)(fr by_:Int)(hy: -1099511627776≤by_∧by_<1099511627776)(ht:t.full<274877906944)(hix:∀p∈t.vars 0,0≤p.1∧p.1<549755813888):PC E 137 [.agg t.view,.i fr,.i by_] (.agg (t.re (liftG fr by_) 0).view):=by
 have hc:=liftRe fr by_ hy t ht hix
 refine M.F Tryz.func137 ?_
 repeat'(first|refine M.gw ?_|refine M.cb (hc) [1,2] 0 ?_|fail)
 simp[tupV,V.wk,V.wks,constV,Ty.view,Tm.view]
theorem putCb(at_:Int)(s:Tm)(i bl:Int)(hat:0≤at_∧at_<549755813888)(hs:s.full<274877906944)(hsi:∀p∈s.vars 0,0≤p.1∧p.1<549755813888)(hi:0≤i∧i<9223372036854775808)(hb:0≤bl∧bl<549755813888):AC E 165 [.i i,.i bl,.ptr 0 0,.ptr 1 0] ⟨2,[(0,.var [.i at_]),(1,.var s.view)]⟩ (.agg (putG at_ s i bl).view) ⟨2,[(0,.var [.i at_]),(1,.var s.view)]⟩:=by
 have hv:=tvar_c
 have hl:=lift_c s 0 (at_+bl) (by omega) hs hsi
 refine M.F Tryz.func165 ?_
 repeat'(first|refine M.gw ?_|refine M.c2 (hv _) ?_|refine M.c2 (hl) ?_|refine M.bl ?_|refine M.cs ?_ ?_<;>intro h|fail)
 ·have h':i-bl=at_:=by simpa using h
  (exact M.n2 [some 0,some 1] (h8:=(by simp[tupV,V.wk,V.wks,constV,Ty.view,Tm.view,putG,h'])))
 ·rename_i h0
  have h0':¬i-bl=at_:=by simpa using h0
  have h':at_<i-bl:=by simpa using h
  (exact M.n2 [some 0,some 1] (h8:=(by simp[tupV,V.wk,V.wks,constV,Ty.view,Tm.view,putG,h',h0'])))
 ·rename_i h0
  have h0':¬i-bl=at_:=by simpa using h0
  have h':¬at_<i-bl:=by simpa using h
  (exact M.n2 [some 0,some 1] (h8:=(by simp[tupV,V.wk,V.wks,constV,Ty.view,Tm.view,putG,h',h0'])))
theorem putRe1(at_:Int)(s:Tm)(hat:0≤at_∧at_<549755813888)(hs:s.full<274877906944)(hsi:∀p∈s.vars 0,0≤p.1∧p.1<549755813888):∀(n:Nat) (t:Tm) (bl:Int),t.full≤n→n<549755813888→0≤bl→bl+n<549755813888→(∀p∈t.vars bl,0≤p.1∧p.1<9223372036854775808)→AC E 184 [.agg t.view,.i bl,.ptr 0 0,.ptr 1 0] ⟨4,[(0,.var [.fn (.func 165) [] [.ptr 2 0,.ptr 3 0]]),(1,.var [.fn (.func 184) [] [.ptr 0 0,.ptr 1 0]]),(2,.var [.i at_]),(3,.var s.view)]⟩ (.agg (t.re (putG at_ s) bl).view) ⟨4,[(0,.var [.fn (.func 165) [] [.ptr 2 0,.ptr 3 0]]),(1,.var [.fn (.func 184) [] [.ptr 0 0,.ptr 1 0]]),(2,.var [.i at_]),(3,.var s.view)]⟩:=by
 intro n
 induction n with
 |zero=>intro t bl h;have:=t.full_pos;omega
 |succ n ih=>
 intro t bl hsz hb hbl hbn hix
 have hsz':=Tm.full_eq t
 have hlen:=lsum_len Tm.full Tm.full_pos t.args
 have hv:=Tm.vars_eq bl t
 have hre:=Tm.re_eq (putG at_ s) bl t
 have hi:t.kind=1→0≤t.index∧t.index<9223372036854775808:=fun h=>by simpa using hix (t.index,bl) (by rw[hv];simp[h])
 have hcb:t.kind=1→_:=fun h=>putCb at_ s t.index bl hat hs hsi (hi h) (by omega)
 have hown:=ownTy_c _ t.ty (Nat.le_refl _) (by omega)
 refine M.F Tryz.func184 ?_
 repeat'(first|refine M.gw ?_|refine M.cv (hcb (by simpa using h)) [2,3] 0 ?_|refine M.c2 (hown) ?_|refine M.cs ?_ ?_<;>intro h|fail)
 ·have hk:t.kind=1:=by simpa using h
  (exact M.n2 [some 0,some 1,some 2,some 3] (h8:=(by simp[tupV,V.wk,V.wks,constV,Ty.view,Tm.view,hre,hk])))
 all_goals
  rename_i hk1
  have hup:up t.kind bl≤bl+1:=by simp only[up];split<;>omega
  have hup0:0≤up t.kind bl:=by simp only[up];split<;>omega
  have hk1':¬t.kind=1:=by simpa using hk1
  refine AW.range t.args.length (fun m=>True)
   (fun m=>([(1,.i (up t.kind bl)),(3,.ptr 1 0),(6,.ptr 5 0),(7,.ptr 6 0),(32,.s .tm t.args),(33,.i t.args.length),(34,.i m)],⟨8,[(0,.var [.fn (.func 165) [] [.ptr 2 0,.ptr 3 0]]),(1,.var [.fn (.func 184) [] [.ptr 0 0,.ptr 1 0]]),(2,.var [.i at_]),(3,.var s.view),(4,.var t.view),(5,.var [.i 0,.i 0,.i 0,.slice .nil (.t .ty []),.slice .nil (.t .tm [])]),(6,.var [.i t.kind,.i t.index,.i t.ty.kind,.s .ty t.ty.args,.slice (.own 7) (.t .tm ((t.args.take m).map (Tm.re (putG at_ s) (up t.kind bl))))]),(7,.row)]⟩))
   (by omega) (fun m=>rfl) (fun m=>rfl) rfl trivial ?_ ?_ ?_
  ·simp_all only[beq_iff_eq,beq_eq_false_iff_ne,ne_eq]
   exact(M.W [some 0,some 1,some 2,some 3,some 4,some 5,some 6,none] (hf:=(by(repeat'(first|exact trivial|refine And.intro ?_ ?_|refine⟨_,U,_,U,?_⟩|exact VLe.refl _|exact VLe.of_eq (by simp[Sto.upd,up, *])));done)))
  ·intro m hm hP
   have hs2:=lsum_mem Tm.full (List.getElem_mem hm)
   have hix':∀p∈(t.args[m]).vars (up t.kind bl),0≤p.1∧p.1<9223372036854775808:=fun p hp=>hix p (by rw[hv];exact List.mem_append_right _ (List.mem_flatMap.2 ⟨_,List.getElem_mem hm,hp⟩))
   have hc:=ih t.args[m] (up t.kind bl) (by omega) (by omega) hup0 (by omega) hix'
   repeat'(first|refine M.gw ?_|refine M.cv (hc) [0,1,2,3] 0 ?_|fail)
   refine⟨rfl,trivial,?_⟩
   exact(M.W [some 0,some 1,some 2,some 3,some 4,some 5,some 6,some 9] (he:=(by(repeat'(first|exact trivial|exact Or.inr ⟨_,U,rfl⟩|refine And.intro ?_ ?_|refine⟨_,U,_,U,_,U,?_⟩|exact VLe.refl _|exact VLe.of_eq (by simp[Sto.upd,map_take _ _ _ hm])));done)))
  ·intro hP
   repeat'(first|refine M.gw ?_|fail)
   (exact M.n2 [some 0,some 1,some 2,some 3] (h8:=(by simp[tupV,V.wk,V.wks,constV,Ty.view,Tm.view,hre,hk1'])))
theorem putRe(at_:Int)(s:Tm)(hat:0≤at_∧at_<549755813888)(hs:s.full<274877906944)(hsi:∀p∈s.vars 0,0≤p.1∧p.1<549755813888)(t:Tm)(ht:t.full<274877906944)(hix:∀p∈t.vars 0,0≤p.1∧p.1<9223372036854775808):AC E 162 [.agg t.view,.fn (.func 165) [] [.ptr 0 0,.ptr 1 0]] ⟨2,[(0,.var [.i at_]),(1,.var s.view)]⟩ (.agg (t.re (putG at_ s) 0).view) ⟨2,[(0,.var [.i at_]),(1,.var s.view)]⟩:=by
 have hc:=putRe1 at_ s hat hs hsi _ t 0 (Nat.le_refl _) (by omega) (by omega) (by omega) hix
 refine M.F Tryz.func162 ?_
 repeat'(first|refine M.gw ?_|refine M.cv (hc) [3,5,0,1] 0 ?_|fail)
 (exact M.n2 [some 0,some 1] (h8:=(by simp[tupV,V.wk,V.wks,constV,Ty.view,Tm.view,hc])))
theorem put_w(t:Tm)(at_:Int)(s:Tm)(hat:0≤at_∧at_<549755813888)(hs:s.full<274877906944)(hsi:∀p∈s.vars 0,0≤p.1∧p.1<549755813888)(ht:t.full<274877906944)(hix:∀p∈t.vars 0,0≤p.1∧p.1<9223372036854775808):PC E 142 [.agg t.view,.i at_,.agg s.view] (.agg (t.re (putG at_ s) 0).view):=by
 have hc:=putRe at_ s hat hs hsi t ht hix
 refine M.F Tryz.func142 ?_
 repeat'(first|refine M.gw ?_|refine M.cb (hc) [1,2] 0 ?_|fail)
 simp[tupV,V.wk,V.wks,constV,Ty.view,Tm.view]
theorem put_c(t:Tm)(at_:Int)(s:Tm)(hat:0≤at_∧at_<549755813888)(hs:s.full<274877906944)(hsi:∀p∈s.vars 0,0≤p.1∧p.1<549755813888)(ht:t.full<274877906944)(hix:∀p∈t.vars 0,0≤p.1∧p.1<549755813888):PC E 142 [.agg t.view,.i at_,.agg s.view] (.agg (t.re (putG at_ s) 0).view):=
 put_w t at_ s hat hs hsi ht fun p hp=>by have:=hix p hp;omega
end Go.Ab
namespace Go.Ab
open Go Go.Proofs
set_option maxRecDepth 100000
set_option maxHeartbeats 4000000
set_option linter.all false
theorem mod_c(n k:Int)(hk:0<k∧k<1099511627776):PC E 30 [.i n,.i k] (.i (modI n k)):=by
 have hb1:=Int.tmod_lt_of_pos n hk.1
 have hb2:=tmod_lo n k hk.1
 refine M.F Tryz.func30 ?_
 repeat'(first|refine M.gw ?_|fail)
 rfl
theorem next_c(d:Dk)(n:Int)(hd:d.ok)(hn:n<1099511627776):AC E 43 [.ptr 0 0,.i n] ⟨1,[(0,.var d.cells)]⟩ (.i (d.next n).1) ⟨1,[(0,.var (d.next n).2.cells)]⟩:=by
 obtain⟨hd1,hd2⟩:=hd
 have hm:¬n<1→∀x,PC E 30 [.i x,.i n] (.i (modI x n)):=fun h x=>mod_c x n ⟨by omega,hn⟩
 refine M.F Tryz.func43 ?_
 repeat'(first|refine M.gw ?_|refine M.c2 (hm (by simp_all) _) ?_|refine M.gs ?_ ?_<;>intro h|refine M.cs ?_ ?_<;>intro h|fail)
 ·have h':n<1:=by simpa using h
  have e:d.next n=(0,d):=dif_pos (.inl h')
  (exact M.n2 [some 0] (h6:=(by(repeat'(first|exact trivial|refine And.intro ?_ ?_|refine⟨_,U,_,U,_,U,?_⟩|exact VLe.of_eq (by simp[Sto.upd,e,Dk.cells])));done)) (h8:=(by simp[tupV,V.wk,V.wks,constV,Ty.view,Tm.view,e,Dk.cells])))
 ·have h':d.l.length≤d.at_:=by simp at h;omega
  have e:d.next n=(0,d):=dif_pos (.inr h')
  (exact M.n2 [some 0] (h6:=(by(repeat'(first|exact trivial|refine And.intro ?_ ?_|refine⟨_,U,_,U,_,U,?_⟩|exact VLe.of_eq (by simp[Sto.upd,e,Dk.cells])));done)) (h8:=(by simp[tupV,V.wk,V.wks,constV,Ty.view,Tm.view,e,Dk.cells])))
 ·rename_i h0
  have h':¬(n<1∨d.l.length≤d.at_):=by simp at h h0;omega
  have e:d.next n=(modI (d.l[d.at_]'(by omega)) n,⟨d.l,d.at_+1⟩):=dif_neg h'
  (exact M.n2 [some 0] (h6:=(by(repeat'(first|exact trivial|refine And.intro ?_ ?_|refine⟨_,U,_,U,_,U,?_⟩|exact VLe.of_eq (by simp[Sto.upd,e,Dk.cells])));done)) (h8:=(by simp[tupV,V.wk,V.wks,constV,Ty.view,Tm.view,e,Dk.cells])))
theorem few_c(l:List Int):PC E 6 [.s .int l] (.bool (decide (l.length≤500))):=by
 refine M.F Tryz.func6 ?_
 repeat'(first|refine M.gw ?_|fail)
 simp[tupV,V.wk,V.wks]
 omega
theorem new_c(l:List Int):AC E 9 [.s .int l] ⟨0,[]⟩ (.ptr 0 0) ⟨1,[(0,.var (Dk.mk l 0).cells)]⟩:=by
 refine M.F Tryz.func9 ?_
 repeat'(first|refine M.gw ?_|fail)
 (exact M.n2 [some 0] (h8:=(by simp[tupV,V.wk,V.wks,constV,Ty.view,Tm.view,Dk.cells])))
end Go.Ab
namespace Go.Ab
open Go Go.Proofs
set_option maxRecDepth 100000
set_option linter.all false
theorem type_c:∀(n:Nat) (k:Int) (d:Dk),k≤n→n≤20→-100≤k→d.ok→AC E 14 [.ptr 0 0,.i k] ⟨1,[(0,.var d.cells)]⟩ (.agg (d.type k.toNat).1.view) ⟨1,[(0,.var (d.type k.toNat).2.cells)]⟩:=by
 intro n
 induction n with
 |zero=>
  intro k d hk hn hk' hd
  have h1:=next_c d 7 hd (by omega)
  have e:=Dk.type_eq k d
  refine AC.mk Tryz.func14 rfl rfl rfl rfl rfl (Nat.le_of_ble_eq_true rfl) ?_
  repeat'(first|((with_reducible refine D.nil ?_);refine AX.nilL ?_)|((with_reducible refine D.move ?_);refine L.mv U U U ?_)|((with_reducible refine D.assign ?_);refine L.asg U U U ?_)|((with_reducible refine D.bin ?_);first|refine L.sb U U U U (by omega) ?_|refine L.bn U U U U U ?_)|((with_reducible refine D.call ?_);first|(apply L.cb2 (h1) [0] 0 rfl;rfl;rfl;rfl;rfl;rfl;rfl;(focus((repeat'(first|exact trivial|refine And.intro ?_ ?_|refine⟨_,U,_,U,_,U,?_⟩|exact VLe.refl _));done));rfl;rfl;rfl;rfl)|refine L.c2 (nat_c) U U U U ?_|refine L.c2 (list_c) U U U U ?_|refine L.c2 (unit_c) U U U U ?_)|((with_reducible refine D.alloc ?_);refine L.al U U U ?_)|((with_reducible refine D.store ?_);refine L.st U U U U U U U U U ?_)|((with_reducible refine D.aw ?_);first|((with_reducible refine D.blk ?_);refine AW.block ?_)|refine K.sq (AW.regL ?_)|refine K.sq (K.sq ?_)|refine AW.regL ?_|refine AW.condT U ?_|refine AW.condS U (fun h=> ?_) (fun h=> ?_)|refine AW.skip ?_|refine AW.ret ?_)|with_reducible refine K.tN ?_|with_reducible refine K.bN ?_|with_reducible refine K.tR ?_|with_reducible refine K.bR ?_)
  all_goals first
   |(exfalso;simp at*;omega)
   |(simp only[beq_iff_eq,beq_eq_false_iff_ne,ne_eq,decide_eq_true_eq,decide_eq_false_iff_not,gt_iff_lt] at*
     simp[*] at e
     (exact K.n2 [some 0] U U U U U (by(repeat'(first|exact trivial|refine And.intro ?_ ?_|refine⟨_,U,_,U,_,U,?_⟩|exact VLe.of_eq (by simp[Sto.upd,e])));done) U (by simp[tupV,V.wk,V.wks,constV,Ty.view,Tm.view,e])))
 |succ n ih=>
  intro k d hk hn hk' hd
  have h1:=next_c d 7 hd (by omega)
  have e:=Dk.type_eq k d
  have i1:k>0→_:=fun h=>ih (k-1) (d.next 7).2 (by omega) (by omega) (by omega) (Dk.next_ok hd 7)
  have i2:k>0→_:=fun h=>ih (k-1) ((d.next 7).2.type (k-1).toNat).2 (by omega) (by omega) (by omega) (Dk.type_ok _ _ (Dk.next_ok hd 7))
  have i3:=two_c ((d.next 7).2.type (k-1).toNat).1 ((((d.next 7).2.type (k-1).toNat).2).type (k-1).toNat).1 (Dk.type_small _ _ (by omega)) (Dk.type_small _ _ (by omega))
  have i4:=fun_c ((d.next 7).2.type (k-1).toNat).1 ((((d.next 7).2.type (k-1).toNat).2).type (k-1).toNat).1 (Dk.type_small _ _ (by omega)) (Dk.type_small _ _ (by omega))
  refine AC.mk Tryz.func14 rfl rfl rfl rfl rfl (Nat.le_of_ble_eq_true rfl) ?_
  repeat'(first|((with_reducible refine D.nil ?_);refine AX.nilL ?_)|((with_reducible refine D.move ?_);refine L.mv U U U ?_)|((with_reducible refine D.assign ?_);refine L.asg U U U ?_)|((with_reducible refine D.bin ?_);first|refine L.sb U U U U (by omega) ?_|refine L.bn U U U U U ?_)|((with_reducible refine D.call ?_);first|(apply L.cb2 (h1) [0] 0 rfl;rfl;rfl;rfl;rfl;rfl;rfl;(focus((repeat'(first|exact trivial|refine And.intro ?_ ?_|refine⟨_,U,_,U,_,U,?_⟩|exact VLe.refl _));done));rfl;rfl;rfl;rfl)|refine L.c2 (nat_c) U U U U ?_|refine L.c2 (list_c) U U U U ?_|refine L.c2 (unit_c) U U U U ?_|(apply L.cb2 (i1 (by simp_all)) [0] 0 rfl;rfl;rfl;rfl;rfl;rfl;rfl;(focus((repeat'(first|exact trivial|refine And.intro ?_ ?_|refine⟨_,U,_,U,_,U,?_⟩|exact VLe.refl _));done));rfl;rfl;rfl;rfl)|(apply L.cb2 (i2 (by simp_all)) [0] 0 rfl;rfl;rfl;rfl;rfl;rfl;rfl;(focus((repeat'(first|exact trivial|refine And.intro ?_ ?_|refine⟨_,U,_,U,_,U,?_⟩|exact VLe.refl _));done));rfl;rfl;rfl;rfl)|refine L.c2 (i3) U U U U ?_|refine L.c2 (i4) U U U U ?_)|((with_reducible refine D.alloc ?_);refine L.al U U U ?_)|((with_reducible refine D.store ?_);refine L.st U U U U U U U U U ?_)|((with_reducible refine D.aw ?_);first|((with_reducible refine D.blk ?_);refine AW.block ?_)|refine K.sq (AW.regL ?_)|refine K.sq (K.sq ?_)|refine AW.regL ?_|refine AW.condT U ?_|refine AW.condS U (fun h=> ?_) (fun h=> ?_)|refine AW.skip ?_|refine AW.ret ?_)|with_reducible refine K.tN ?_|with_reducible refine K.bN ?_|with_reducible refine K.tR ?_|with_reducible refine K.bR ?_)
  all_goals
   simp only[beq_iff_eq,beq_eq_false_iff_ne,ne_eq,decide_eq_true_eq,decide_eq_false_iff_not,gt_iff_lt] at*
   simp[*] at e
   (exact K.n2 [some 0] U U U U U (by(repeat'(first|exact trivial|refine And.intro ?_ ?_|refine⟨_,U,_,U,_,U,?_⟩|exact VLe.of_eq (by simp[Sto.upd,e])));done) U (by simp[tupV,V.wk,V.wks,constV,Ty.view,Tm.view,e]))
theorem numeral_c(n:Nat)(hn:n<100000):PC E 148 [.i n] (.agg (numT n).view):=by
 have h1:=n_c 4 [] (by simp)
 refine M.F Tryz.func148 ?_
 repeat'(first|refine M.gw ?_|refine M.c2 (h1) ?_|fail)
 refine K.sq (AW.down n (fun m=>m≤n)
  (fun m=>([(0,.i m),(2,.ptr 0 0),(3,.ptr 1 0)],⟨2,[(0,.var [.i 0,.i 0,.i 0,.slice .nil (.t .ty []),.slice .nil (.t .tm [])]),(1,.var (numT (n-m)).view)]⟩))
  (by omega) (fun m=>rfl) rfl (Nat.le_refl _) ?_ ?_ ?_)
 ·simp only[Nat.sub_self]
  exact(M.W [some 0,some 1])
 ·intro m hm hP
  have e:numT (n-m)= .mk 5 0 (.mk 0 []) [numT (n-(m+1))]:=by rw[show n-m=(n-(m+1))+1 by omega];rfl
  repeat'(first|refine M.gw ?_|fail)
  refine⟨rfl,by omega,?_⟩
  simp only[e]
  exact(M.W [some 0,some 1])
 ·intro _
  repeat'(first|refine M.gw ?_|fail)
  simp[tupV,V.wk,V.wks,constV,Ty.view,Tm.view]
theorem number_c(n:Int):PC E 108 [.i n] (.tup [.agg (if 0≤n∧n<4096 then numT n.toNat else noTm).view,.i (if n<0 then 1 else if n≥4096 then 4 else 0)]):=by
 have h1:¬n<0→¬n≥4096→PC E 148 [.i n] _:=fun h h'=>by
  have:=numeral_c n.toNat (by omega)
  rw[show((n.toNat:Nat):Int)=n by omega] at this
  exact this
 refine M.F Tryz.func108 ?_
 repeat'(first|refine M.gw ?_|refine M.c2 (h1 (by simp_all) (by simp_all)) ?_|refine M.cs ?_ ?_<;>intro h|fail)
 ·have h':n<0:=by simpa using h
  have h2:¬(0≤n∧n<4096):=by omega
  simp[tupV,V.wk,V.wks,constV,Ty.view,Tm.view,noTm,h',h2]
 ·rename_i h0
  have h':¬n<0:=by simpa using h0
  have h'':n≥4096:=by simpa using h
  have h2:¬(0≤n∧n<4096):=by omega
  simp[tupV,V.wk,V.wks,constV,Ty.view,Tm.view,noTm,h',h'',h2]
 ·rename_i h0
  have h':¬n<0:=by simpa using h0
  have h'':¬n≥4096:=by simpa using h
  have h2:0≤n∧n<4096:=by omega
  simp[tupV,V.wk,V.wks,constV,Ty.view,Tm.view,noTm,h',h'',h2]
theorem longer_c(g l:List Ty)(h:g.length+l.length<1000000):PC E 46 [.s .ty g,.s .ty l] (.s .ty (g++l)):=by
 refine M.F Tryz.func46 ?_
 repeat'(first|refine M.gw ?_|fail)
 simp[tupV,V.wk,V.wks,constV,Ty.view,Tm.view]
theorem lam_c(t:Tm)(ht:t.full<549755813888):PC E 109 [.agg t.view] (.agg (Tm.mk 2 0 (.mk 1 []) [t]).view):=by
 have h1:=t_c 2 (.mk 1 []) [t] (by simp;omega) (by simp[Ty.size_eq])
 refine M.F Tryz.func109 ?_
 repeat'(first|refine M.gw ?_|refine M.c2 (nat_c) ?_|refine M.c2 (h1) ?_|fail)
 simp[tupV,V.wk,V.wks,constV,Ty.view,Tm.view]
theorem num_c(n:Int):PC E 53 [.i n] (.agg (numOf n).view):=by
 have h1:=number_c n
 refine M.F Tryz.func53 ?_
 repeat'(first|refine M.gw ?_|refine M.c2 (h1) ?_|fail)
 simp[tupV,V.wk,V.wks,constV,Ty.view,Tm.view,numOf]
theorem context_c(d:Dk)(hd:d.ok):AC E 10 [.ptr 0 0] ⟨1,[(0,.var d.cells)]⟩ (.s .ty d.ctx.1) ⟨1,[(0,.var d.ctx.2.cells)]⟩:=by
 have h1:=next_c d 4 hd (by omega)
 have hb:=Dk.next_bd d 4 (by omega)
 obtain⟨c,hc⟩:∃c:Nat,(d.next 4).1=c:=⟨(d.next 4).1.toNat,by omega⟩
 rw[hc] at h1 hb
 have hx:d.ctx=(d.next 4).2.types c:=by simp only[Dk.ctx,hc];rfl
 refine M.F Tryz.func10 ?_
 repeat'(first|refine M.gw ?_|refine M.cb (h1) [0] 0 ?_|fail)
 refine AW.down c (fun m=>m≤c)
  (fun m=>([(0,.ptr 0 0),(3,.slice (.own 1) (.t .ty ((d.next 4).2.types (c-m)).1)),(4,.i m)],⟨2,[(0,.var ((d.next 4).2.types (c-m)).2.cells),(1,.row)]⟩))
  (by omega) (fun m=>rfl) rfl (Nat.le_refl _) ?_ ?_ ?_
 ·simp only[Nat.sub_self]
  exact(M.W [some 0,none])
 ·intro m hm hP
  have e:=Dk.types_snoc (c-(m+1)) (d.next 4).2
  rw[show c-(m+1)+1=c-m by omega] at e
  have h2:=type_c 1 1 ((d.next 4).2.types (c-(m+1))).2 (by omega) (by omega) (by omega) (Dk.types_ok _ _ (Dk.next_ok hd 4))
  have hl:=Dk.types_len (c-(m+1)) (d.next 4).2
  repeat'(first|refine M.gw ?_|refine M.cb (h2) [0] 0 ?_|fail)
  refine⟨rfl,by omega,?_⟩
  simp only[e]
  exact(M.W [some 0,some 2])
 ·intro _
  repeat'(first|refine M.gw ?_|fail)
  (exact M.n2 [some 0] (h6:=(by(repeat'(first|exact trivial|refine And.intro ?_ ?_|refine⟨_,U,_,U,_,U,?_⟩|exact VLe.of_eq (by simp[Sto.upd,hx])));done)) (h8:=(by simp[tupV,V.wk,V.wks,constV,Ty.view,Tm.view,hx])))
theorem rec_c(b f n:Tm)(h:b.full+f.full+n.full<549755813888):PC E 110 [.agg b.view,.agg f.view,.agg n.view] (.agg (Tm.mk 6 0 (.mk 1 []) [b,f,n]).view):=by
 have h1:=t_c 6 (.mk 1 []) [b,f,n] (by simp;omega) (by simp[Ty.size_eq])
 refine M.F Tryz.func110 ?_
 repeat'(first|refine M.gw ?_|refine M.c2 (nat_c) ?_|refine M.c2 (h1) ?_|fail)
 simp[tupV,V.wk,V.wks,constV,Ty.view,Tm.view]
end Go.Ab
