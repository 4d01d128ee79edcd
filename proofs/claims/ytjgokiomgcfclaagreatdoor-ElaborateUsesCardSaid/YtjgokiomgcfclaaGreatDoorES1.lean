/- A part of the proofs of this seat. No conditions. -/
import Derived.Test.YtjgokiomgcfclaaGreatDoorRows
import Derived.Test.YtjgokiomgcfclaaGreatDoorED1
namespace Go.Ab
open Go Go.Proofs
def K4:List (TypeId×TI):=[
 (2,⟨1,[.int .i64 0],.int .i64⟩),
 (3,⟨1,[.int .i64 0],.int .i64⟩),
 (4,⟨1,[.bool false],.bool⟩),
 (5,⟨1,[.int .u8 0],.int .u8⟩),
 (9,⟨1,[.str ⟨#[]⟩],.str⟩),
 (12,⟨1,[.int .u64 0],.int .u64⟩),
 (13,⟨2,[.str ⟨#[]⟩,.int .u64 0],.strct [(0,1,false),(1,1,false)]⟩),
 (20,⟨1,[.raw .nilIface],.other⟩),
 (21,⟨1,[.int .i32 0],.int .i32⟩),
 (23,⟨1,[.slice .nil (.t .ty [])],.slc (some .ty) 2 32⟩),
 (24,⟨2,[.int .i64 0,.slice .nil (.t .ty [])],.strct [(0,1,false),(1,1,false)]⟩),
 (25,⟨2,[.int .i64 0,.slice .nil (.t .ty [])],.strct [(0,1,false),(1,1,false)]⟩),
 (26,⟨1,[.slice .nil (.t .tm [])],.slc (some .tm) 5 72⟩),
 (27,⟨1,[.slice .nil (.t .fm [])],.slc (some .fm) 5 88⟩),
 (28,⟨1,[.slice .nil (.t .pf [])],.slc (some .pf) 7 120⟩),
 (29,⟨7,[.int .i64 0,.int .i64 0,.int .i64 0,.slice .nil (.t .ty []),.slice .nil (.t .tm []),.slice .nil (.t .fm []),.slice .nil (.t .pf [])],.strct [(0,1,false),(1,1,false),(2,2,true),(4,1,false),(5,1,false),(6,1,false)]⟩),
 (30,⟨7,[.int .i64 0,.int .i64 0,.int .i64 0,.slice .nil (.t .ty []),.slice .nil (.t .tm []),.slice .nil (.t .fm []),.slice .nil (.t .pf [])],.strct [(0,1,false),(1,1,false),(2,2,true),(4,1,false),(5,1,false),(6,1,false)]⟩),
 (32,⟨5,[.int .i64 0,.int .i64 0,.int .i64 0,.slice .nil (.t .ty []),.slice .nil (.t .tm [])],.strct [(0,1,false),(1,1,false),(2,2,true),(4,1,false)]⟩),
 (33,⟨5,[.int .i64 0,.int .i64 0,.int .i64 0,.slice .nil (.t .ty []),.slice .nil (.t .tm [])],.strct [(0,1,false),(1,1,false),(2,2,true),(4,1,false)]⟩),
 (35,⟨1,[.int .i64 0],.int .i64⟩),
 (38,⟨5,[.int .i64 0,.int .i64 0,.slice .nil (.t .ty []),.slice .nil (.t .tm []),.slice .nil (.t .fm [])],.strct [(0,1,false),(1,2,true),(3,1,false),(4,1,false)]⟩),
 (39,⟨5,[.int .i64 0,.int .i64 0,.slice .nil (.t .ty []),.slice .nil (.t .tm []),.slice .nil (.t .fm [])],.strct [(0,1,false),(1,2,true),(3,1,false),(4,1,false)]⟩),
 (40,⟨1,[.slice .nil (.t .int [])],.slc (some .int) 1 8⟩),
 (41,⟨6,[.int .i64 0,.int .i64 0,.slice .nil (.t .ty []),.slice .nil (.t .tm []),.slice .nil (.t .fm []),.slice .nil (.t .int [])],.strct [(0,5,true),(5,1,false)]⟩),
 (42,⟨6,[.int .i64 0,.int .i64 0,.slice .nil (.t .ty []),.slice .nil (.t .tm []),.slice .nil (.t .fm []),.slice .nil (.t .int [])],.strct [(0,5,true),(5,1,false)]⟩),
 (45,⟨2,[.slice .nil (.t .ty []),.slice .nil (.t .fm [])],.strct [(0,1,false),(1,1,false)]⟩),
 (46,⟨2,[.slice .nil (.t .ty []),.slice .nil (.t .fm [])],.strct [(0,1,false),(1,1,false)]⟩),
 (50,⟨1,[.nilp],.other⟩),
 (53,⟨7,[.slice .nil (.t .ty []),.slice .nil (.t .fm []),.int .i64 0,.int .i64 0,.slice .nil (.t .ty []),.slice .nil (.t .tm []),.slice .nil (.t .fm [])],.strct [(0,2,true),(2,5,true)]⟩),
 (54,⟨7,[.slice .nil (.t .ty []),.slice .nil (.t .fm []),.int .i64 0,.int .i64 0,.slice .nil (.t .ty []),.slice .nil (.t .tm []),.slice .nil (.t .fm [])],.strct [(0,2,true),(2,5,true)]⟩),
 (61,⟨1,[.slice .nil (.t .gl [])],.slc (some .gl) 7 136⟩),
 (62,⟨1,[.slice .nil (.t .st [])],.slc (some .st) 4 64⟩),
 (88,⟨3,[.slice .nil (.t .fm []),.slice .nil (.t .ty []),.slice .nil (.t .fm [])],.strct [(0,1,false),(1,1,false),(2,1,false)]⟩),
 (89,⟨3,[.slice .nil (.t .fm []),.slice .nil (.t .ty []),.slice .nil (.t .fm [])],.strct [(0,1,false),(1,1,false),(2,1,false)]⟩),
 (96,⟨2,[.slice .nil (.t .int []),.int .i64 0],.strct [(0,1,false),(1,1,false)]⟩),
 (97,⟨2,[.slice .nil (.t .int []),.int .i64 0],.strct [(0,1,false),(1,1,false)]⟩),
 (112,⟨4,[.int .i64 0,.int .i64 0,.slice .nil (.t .tm []),.slice .nil (.t .fm [])],.strct [(0,1,false),(1,1,false),(2,1,false),(3,1,false)]⟩),
 (113,⟨4,[.int .i64 0,.int .i64 0,.slice .nil (.t .tm []),.slice .nil (.t .fm [])],.strct [(0,1,false),(1,1,false),(2,1,false),(3,1,false)]⟩),
 (129,⟨2,[.int .i64 0,.int .i64 0],.strct [(0,1,false),(1,1,false)]⟩),
 (130,⟨2,[.int .i64 0,.int .i64 0],.strct [(0,1,false),(1,1,false)]⟩),
 (131,⟨1,[.nilf],.other⟩),
 (132,⟨1,[.nilf],.other⟩),
 (133,⟨1,[.nilf],.other⟩),
 (135,⟨3,[.nilf,.nilf,.nilf],.strct [(0,1,false),(1,1,false),(2,1,false)]⟩),
 (137,⟨1,[.nilf],.other⟩),
 (138,⟨1,[.nilf],.other⟩),
 (139,⟨1,[.nilf],.other⟩),
 (141,⟨3,[.nilf,.nilf,.nilf],.strct [(0,1,false),(1,1,false),(2,1,false)]⟩),
 (151,⟨1,[.nilp],.other⟩),
 (152,⟨1,[.raw (.map none)],.other⟩),
 (153,⟨2,[.int .i64 0,.raw (.map none)],.strct [(0,1,false),(1,1,false)]⟩),
 (154,⟨2,[.int .i64 0,.raw (.map none)],.strct [(0,1,false),(1,1,false)]⟩),
 (170,⟨1,[.nilp],.other⟩),
 (171,⟨3,[.int .i64 0,.raw (.map none),.bool false],.strct [(0,1,false),(1,1,false),(2,1,false)]⟩),
 (172,⟨3,[.int .i64 0,.raw (.map none),.bool false],.strct [(0,1,false),(1,1,false),(2,1,false)]⟩),
 (175,⟨1,[.nilp],.other⟩),
 (176,⟨2,[.int .i64 0,.bool false],.strct [(0,1,false),(1,1,false)]⟩),
 (177,⟨2,[.int .i64 0,.bool false],.strct [(0,1,false),(1,1,false)]⟩),
 (179,⟨8,[.bool false,.bool false,.int .i64 0,.int .i64 0,.int .i64 0,.int .i64 0,.int .i64 0,.int .i64 0],.strct [(0,1,false),(1,1,false),(2,1,false),(3,1,false),(4,1,false),(5,1,false),(6,1,false),(7,1,false)]⟩),
 (180,⟨8,[.bool false,.bool false,.int .i64 0,.int .i64 0,.int .i64 0,.int .i64 0,.int .i64 0,.int .i64 0],.strct [(0,1,false),(1,1,false),(2,1,false),(3,1,false),(4,1,false),(5,1,false),(6,1,false),(7,1,false)]⟩),
 (184,⟨2,[.int .i64 0,.int .i64 0],.strct [(0,1,false),(1,1,false)]⟩),
 (185,⟨2,[.int .i64 0,.int .i64 0],.strct [(0,1,false),(1,1,false)]⟩),
 (187,⟨1,[.slice .nil (.u 2 [])],.slc none 2 16⟩),
 (191,⟨5,[.int .i64 0,.int .i64 0,.int .i64 0,.bool false,.bool false],.strct [(0,1,false),(1,1,false),(2,1,false),(3,1,false),(4,1,false)]⟩),
 (192,⟨5,[.int .i64 0,.int .i64 0,.int .i64 0,.bool false,.bool false],.strct [(0,1,false),(1,1,false),(2,1,false),(3,1,false),(4,1,false)]⟩),
 (207,⟨1,[.nilf],.other⟩),
 (220,⟨1,[.slice .nil (.t .sz [])],.slc (some .sz) 3 40⟩),
 (228,⟨168,[.bool false,.bool false,.int .i64 0,.int .i64 0,.int .i64 0,.int .i64 0,.int .i64 0,.int .i64 0,.bool false,.bool false,.int .i64 0,.int .i64 0,.int .i64 0,.int .i64 0,.int .i64 0,.int .i64 0,.bool false,.bool false,.int .i64 0,.int .i64 0,.int .i64 0,.int .i64 0,.int .i64 0,.int .i64 0,.bool false,.bool false,.int .i64 0,.int .i64 0,.int .i64 0,.int .i64 0,.int .i64 0,.int .i64 0,.bool false,.bool false,.int .i64 0,.int .i64 0,.int .i64 0,.int .i64 0,.int .i64 0,.int .i64 0,.bool false,.bool false,.int .i64 0,.int .i64 0,.int .i64 0,.int .i64 0,.int .i64 0,.int .i64 0,.bool false,.bool false,.int .i64 0,.int .i64 0,.int .i64 0,.int .i64 0,.int .i64 0,.int .i64 0,.bool false,.bool false,.int .i64 0,.int .i64 0,.int .i64 0,.int .i64 0,.int .i64 0,.int .i64 0,.bool false,.bool false,.int .i64 0,.int .i64 0,.int .i64 0,.int .i64 0,.int .i64 0,.int .i64 0,.bool false,.bool false,.int .i64 0,.int .i64 0,.int .i64 0,.int .i64 0,.int .i64 0,.int .i64 0,.bool false,.bool false,.int .i64 0,.int .i64 0,.int .i64 0,.int .i64 0,.int .i64 0,.int .i64 0,.bool false,.bool false,.int .i64 0,.int .i64 0,.int .i64 0,.int .i64 0,.int .i64 0,.int .i64 0,.bool false,.bool false,.int .i64 0,.int .i64 0,.int .i64 0,.int .i64 0,.int .i64 0,.int .i64 0,.bool false,.bool false,.int .i64 0,.int .i64 0,.int .i64 0,.int .i64 0,.int .i64 0,.int .i64 0,.bool false,.bool false,.int .i64 0,.int .i64 0,.int .i64 0,.int .i64 0,.int .i64 0,.int .i64 0,.bool false,.bool false,.int .i64 0,.int .i64 0,.int .i64 0,.int .i64 0,.int .i64 0,.int .i64 0,.bool false,.bool false,.int .i64 0,.int .i64 0,.int .i64 0,.int .i64 0,.int .i64 0,.int .i64 0,.bool false,.bool false,.int .i64 0,.int .i64 0,.int .i64 0,.int .i64 0,.int .i64 0,.int .i64 0,.bool false,.bool false,.int .i64 0,.int .i64 0,.int .i64 0,.int .i64 0,.int .i64 0,.int .i64 0,.bool false,.bool false,.int .i64 0,.int .i64 0,.int .i64 0,.int .i64 0,.int .i64 0,.int .i64 0,.bool false,.bool false,.int .i64 0,.int .i64 0,.int .i64 0,.int .i64 0,.int .i64 0,.int .i64 0],.arr 21 8 true⟩),
 (234,⟨1,[.raw (.map none)],.other⟩),
 (250,⟨3,[.int .i64 0,.slice .nil (.t .ty []),.int .i64 0],.strct [(0,2,true),(2,1,false)]⟩),
 (251,⟨3,[.int .i64 0,.slice .nil (.t .ty []),.int .i64 0],.strct [(0,2,true),(2,1,false)]⟩),
 (255,⟨1,[.nilf],.other⟩),
 (263,⟨1,[.nilp],.other⟩),
 (264,⟨2,[.int .i64 0,.bool false],.strct [(0,1,false),(1,1,false)]⟩),
 (265,⟨2,[.int .i64 0,.bool false],.strct [(0,1,false),(1,1,false)]⟩),
 (269,⟨1,[.nilf],.other⟩),
 (275,⟨14,[.int .i64 0,.int .i64 0,.int .i64 0,.int .i64 0,.int .i64 0,.int .i64 0,.int .i64 0,.int .i64 0,.int .i64 0,.int .i64 0,.int .i64 0,.int .i64 0,.int .i64 0,.int .i64 0],.arr 14 1 false⟩),
 (278,⟨9,[.int .i64 0,.slice .nil (.t .ty []),.int .i64 0,.int .i64 0,.slice .nil (.t .ty []),.int .i64 0,.int .i64 0,.slice .nil (.t .ty []),.int .i64 0],.arr 3 3 true⟩),
 (292,⟨1,[.int .u32 0],.int .u32⟩)]
set_option maxRecDepth 100000
theorem Ygs:K4.all (fun p=>Lm Tryz.prog p.1 p.2)=true:=by kernel_rfl
def ruV:List V:=[.bool false,.bool false,.i 0,.i 0,.i 0,.i 0,.i 0,.i 0,.bool true,.bool false,.i 0,.i 0,.i 0,.i 0,.i 0,.i 0,.bool true,.bool false,.i 0,.i 0,.i 0,.i 0,.i 0,.i 0,.bool false,.bool false,.i 0,.i 0,.i 2,.i 0,.i 0,.i 0,.bool false,.bool false,.i 0,.i 0,.i 1,.i 0,.i 0,.i 0,.bool false,.bool false,.i 0,.i 0,.i 1,.i 0,.i 0,.i 0,.bool false,.bool false,.i 0,.i 1,.i 1,.i 0,.i 0,.i 1,.bool false,.bool false,.i 0,.i 0,.i 2,.i 0,.i 0,.i 0,.bool false,.bool true,.i 0,.i 0,.i 1,.i 0,.i 1,.i 0,.bool false,.bool false,.i 1,.i 0,.i 1,.i 0,.i 0,.i 0,.bool false,.bool false,.i 1,.i 1,.i 1,.i 0,.i 0,.i 0,.bool false,.bool false,.i 0,.i 0,.i 2,.i 0,.i 1,.i 1,.bool false,.bool true,.i 0,.i 0,.i 1,.i 0,.i 1,.i 0,.bool false,.bool false,.i 1,.i 0,.i 1,.i 0,.i 0,.i 0,.bool false,.bool false,.i 1,.i 1,.i 1,.i 0,.i 0,.i 0,.bool false,.bool false,.i 0,.i 0,.i 2,.i 0,.i 1,.i 1,.bool false,.bool false,.i 1,.i 1,.i 2,.i 1,.i 1,.i 1,.bool false,.bool false,.i 1,.i 1,.i 2,.i 1,.i 2,.i 1,.bool false,.bool false,.i 1,.i 0,.i 0,.i 0,.i 0,.i 0,.bool false,.bool false,.i 0,.i 1,.i 2,.i 1,.i 0,.i 0,.bool false,.bool false,.i 0,.i 0,.i 1,.i 0,.i 0,.i 0]
def Mj:List V:=[.i 0,.i 0,.i 1,.i 2,.i 0,.i 1,.i 3,.i 0,.i 2,.i 3,.i 2,.i 1,.i 1,.i 0]
noncomputable def E:Env:=⟨Tryz.prog,[(1,Mj)],K4,Ygs⟩
end Go.Ab
namespace Go.Ab
open Go Go.Proofs
set_option maxRecDepth 100000
set_option linter.all false
theorem mixed:E.P.follows .mixedOrders=true:=Tryz.checked.mixed
theorem x9:∀(b:Nat) (t:Ty),t.size<=b->b<1099511627776->PC E 79 [.agg t.view] (.agg t.view):=by
 intro b;induction b with
 |zero=>intro t h;have:=t.size_pos;omega
 |succ b ih=>
 intro t hsz hb;have hsz':=Ty.size_eq t;have hlen:=zh Ty.size Ty.size_pos t.args;refine M.F Tryz.func79 ?_;(repeat' first|refine M.gw ?_|fail);refine AW.range t.args.length (fun m=>True)
  (fun m=>([(1,.ptr 0 0),(2,.ptr 1 0),(3,.slice (.own 2) (.t .ty (t.args.take m))),(7,.s .ty t.args),(8,.i t.args.length),(9,.i m)],⟨3,[(0,.var t.view),(1,.var [.i 0,.slice .nil (.t .ty [])]),(2,.row)]⟩))
  (by omega) (fun m=>rfl) (fun m=>rfl) rfl trivial (M.W [some 0,some 1,none]) ?_ ?_
 ·intro m hm hP;have hs2:=ze Ty.size (List.getElem_mem hm);(repeat' first|refine M.gw ?_|refine M.c2 (ih _ ?_ ?_) ?_|exact M.le|exact M.lt|fail);exact⟨rfl,trivial,(M.W [some 0,some 1,some 4] (hf:=(by(repeat'(first|exact trivial|refine And.intro ?_ ?_|refine⟨_,U,_,U,?_⟩|exact An.refl _|exact An.of_eq (by simp[Al.Aw,List.take_append_getElem])));done)))⟩
 ·intro hP;(repeat' first|refine M.gw ?_|fail);simp[zk,V.wk,V.Ak,zd,Ty.view,Tm.view]
theorem JR:∀(b:Nat) (t:Ty),t.size<=b->b<1099511627776->PC E 122 [.agg t.view] (.agg t.view):=by
 intro b;induction b with
 |zero=>intro t h;have:=t.size_pos;omega
 |succ b ih=>
 intro t hsz hb;have hsz':=Ty.size_eq t;have hlen:=zh Ty.size Ty.size_pos t.args;refine M.F Tryz.func122 ?_;(repeat' first|refine M.gw ?_|fail);refine AW.range t.args.length (fun m=>True)
  (fun m=>([(1,.ptr 0 0),(2,.ptr 1 0),(3,.ptr 2 0),(10,.s .ty t.args),(11,.i t.args.length),(12,.i m)],⟨4,[(0,.var t.view),(1,.var [.i 0,.slice .nil (.t .ty [])]),(2,.var [.i t.kind,.slice (.own 3) (.t .ty (t.args.take m))]),(3,.row)]⟩))
  (by omega) (fun m=>rfl) (fun m=>rfl) rfl trivial (M.W [some 0,some 1,some 2,none]) ?_ ?_
 ·intro m hm hP;have hs2:=ze Ty.size (List.getElem_mem hm);(repeat' first|refine M.gw ?_|refine M.c2 (ih _ ?_ ?_) ?_|exact M.le|exact M.lt|fail);exact⟨rfl,trivial,(M.W [some 0,some 1,some 2,some 5] (he:=(by(repeat'(first|exact trivial|exact Or.inr ⟨_,U,rfl⟩|refine And.intro ?_ ?_|refine⟨_,U,_,U,_,U,?_⟩|exact An.refl _|exact An.of_eq (by simp[Al.Aw,List.take_append_getElem])));done)))⟩
 ·intro hP;(repeat' first|refine M.gw ?_|fail);simp[zk,V.wk,V.Ak,zd,Ty.view,Tm.view]
theorem Zo3:∀(b:Nat) (t:Ty),t.size<=b->b<1099511627776->PC E 241 [.agg t.view] (Lq t):=by
 intro b;induction b with
 |zero=>intro t h;have:=t.size_pos;omega
 |succ b ih=>
 intro t hsz hb;have hsz':=Ty.size_eq t;have hlen:=zh Ty.size Ty.size_pos t.args;have hsh:=Ty.Ag t;refine M.F Tryz.func241 ?_;(repeat' first|refine M.gw ?_|fail);refine AW.KW (ι:={n:Nat // CS t.kind=some n}) (fun n=>([(1,.ptr 0 0),(4,.i n.1)],⟨1,[(0,.var t.view)]⟩)) ?_ ?_
 ·refine AW.block ?_;(repeat' first|refine M.gw ?_|refine M.cs ?_ ?_<;>intro h|fail)
  ·exact ⟨⟨0,by simp at h;simp[CS,h]⟩,(M.W [some 0])⟩
  ·exact ⟨⟨0,by simp at h;simp[CS,h]⟩,(M.W [some 0])⟩
  ·exact ⟨⟨0,by simp at h;simp[CS,h]⟩,(M.W [some 0])⟩
  ·exact ⟨⟨2,by simp at h;simp[CS,h]⟩,(M.W [some 0])⟩
  ·exact ⟨⟨2,by simp at h;simp[CS,h]⟩,(M.W [some 0])⟩
  ·have:t.shape=false:=by simp at*;simp[hsh,CS, *]
   simp[Lq,Ty.nodes,this,zk,zd,V.wk,V.Ak]
 rintro⟨n,hn⟩;(repeat' first|refine M.gw ?_|refine M.cs ?_ ?_<;>intro h|fail)
 ·have h1:¬t.args.length=n:=by simp at h;omega
  have:t.shape=false:=by simp[hsh,hn,h1]
  simp[Lq,Ty.nodes,this,zk,zd,V.wk,V.Ak]
 have hn':t.args.length=n:=by simp at h;omega
 refine AW.range t.args.length (fun m=>∀j (hj:j<t.args.length),j<m->(t.args[j]).shape=true)
  (fun m=>([(1,.ptr 0 0),(5,.i (1+((t.args.take m).map Ty.size).sum)),(25,.s .ty t.args),(26,.i t.args.length),(27,.i m)],⟨1,[(0,.var t.view)]⟩))
  (by omega) (fun m=>rfl) (fun m=>rfl) rfl (by intro j hj h;omega) (M.W [some 0]) ?_ ?_
 ·intro m hm hP;have hs1:=yv Ty.size t.args m hm;have hs2:=ze Ty.size (List.getElem_mem hm);have hs3:=yc Ty.size t.args (m+1);have hs4:=Ty.C7 t.args[m];(repeat' first|refine M.gw ?_|refine M.c2 (ih _ ?_ ?_) ?_|refine M.cs ?_ ?_<;>intro h|exact M.le|exact M.lt|fail)
  ·have h1:(t.args[m]).shape=false:=by simpa using h
   have:t.shape=false:=by rw[hsh,ve Ty.shape hm h1,Bool.and_false]
   simp[Lq,Ty.nodes,this,zk,zd,V.wk,V.Ak]
  ·have hh:(t.args[m]).shape=true:=by simpa using h
   refine⟨rfl,z4 (p:=fun t=>Ty.shape t=true) hm hP hh,?_⟩;have e:(1+((((t.args.take (m+1)).map Ty.size).sum:Nat):Int))=1+(((t.args.take m).map Ty.size).sum:Nat)+t.args[m].nodes:=by simp only[Ty.nodes,hh,hs1];simp;omega
   simp only[e];exact(M.W [some 0])
 ·intro hP;have:t.shape=true:=by simp only[hsh,hn,hn',EA Ty.shape t.args fun j hj=>hP j hj hj];simp
  (repeat' first|refine M.gw ?_|fail);simp[Lq,Ty.nodes,this,zk,zd,hsz',V.wk,V.Ak]
theorem DI(i:Int):PC E 29 [.i i] (.agg (Tm.mk 1 i (.mk 0 []) []).view):=by
 refine M.F Tryz.func29 ?_;(repeat' first|refine M.gw ?_|fail);simp[zk,V.wk,V.Ak,zd,Ty.view,Tm.view]
theorem Wr(i:Int):PC E 235 [.i i] (.agg (Tm.mk 1 i (.mk 0 []) []).view):=by
 refine M.F Tryz.func235 ?_;(repeat' first|refine M.gw ?_|fail);simp[zk,V.wk,V.Ak,zd,Ty.view,Tm.view]
theorem vz:PC E 33 [] (.agg (Ty.mk 1 []).view):=by
 refine M.F Tryz.func33 ?_;(repeat' first|refine M.gw ?_|fail);simp[zk,V.wk,V.Ak,zd,Ty.view,Tm.view]
theorem uz:PC E 107 [] (.agg (Ty.mk 2 []).view):=by
 refine M.F Tryz.func107 ?_;(repeat' first|refine M.gw ?_|fail);simp[zk,V.wk,V.Ak,zd,Ty.view,Tm.view]
theorem PT:PC E 108 [] (.agg (Ty.mk 5 []).view):=by
 refine M.F Tryz.func108 ?_;(repeat' first|refine M.gw ?_|fail);simp[zk,V.wk,V.Ak,zd,Ty.view,Tm.view]
theorem Ts(x y:Ty)(hx:x.size<1099511627776)(hy:y.size<1099511627776):PC E 109 [.agg x.view,.agg y.view] (.agg (Ty.mk 3 [x,y]).view):=by
 have h1:=x9 _ x (Nat.le_refl _) hx;have h2:=x9 _ y (Nat.le_refl _) hy;refine M.F Tryz.func109 ?_;(repeat' first|refine M.gw ?_|refine M.c2 (h1) ?_|refine M.c2 (h2) ?_|fail);simp[zk,V.wk,V.Ak,zd,Ty.view,Tm.view]
theorem Jh(x y:Ty)(hx:x.size<1099511627776)(hy:y.size<1099511627776):PC E 110 [.agg x.view,.agg y.view] (.agg (Ty.mk 4 [x,y]).view):=by
 have h1:=x9 _ x (Nat.le_refl _) hx;have h2:=x9 _ y (Nat.le_refl _) hy;refine M.F Tryz.func110 ?_;(repeat' first|refine M.gw ?_|refine M.c2 (h1) ?_|refine M.c2 (h2) ?_|fail);simp[zk,V.wk,V.Ak,zd,Ty.view,Tm.view]
theorem RN(t:Ty):PC E 201 [.agg t.view] (.bool t.Bw):=by
 refine M.F Tryz.func201 ?_;(repeat' first|refine M.gw ?_|refine M.gs ?_ ?_<;>intro h|fail);all_goals simp_all[zk,V.wk,V.Ak,zd,Ty.Bw]
 rw[Bool.eq_iff_iff];simp
theorem Yd1(k:Int):PC E 263 [.i k] (.bool (xz k)):=by
 refine M.F Tryz.func263 ?_;(repeat' first|refine M.gw ?_|refine M.gs ?_ ?_<;>intro h|fail);all_goals simp_all[zk,V.wk,V.Ak,zd,xz]
theorem Uu(n:Int):PC E 192 [.i n] (.bool (decide (0<=n/\n<=4096))):=by
 refine M.F Tryz.func192 ?_;(repeat' first|refine M.gw ?_|refine M.gs ?_ ?_<;>intro h|fail);all_goals simp_all[zk,V.wk,V.Ak,zd]
 omega
theorem NG(t:Ty)(ht:t.size<1099511627776):PC E 200 [.agg t.view] (.Ax [.i t.num,.i t.err]):=by
 have h1:=Zo3 _ t (Nat.le_refl _) ht;refine M.F Tryz.func200 ?_;(repeat' first|refine M.gw ?_|refine M.c2 (h1) ?_|refine M.zb ?_|refine M.cs ?_ ?_<;>intro h|fail);all_goals simp_all[zk,V.wk,V.Ak,zd,Ty.num,Ty.err,Ty.nodes]
 all_goals(first|omega|(split<;>first|omega|simp_all))
theorem Yd4(k:Int):PC E 262 [.i k] (.Ax [.i ((Cq k).getD 0),.bool (Cq k).isSome]):=by
 refine M.F Tryz.func262 ?_;(repeat' first|refine M.gw ?_|refine M.gs ?_ ?_<;>intro h|refine M.cs ?_ ?_<;>intro h|fail)
 ·have:Cq k=none:=by simp at h;simp only[Cq];(repeat' rw[if_neg (by omega)])
  simp[this,zk,V.wk,V.Ak,zd]
 ·have:Cq k=none:=by simp at h;simp only[Cq];(repeat' rw[if_neg (by omega)])
  simp[this,zk,V.wk,V.Ak,zd]
 ·rename_i h0;simp at h h0;have:k=1\/k=2\/k=3\/k=4\/k=5\/k=6\/k=7\/k=8\/k=9\/k=10\/k=11\/k=12\/k=13:=by omega
  rcases this with rfl|rfl|rfl|rfl|rfl|rfl|rfl|rfl|rfl|rfl|rfl|rfl|rfl
  ·refine L.Fw 1 rfl rfl rfl rfl rfl ?_ ?_ rfl ?_
   ·decide
   ·decide
   (repeat' first|refine M.gw ?_|fail)
   rfl
  ·refine L.Fw 2 rfl rfl rfl rfl rfl ?_ ?_ rfl ?_
   ·decide
   ·decide
   (repeat' first|refine M.gw ?_|fail)
   rfl
  ·refine L.Fw 3 rfl rfl rfl rfl rfl ?_ ?_ rfl ?_
   ·decide
   ·decide
   (repeat' first|refine M.gw ?_|fail)
   rfl
  ·refine L.Fw 4 rfl rfl rfl rfl rfl ?_ ?_ rfl ?_
   ·decide
   ·decide
   (repeat' first|refine M.gw ?_|fail)
   rfl
  ·refine L.Fw 5 rfl rfl rfl rfl rfl ?_ ?_ rfl ?_
   ·decide
   ·decide
   (repeat' first|refine M.gw ?_|fail)
   rfl
  ·refine L.Fw 6 rfl rfl rfl rfl rfl ?_ ?_ rfl ?_
   ·decide
   ·decide
   (repeat' first|refine M.gw ?_|fail)
   rfl
  ·refine L.Fw 7 rfl rfl rfl rfl rfl ?_ ?_ rfl ?_
   ·decide
   ·decide
   (repeat' first|refine M.gw ?_|fail)
   rfl
  ·refine L.Fw 8 rfl rfl rfl rfl rfl ?_ ?_ rfl ?_
   ·decide
   ·decide
   (repeat' first|refine M.gw ?_|fail)
   rfl
  ·refine L.Fw 9 rfl rfl rfl rfl rfl ?_ ?_ rfl ?_
   ·decide
   ·decide
   (repeat' first|refine M.gw ?_|fail)
   rfl
  ·refine L.Fw 10 rfl rfl rfl rfl rfl ?_ ?_ rfl ?_
   ·decide
   ·decide
   (repeat' first|refine M.gw ?_|fail)
   rfl
  ·refine L.Fw 11 rfl rfl rfl rfl rfl ?_ ?_ rfl ?_
   ·decide
   ·decide
   (repeat' first|refine M.gw ?_|fail)
   rfl
  ·refine L.Fw 12 rfl rfl rfl rfl rfl ?_ ?_ rfl ?_
   ·decide
   ·decide
   (repeat' first|refine M.gw ?_|fail)
   rfl
  ·refine L.Fw 13 rfl rfl rfl rfl rfl ?_ ?_ rfl ?_
   ·decide
   ·decide
   (repeat' first|refine M.gw ?_|fail)
   rfl
end Go.Ab
namespace Go.Ab
open Go Go.Proofs
set_option maxRecDepth 100000
set_option maxHeartbeats 4000000
set_option linter.all false
theorem wu:∀(b:Nat) (t:Tm),t.full<=b->b<1099511627776->PC E 68 [.agg t.view] (.agg t.view):=by
 intro b;induction b with
 |zero=>intro t h;have:=t.Ac;omega
 |succ b ih=>
 intro t hsz hb;have hsz':=Tm.Af t;have hlen:=zh Tm.full Tm.Ac t.args;have hty:=x9 _ t.ty (Nat.le_refl _) (by omega);refine M.F Tryz.func68 ?_;(repeat' first|refine M.gw ?_|fail);refine AW.range t.args.length (fun m=>True)
  (fun m=>([(1,.ptr 0 0),(2,.ptr 1 0),(3,.slice (.own 2) (.t .tm (t.args.take m))),(7,.s .tm t.args),(8,.i t.args.length),(9,.i m)],⟨3,[(0,.var t.view),(1,.var [.i 0,.i 0,.i 0,.slice .nil (.t .ty []),.slice .nil (.t .tm [])]),(2,.row)]⟩))
  (by omega) (fun m=>rfl) (fun m=>rfl) rfl trivial (M.W [some 0,some 1,none]) ?_ ?_
 ·intro m hm hP;have hs2:=ze Tm.full (List.getElem_mem hm);(repeat' first|refine M.gw ?_|refine M.c2 (ih _ ?_ ?_) ?_|exact M.le|exact M.lt|fail);exact⟨rfl,trivial,(M.W [some 0,some 1,some 4] (hf:=(by(repeat'(first|exact trivial|refine And.intro ?_ ?_|refine⟨_,U,_,U,?_⟩|exact An.refl _|exact An.of_eq (by simp[Al.Aw,List.take_append_getElem])));done)))⟩
 ·intro hP;(repeat' first|refine M.gw ?_|refine M.c2 (hty) ?_|fail);simp[zk,V.wk,V.Ak,zd,Ty.view,Tm.view]
theorem Co(k:Int)(l:List Tm)(hl:(l.map Tm.full).sum<1099511627776):PC E 34 [.i k,.s .tm l] (.agg (Tm.mk k 0 (.mk 0 []) l).view):=by
 have hlen:=zh Tm.full Tm.Ac l;refine M.F Tryz.func34 ?_;(repeat' first|refine M.gw ?_|fail);refine AW.range l.length (fun m=>True)
  (fun m=>([(0,.i k),(4,.ptr 0 0),(5,.slice (.own 1) (.t .tm (l.take m))),(8,.s .tm l),(9,.i l.length),(10,.i m)],⟨2,[(0,.var [.i 0,.i 0,.i 0,.slice .nil (.t .ty []),.slice .nil (.t .tm [])]),(1,.row)]⟩))
  (by omega) (fun m=>rfl) (fun m=>rfl) rfl trivial (M.W [some 0,none]) ?_ ?_
 ·intro m hm hP;have hs2:=ze Tm.full (List.getElem_mem hm);(repeat' first|refine M.gw ?_|refine M.c2 (wu _ _ (Nat.le_refl _) ?_) ?_|exact M.lt|fail);exact⟨rfl,trivial,(M.W [some 0,some 3] (hf:=(by(repeat'(first|exact trivial|refine And.intro ?_ ?_|refine⟨_,U,_,U,?_⟩|exact An.refl _|exact An.of_eq (by simp[Al.Aw,List.take_append_getElem])));done)))⟩
 ·intro hP;(repeat' first|refine M.gw ?_|fail);simp[zk,V.wk,V.Ak,zd,Ty.view,Tm.view]
theorem Fk(k:Int)(s:Ty)(l:List Tm)(hl:(l.map Tm.full).sum<1099511627776)(hs:s.size<1099511627776):PC E 32 [.i k,.agg s.view,.s .tm l] (.agg (Tm.mk k 0 s l).view):=by
 have h1:=Co k l hl;have h2:=x9 _ s (Nat.le_refl _) hs;refine M.F Tryz.func32 ?_;(repeat' first|refine M.gw ?_|refine M.c2 (h1) ?_|refine M.c2 (h2) ?_|fail);simp[zk,V.wk,V.Ak,zd,Ty.view,Tm.view]
theorem Ty.DQ(t:Ty):t.ok=(t.err==0):=by
 simp only[Ty.ok,Ty.err];cases t.shape
 ·simp
 ·by_cases h:t.size<=64
  ·have:¬t.size>64:=by omega
   simp[h,this]
  ·have:t.size>64:=by omega
   simp[h,this]
theorem Tm.E7(t:Tm):t.head=(!(!(Cq t.kind).isSome)&& !((t.args.length:Int) !=(((Cq t.kind).getD 0:Nat):Int))&& !decide (t.index<0)&&(!(t.index !=0)|| !(t.kind !=1))&&(bif xz t.kind then !(t.ty.err !=0) else !(!t.ty.Bw))):=by
 simp only[Tm.head,Ty.DQ];cases hk:Cq t.kind with
 |none=>simp
 |some n=>
  have h1:(t.args.length==n)= !((t.args.length:Int) !=((n:Nat):Int)):=by rw[Bool.eq_iff_iff];simp;omega
  have h2:decide (0<=t.index)= !decide (t.index<0):=by rw[Bool.eq_iff_iff];simp
  simp[h1,h2,bne]
theorem U4:∀(b:Nat) (t:Tm),t.full<=b->b<1099511627776->PC E 242 [.agg t.view] (I3 t):=by
 intro b;induction b with
 |zero=>intro t h;have:=t.Ac;omega
 |succ b ih=>
 intro t hsz hb;have hsz':=Tm.Af t;have hszz:=Tm.size_eq t;have hle:=Tm.Aj t;have hlen:=zh Tm.full Tm.Ac t.args;have hsh:=Tm.Ag t;have h1:=Yd4 t.kind;have h2:=Yd1 t.kind;have h3:=RN t.ty;have h4:=NG t.ty (by omega);have bad:t.shape=false->(V.Ax [.i 0,.bool false])=I3 t:=fun h=>by simp[I3,Tm.nodes,h]
 refine M.F Tryz.func242 ?_;(repeat' first|refine M.gw ?_|refine M.c2 (h1) ?_|refine M.c2 (h2) ?_|refine M.c2 (h3) ?_|refine M.c2 (h4) ?_|refine M.gs ?_ ?_<;>intro h|refine M.cs ?_ ?_<;>intro h|fail);all_goals first
  |(have hd:t.head=false:=by rw[t.E7];simp_all
    have:t.shape=false:=by rw[hsh,hd,Bool.false_and]
    simp[Tm.nodes,this,zk,zd,V.wk,V.Ak];done)
  |(have hd:t.head=true:=by rw[t.E7];simp_all
    refine AW.range t.args.length (fun m=>∀j (hj:j<t.args.length),j<m->(t.args[j]).shape=true)
     (fun m=>([(1,.ptr 0 0),(8,.i (1+((t.args.take m).map Tm.size).sum)),(59,.s .tm t.args),(60,.i t.args.length),(61,.i m)],⟨1,[(0,.var t.view)]⟩))
     (by omega) (fun m=>rfl) (fun m=>rfl) rfl (by intro j hj h;omega) (M.W [some 0]) ?_ ?_
    ·intro m hm hP;have hs1:=yv Tm.size t.args m hm;have hs2:=ze Tm.full (List.getElem_mem hm);have hs3:=yc Tm.size t.args (m+1);have hs4:=Tm.C7 t.args[m];have hs5:=Tm.Aj t.args[m];(repeat' first|refine M.gw ?_|refine M.c2 (ih _ ?_ ?_) ?_|refine M.cs ?_ ?_<;>intro h|exact M.le|exact M.lt|fail)
     ·have h1:(t.args[m]).shape=false:=by simpa using h
      have:t.shape=false:=by rw[hsh,ve Tm.shape hm h1,Bool.and_false]
      simp[Tm.nodes,this,zk,zd,V.wk,V.Ak]
     ·have hh:(t.args[m]).shape=true:=by simpa using h
      refine⟨rfl,z4 (p:=fun t=>Tm.shape t=true) hm hP hh,?_⟩;have e:(1+((((t.args.take (m+1)).map Tm.size).sum:Nat):Int))=1+(((t.args.take m).map Tm.size).sum:Nat)+t.args[m].nodes:=by simp only[Tm.nodes,hh,hs1];simp;omega
      simp only[e];exact(M.W [some 0])
    ·intro hP;have:t.shape=true:=by simp only[hsh,hd,EA Tm.shape t.args fun j hj=>hP j hj hj];simp
     (repeat' first|refine M.gw ?_|fail);simp[Tm.nodes,this,zk,zd,hszz,V.wk,V.Ak])
theorem R8(t:Tm)(ht:t.full<1099511627776):PC E 203 [.agg t.view] (.Ax [.i t.num,.i t.err]):=by
 have h1:=U4 _ t (Nat.le_refl _) ht;refine M.F Tryz.func203 ?_;(repeat' first|refine M.gw ?_|refine M.c2 (h1) ?_|refine M.zb ?_|refine M.cs ?_ ?_<;>intro h|fail);all_goals simp_all[zk,V.wk,V.Ak,zd,Tm.num,Tm.err,Tm.nodes]
 all_goals(first|omega|(split<;>first|omega|simp_all))
theorem Ygm(t:Tm)(ht:t.full<1099511627776):PC E 196 [.agg t.view] (.Ax [.i t.num,.i t.err]):=by
 have h1:=R8 t ht;refine M.F Tryz.func196 ?_;(repeat' first|refine M.gw ?_|refine M.c2 (h1) ?_|fail);simp[zk,V.wk,V.Ak,zd,Ty.view,Tm.view]
theorem Yc9(t:Tm)(ht:t.full<1099511627776):PC E 191 [.agg t.view] (.i t.err):=by
 have h1:=R8 t ht;refine M.F Tryz.func191 ?_;(repeat' first|refine M.gw ?_|refine M.c2 (h1) ?_|fail);simp[zk,V.wk,V.Ak,zd,Ty.view,Tm.view]
end Go.Ab
namespace Go.Ab
open Go Go.Proofs
set_option maxRecDepth 100000
set_option linter.all false
theorem y4:∀(n:Nat) (x y:Ty),x.size<=n->n<1099511627776->PC E 72 [.agg x.view,.agg y.view] (.bool (decide (x=y))):=by
 intro n;induction n with
 |zero=>intro x y h;have:=x.size_pos;omega
 |succ n ih=>
 intro x y hsz hb;have hsz':=Ty.size_eq x;have hlen:=zh Ty.size Ty.size_pos x.args;have heq:=Ty.eq_iff x y;refine M.F Tryz.func72 ?_;(repeat' first|refine M.gw ?_|refine M.gs ?_ ?_<;>intro h|refine M.cs ?_ ?_<;>intro h|fail)
 ·have:¬x=y:=by rw[heq];simp_all
  simp[this,zk,zd,V.wk,V.Ak]
 ·have:¬x=y:=by rintro rfl;simp at h
  simp[this,zk,zd,V.wk,V.Ak]
 ·rename_i hk;simp at h hk;have hl:x.args.length=y.args.length:=by omega
  refine AW.range x.args.length (fun m=>∀j (hj:j<x.args.length),j<m->x.args[j]=y.args[j]'(by omega))
   (fun m=>([(2,.ptr 0 0),(3,.ptr 1 0),(22,.i x.args.length),(23,.i m)],⟨2,[(0,.var x.view),(1,.var y.view)]⟩))
   (by omega) (fun m=>rfl) (fun m=>rfl) rfl (by intro j hj h;omega) (M.W [some 0,some 1]) ?_ ?_
  ·intro m hm hP;have hm':m<y.args.length:=by omega
   have hs2:=ze Ty.size (List.getElem_mem hm);(repeat' first|refine M.gw ?_|refine M.c2 (ih _ _ ?_ ?_) ?_|refine M.cs ?_ ?_<;>intro h|exact M.le|exact M.lt|fail)
   ·have:¬x=y:=by rw[heq];exact fun hc=>Ia hm hm' (by simpa using h) hc.2
    simp[this,zk,zd,V.wk,V.Ak]
   ·exact ⟨rfl,Ie hl hm hP (by simpa using h),(M.W [some 0,some 1])⟩
  ·intro hP;have:x=y:=heq.2 ⟨hk,HZ hl hP⟩;(repeat' first|refine M.gw ?_|fail);simp[this,zk,zd,V.wk,V.Ak]
theorem I1:∀(n:Nat) (x y:Ty),x.size<=n->n<1099511627776->PC E 167 [.agg x.view,.agg y.view] (.bool (decide (x=y))):=by
 intro n;induction n with
 |zero=>intro x y h;have:=x.size_pos;omega
 |succ n ih=>
 intro x y hsz hb;have hsz':=Ty.size_eq x;have hlen:=zh Ty.size Ty.size_pos x.args;have heq:=Ty.eq_iff x y;refine M.F Tryz.func167 ?_;(repeat' first|refine M.gw ?_|refine M.gs ?_ ?_<;>intro h|refine M.cs ?_ ?_<;>intro h|fail)
 ·have:¬x=y:=by rw[heq];simp_all
  simp[this,zk,zd,V.wk,V.Ak]
 ·have:¬x=y:=by rintro rfl;simp at h
  simp[this,zk,zd,V.wk,V.Ak]
 ·rename_i hk;simp at h hk;have hl:x.args.length=y.args.length:=by omega
  refine AW.range x.args.length (fun m=>∀j (hj:j<x.args.length),j<m->x.args[j]=y.args[j]'(by omega))
   (fun m=>([(2,.ptr 0 0),(3,.ptr 1 0),(22,.s .ty x.args),(23,.i x.args.length),(24,.i m)],⟨2,[(0,.var x.view),(1,.var y.view)]⟩))
   (by omega) (fun m=>rfl) (fun m=>rfl) rfl (by intro j hj h;omega) (M.W [some 0,some 1]) ?_ ?_
  ·intro m hm hP;have hm':m<y.args.length:=by omega
   have hs2:=ze Ty.size (List.getElem_mem hm);(repeat' first|refine M.gw ?_|refine M.c2 (ih _ _ ?_ ?_) ?_|refine M.cs ?_ ?_<;>intro h|exact M.le|exact M.lt|fail)
   ·have:¬x=y:=by rw[heq];exact fun hc=>Ia hm hm' (by simpa using h) hc.2
    simp[this,zk,zd,V.wk,V.Ak]
   ·exact ⟨rfl,Ie hl hm hP (by simpa using h),(M.W [some 0,some 1])⟩
  ·intro hP;have:x=y:=heq.2 ⟨hk,HZ hl hP⟩;(repeat' first|refine M.gw ?_|fail);simp[this,zk,zd,V.wk,V.Ak]
theorem K0:∀(n:Nat) (x y:Tm),x.full<=n->n<1099511627776->PC E 50 [.agg x.view,.agg y.view] (.bool (decide (x=y))):=by
 intro n;induction n with
 |zero=>intro x y h;have:=x.Ac;omega
 |succ n ih=>
 intro x y hsz hb;have hsz':=Tm.Af x;have hlen:=zh Tm.full Tm.Ac x.args;have heq:=Tm.eq_iff x y;have hty:=y4 _ x.ty y.ty (Nat.le_refl _) (by omega);refine M.F Tryz.func50 ?_;(repeat' first|refine M.gw ?_|refine M.c2 (hty) ?_|refine M.gs ?_ ?_<;>intro h|refine M.cs ?_ ?_<;>intro h|fail)
 ·have:¬x=y:=by rw[heq];simp_all
  simp[this,zk,zd,V.wk,V.Ak]
 ·have:¬x=y:=by rw[heq];simp_all
  simp[this,zk,zd,V.wk,V.Ak]
 ·have:¬x=y:=by rw[heq];simp_all
  simp[this,zk,zd,V.wk,V.Ak]
 ·have:¬x=y:=by rintro rfl;simp at h
  simp[this,zk,zd,V.wk,V.Ak]
 ·rename_i h1 h2 h3;simp at h h1 h2 h3;have hl:x.args.length=y.args.length:=by omega
  refine AW.range x.args.length (fun m=>∀j (hj:j<x.args.length),j<m->x.args[j]=y.args[j]'(by omega))
   (fun m=>([(2,.ptr 0 0),(3,.ptr 1 0),(37,.i x.args.length),(38,.i m)],⟨2,[(0,.var x.view),(1,.var y.view)]⟩))
   (by omega) (fun m=>rfl) (fun m=>rfl) rfl (by intro j hj h;omega) (M.W [some 0,some 1]) ?_ ?_
  ·intro m hm hP;have hm':m<y.args.length:=by omega
   have hs2:=ze Tm.full (List.getElem_mem hm);(repeat' first|refine M.gw ?_|refine M.c2 (ih _ _ ?_ ?_) ?_|refine M.cs ?_ ?_<;>intro h|exact M.le|exact M.lt|fail)
   ·have:¬x=y:=by rw[heq];exact fun hc=>Ia hm hm' (by simpa using h) hc.2.2.2
    simp[this,zk,zd,V.wk,V.Ak]
   ·exact ⟨rfl,Ie hl hm hP (by simpa using h),(M.W [some 0,some 1])⟩
  ·intro hP;have:x=y:=heq.2 ⟨h1,h2,h3,HZ hl hP⟩;(repeat' first|refine M.gw ?_|fail);simp[this,zk,zd,V.wk,V.Ak]
theorem Zt8:∀(n:Nat) (x y:Tm),x.full<=n->n<1099511627776->PC E 228 [.agg x.view,.agg y.view] (.bool (decide (x=y))):=by
 intro n;induction n with
 |zero=>intro x y h;have:=x.Ac;omega
 |succ n ih=>
 intro x y hsz hb;have hsz':=Tm.Af x;have hlen:=zh Tm.full Tm.Ac x.args;have heq:=Tm.eq_iff x y;have hty:=I1 _ x.ty y.ty (Nat.le_refl _) (by omega);refine M.F Tryz.func228 ?_;(repeat' first|refine M.gw ?_|refine M.c2 (hty) ?_|refine M.gs ?_ ?_<;>intro h|refine M.cs ?_ ?_<;>intro h|fail)
 ·have:¬x=y:=by rw[heq];simp_all
  simp[this,zk,zd,V.wk,V.Ak]
 ·have:¬x=y:=by rw[heq];simp_all
  simp[this,zk,zd,V.wk,V.Ak]
 ·have:¬x=y:=by rw[heq];simp_all
  simp[this,zk,zd,V.wk,V.Ak]
 ·have:¬x=y:=by rintro rfl;simp at h
  simp[this,zk,zd,V.wk,V.Ak]
 ·rename_i h1 h2 h3;simp at h h1 h2 h3;have hl:x.args.length=y.args.length:=by omega
  refine AW.range x.args.length (fun m=>∀j (hj:j<x.args.length),j<m->x.args[j]=y.args[j]'(by omega))
   (fun m=>([(2,.ptr 0 0),(3,.ptr 1 0),(37,.s .tm x.args),(38,.i x.args.length),(39,.i m)],⟨2,[(0,.var x.view),(1,.var y.view)]⟩))
   (by omega) (fun m=>rfl) (fun m=>rfl) rfl (by intro j hj h;omega) (M.W [some 0,some 1]) ?_ ?_
  ·intro m hm hP;have hm':m<y.args.length:=by omega
   have hs2:=ze Tm.full (List.getElem_mem hm);(repeat' first|refine M.gw ?_|refine M.c2 (ih _ _ ?_ ?_) ?_|refine M.cs ?_ ?_<;>intro h|exact M.le|exact M.lt|fail)
   ·have:¬x=y:=by rw[heq];exact fun hc=>Ia hm hm' (by simpa using h) hc.2.2.2
    simp[this,zk,zd,V.wk,V.Ak]
   ·exact ⟨rfl,Ie hl hm hP (by simpa using h),(M.W [some 0,some 1])⟩
  ·intro hP;have:x=y:=heq.2 ⟨h1,h2,h3,HZ hl hP⟩;(repeat' first|refine M.gw ?_|fail);simp[this,zk,zd,V.wk,V.Ak]
def Em(b:Bool)(l:List (Int×Int)):Bool:=b&&l.all fun p=>decide (p.1<=536870912)
theorem Zl6(b:Bool)(l l':List (Int×Int)):Em (Em b l) l'=Em b (l++l'):=by simp[Em,Bool.and_assoc]
theorem VW(b:Bool):Em b []=b:=by simp[Em]
theorem Yhk(b:Bool)(i bl:Int):AC E 204 [.i i,.i bl,.ptr 0 0] ⟨1,[(0,.var [.bool b])]⟩ (.Ax []) ⟨1,[(0,.var [.bool (Em b [(i,bl)])])]⟩:=by
 refine M.F Tryz.func204 ?_;(repeat' first|refine M.gw ?_|refine M.gs ?_ ?_<;>intro h|fail)
 ·(exact M.n2 [some 0] (h6:=(by(repeat'(first|exact trivial|refine And.intro ?_ ?_|refine⟨_,U,_,U,_,U,?_⟩|exact An.of_eq (by simp[Al.Aw,Em,h])));done)) (h8:=(by simp[zk,V.wk,V.Ak,zd,Ty.view,Tm.view,Em,h])))
 ·(exact M.n2 [some 0] (h6:=(by(repeat'(first|exact trivial|refine And.intro ?_ ?_|refine⟨_,U,_,U,_,U,?_⟩|exact An.of_eq (by simp[Al.Aw,Em,h])));done)) (h8:=(by simp[zk,V.wk,V.Ak,zd,Ty.view,Tm.view,Em,h])))
theorem Zw8:∀(n:Nat) (t:Tm) (b:Bool) (bl:Int),t.full<=n->n<1099511627776->0<=bl->bl+n<1099511627776->AC E 226 [.agg t.view,.i bl,.ptr 0 0,.ptr 1 0] ⟨3,[(0,.var [.fn (.func 204) [] [.ptr 2 0]]),(1,.var [.fn (.func 226) [] [.ptr 0 0,.ptr 1 0]]),(2,.var [.bool b])]⟩ (.Ax [])
 ⟨3,[(0,.var [.fn (.func 204) [] [.ptr 2 0]]),(1,.var [.fn (.func 226) [] [.ptr 0 0,.ptr 1 0]]),(2,.var [.bool (Em b (t.vars bl))])]⟩:=by
 intro n;induction n with
 |zero=>intro t b bl h;have:=t.Ac;omega
 |succ n ih=>
 intro t b bl hsz hb hbl hbn;have hsz':=Tm.Af t;have hlen:=zh Tm.full Tm.Ac t.args;have hv:=Tm.AG bl t;refine M.F Tryz.func226 ?_;(repeat' first|refine M.gw ?_|refine M.cv (Yhk _ _ _) [2] 0 ?_|refine M.cs ?_ ?_<;>intro h|fail);all_goals
  have hup:up t.kind bl<=bl+1:=by simp only[up];split<;>omega
  have hup0:0<=up t.kind bl:=by simp only[up];split<;>omega
  refine AW.range t.args.length (fun m=>True)
   (fun m=>([(1,.i (up t.kind bl)),(3,.ptr 1 0),(22,.s .tm t.args),(23,.i t.args.length),(24,.i m)],⟨4,[(0,.var [.fn (.func 204) [] [.ptr 2 0]]),(1,.var [.fn (.func 226) [] [.ptr 0 0,.ptr 1 0]]),(2,.var [.bool (Em b ((if t.kind=1 then [(t.index,bl)] else [])++(t.args.take m).flatMap (Tm.vars (up t.kind bl))))]),(3,.var t.view)]⟩))
   (by omega) (fun m=>rfl) (fun m=>rfl) rfl trivial ?_ ?_ ?_
  ·simp_all only[beq_iff_eq,beq_eq_false_iff_ne,ne_eq];exact(M.W [some 0,some 1,some 2,some 3] (hf:=(by(repeat'(first|exact trivial|refine And.intro ?_ ?_|refine⟨_,U,_,U,?_⟩|exact An.refl _|exact An.of_eq (by simp[Al.Aw,up, *,VW])));done)) (he:=(by(repeat'(first|exact trivial|refine And.intro ?_ ?_|refine⟨_,U,_,U,_,U,?_⟩|exact An.refl _|exact An.of_eq (by simp[Al.Aw,up, *,VW])));done)))
  ·intro m hm hP;have hs2:=ze Tm.full (List.getElem_mem hm);have hc:=ih t.args[m] (Em b ((if t.kind=1 then [(t.index,bl)] else [])++(t.args.take m).flatMap (Tm.vars (up t.kind bl)))) (up t.kind bl) (by omega) (by omega) hup0 (by omega);(repeat' first|refine M.gw ?_|refine M.cv (hc) [0,1,2] 0 ?_|fail);refine⟨rfl,trivial,?_⟩;exact(M.W [some 0,some 1,some 2,some 3] (he:=(by(repeat'(first|exact trivial|refine And.intro ?_ ?_|refine⟨_,U,_,U,_,U,?_⟩|exact An.refl _|exact An.of_eq (by simp[Al.Aw,Zl6,uq _ _ _ hm])));done)))
  ·intro hP;skip
   (exact M.n2 [some 0,some 1,some 2] (h6:=(by(repeat'(first|exact trivial|refine And.intro ?_ ?_|refine⟨_,U,_,U,_,U,?_⟩|exact An.refl _|exact An.of_eq (by simp[Al.Aw,hv])));done)) (h8:=(by simp[zk,V.wk,V.Ak,zd,Ty.view,Tm.view,hv])))
theorem Zzf(t:Tm)(b:Bool)(ht:t.full<1099511627776):AC E 165 [.agg t.view,.fn (.func 204) [] [.ptr 0 0]] ⟨1,[(0,.var [.bool b])]⟩ (.Ax []) ⟨1,[(0,.var [.bool (Em b (t.vars 0))])]⟩:=by
 have hc:=Zw8 _ t b 0 (Nat.le_refl _) (by omega) (by omega) (by omega);refine M.F Tryz.func165 ?_;(repeat' first|refine M.gw ?_|refine M.cv (hc) [2,3,0] 0 ?_|fail)
 (exact M.n2 [some 0] (h8:=(by simp[zk,V.wk,V.Ak,zd,Ty.view,Tm.view,Em])))
theorem ON(t:Tm)(ht:t.full<1099511627776):PC E 131 [.agg t.view] (.bool t.near):=by
 have hc:=Zzf t true ht;refine M.F Tryz.func131 ?_;(repeat' first|refine M.gw ?_|refine M.cb (hc) [1] 0 ?_|fail);simp[zk,V.wk,V.Ak,Em,Tm.near]
theorem Yci(at_ c i bl:Int)(hc:0<=c/\c<1099511627776)(hi:0<=i/\i<9223372036854775808)(hb:0<=bl/\bl<1099511627776):AC E 260 [.i i,.i bl,.ptr 0 0,.ptr 1 0] ⟨2,[(0,.var [.i at_]),(1,.var [.i c])]⟩ (.Ax []) ⟨2,[(0,.var [.i at_]),(1,.var [.i (c+cnt at_ [(i,bl)])])]⟩:=by
 refine M.F Tryz.func260 ?_;(repeat' first|refine M.gw ?_|refine M.cs ?_ ?_<;>intro h|fail)
 ·have:i-bl=at_:=by simpa using h
  (exact M.n2 [some 0,some 1] (h6:=(by(repeat'(first|exact trivial|refine And.intro ?_ ?_|refine⟨_,U,_,U,_,U,?_⟩|exact An.refl _|exact An.of_eq (by simp[Al.Aw,ua,this])));done)) (h8:=(by simp[zk,V.wk,V.Ak,zd,Ty.view,Tm.view,ua,this])))
 ·have:¬i-bl=at_:=by simpa using h
  (exact M.n2 [some 0,some 1] (h6:=(by(repeat'(first|exact trivial|refine And.intro ?_ ?_|refine⟨_,U,_,U,_,U,?_⟩|exact An.refl _|exact An.of_eq (by simp[Al.Aw,ua,this])));done)) (h8:=(by simp[zk,V.wk,V.Ak,zd,Ty.view,Tm.view,ua,this])))
theorem Zrw(at_:Int):∀(n:Nat) (t:Tm) (c:Int) (bl:Int),t.full<=n->n<1099511627776->0<=bl->bl+n<1099511627776->0<=c->c+t.full<1099511627776->(∀p∈t.vars bl,0<=p.1/\p.1<9223372036854775808)->AC E 226 [.agg t.view,.i bl,.ptr 0 0,.ptr 1 0] ⟨4,[(0,.var [.fn (.func 260) [] [.ptr 2 0,.ptr 3 0]]),(1,.var [.fn (.func 226) [] [.ptr 0 0,.ptr 1 0]]),(2,.var [.i at_]),(3,.var [.i c])]⟩ (.Ax [])
 ⟨4,[(0,.var [.fn (.func 260) [] [.ptr 2 0,.ptr 3 0]]),(1,.var [.fn (.func 226) [] [.ptr 0 0,.ptr 1 0]]),(2,.var [.i at_]),(3,.var [.i (c+cnt at_ (t.vars bl))])]⟩:=by
 intro n;induction n with
 |zero=>intro t b bl h;have:=t.Ac;omega
 |succ n ih=>
 intro t c bl hsz hb hbl hbn hc0 hcn hix;have hsz':=Tm.Af t;have hlen:=zh Tm.full Tm.Ac t.args;have hv:=Tm.AG bl t;have hi:t.kind=1->0<=t.index/\t.index<9223372036854775808:=fun h=>by simpa using hix (t.index,bl) (by rw[hv];simp[h])
 have hcb:t.kind=1->_:=fun h=>Yci at_ c t.index bl (by omega) (hi h) (by omega);refine M.F Tryz.func226 ?_;(repeat' first|refine M.gw ?_|refine M.cv (hcb (by simpa using h)) [2,3] 0 ?_|refine M.cs ?_ ?_<;>intro h|fail);all_goals
  have hup:up t.kind bl<=bl+1:=by simp only[up];split<;>omega
  have hup0:0<=up t.kind bl:=by simp only[up];split<;>omega
  refine AW.range t.args.length (fun m=>True)
   (fun m=>([(1,.i (up t.kind bl)),(3,.ptr 1 0),(22,.s .tm t.args),(23,.i t.args.length),(24,.i m)],⟨5,[(0,.var [.fn (.func 260) [] [.ptr 2 0,.ptr 3 0]]),(1,.var [.fn (.func 226) [] [.ptr 0 0,.ptr 1 0]]),(2,.var [.i at_]),(3,.var [.i (c+cnt at_ ((if t.kind=1 then [(t.index,bl)] else [])++(t.args.take m).flatMap (Tm.vars (up t.kind bl))))]),(4,.var t.view)]⟩))
   (by omega) (fun m=>rfl) (fun m=>rfl) rfl trivial ?_ ?_ ?_
  ·simp_all only[beq_iff_eq,beq_eq_false_iff_ne,ne_eq];exact(M.W [some 0,some 1,some 2,some 3,some 4] (hf:=(by(repeat'(first|exact trivial|refine And.intro ?_ ?_|refine⟨_,U,_,U,?_⟩|exact An.refl _|exact An.of_eq (by simp[Al.Aw,up, *,xg,cnt])));done)) (he:=(by(repeat'(first|exact trivial|refine And.intro ?_ ?_|refine⟨_,U,_,U,_,U,?_⟩|exact An.refl _|exact An.of_eq (by simp[Al.Aw,up, *,xg,cnt])));done)))
  ·intro m hm hP;have hs2:=ze Tm.full (List.getElem_mem hm);have hs3:cnt at_ ((if t.kind=1 then [(t.index,bl)] else [])++(t.args.take m).flatMap (Tm.vars (up t.kind bl)))+t.args[m].full<=1+(t.args.map Tm.full).sum:=by
    have h1:=QU at_ ((if t.kind=1 then [(t.index,bl)] else [])++(t.args.take m).flatMap (Tm.vars (up t.kind bl)));have h2:=Vf (t.args.take m) (Tm.vars (up t.kind bl)) fun x _=>x.CE _;have h3:((t.args.take m).map Tm.size).sum<=((t.args.take m).map Tm.full).sum:=xr _ (fun x _=>x.Aj);have h4:=yv Tm.full t.args m hm;have h5:=yc Tm.full t.args (m+1);have h6:(if t.kind=1 then [(t.index,bl)] else []).length<=1:=by split<;>simp
    simp only[List.length_append] at h1;omega
   have hix':∀p∈(t.args[m]).vars (up t.kind bl),0<=p.1/\p.1<9223372036854775808:=fun p hp=>hix p (by rw[hv];exact List.mem_append_right _ (List.mem_flatMap.2 ⟨_,List.getElem_mem hm,hp⟩));have hc:=ih t.args[m] (c+cnt at_ ((if t.kind=1 then [(t.index,bl)] else [])++(t.args.take m).flatMap (Tm.vars (up t.kind bl)))) (up t.kind bl) (by omega) (by omega) hup0 (by omega) (by omega) (by omega) hix';(repeat' first|refine M.gw ?_|refine M.cv (hc) [0,1,2,3] 0 ?_|fail);refine⟨rfl,trivial,?_⟩;exact(M.W [some 0,some 1,some 2,some 3,some 4] (he:=(by(repeat'(first|exact trivial|refine And.intro ?_ ?_|refine⟨_,U,_,U,_,U,?_⟩|exact An.refl _|exact An.of_eq (by simp[Al.Aw,xg,uq _ _ _ hm,Int.add_assoc])));done)))
  ·intro hP;skip
   (exact M.n2 [some 0,some 1,some 2,some 3] (h6:=(by(repeat'(first|exact trivial|refine And.intro ?_ ?_|refine⟨_,U,_,U,_,U,?_⟩|exact An.refl _|exact An.of_eq (by simp[Al.Aw,hv])));done)) (h8:=(by simp[zk,V.wk,V.Ak,zd,Ty.view,Tm.view,hv])))
theorem Zs0(t:Tm)(at_:Int)(ht:t.full<549755813888)(hix:∀p∈t.vars 0,0<=p.1/\p.1<9223372036854775808):AC E 165 [.agg t.view,.fn (.func 260) [] [.ptr 0 0,.ptr 1 0]] ⟨2,[(0,.var [.i at_]),(1,.var [.i 0])]⟩ (.Ax []) ⟨2,[(0,.var [.i at_]),(1,.var [.i (cnt at_ (t.vars 0))])]⟩:=by
 have hc:=Zrw at_ _ t 0 0 (Nat.le_refl _) (by omega) (by omega) (by omega) (by omega) (by omega) hix;refine M.F Tryz.func165 ?_;(repeat' first|refine M.gw ?_|refine M.cv (hc) [3,4,0,1] 0 ?_|fail)
 (exact M.n2 [some 0,some 1] (h6:=(by(repeat'(first|exact trivial|refine And.intro ?_ ?_|refine⟨_,U,_,U,_,U,?_⟩|exact An.refl _|exact An.of_eq (by simp[Al.Aw,cnt])));done)) (h8:=(by simp[zk,V.wk,V.Ak,zd,Ty.view,Tm.view,cnt])))
theorem Yb6(t:Tm)(at_:Int)(ht:t.full<549755813888)(hix:∀p∈t.vars 0,0<=p.1/\p.1<9223372036854775808):PC E 237 [.agg t.view,.i at_] (.i (cnt at_ (t.vars 0))):=by
 have hc:=Zs0 t at_ ht hix;refine M.F Tryz.func237 ?_;(repeat' first|refine M.gw ?_|refine M.cb (hc) [1,2] 0 ?_|fail);simp[zk,V.wk,V.Ak]
theorem UI(t:Tm)(at_:Int)(ht:t.full<549755813888)(hix:∀p∈t.vars 0,0<=p.1/\p.1<1099511627776):PC E 237 [.agg t.view,.i at_] (.i (cnt at_ (t.vars 0))):=
 Yb6 t at_ ht fun p hp=>by have:=hix p hp;omega
theorem Ye6(fr by_ i bl:Int)(hi:0<=i/\i<549755813888)(hb:0<=bl/\bl<1099511627776)(hy: -1099511627776<=by_/\by_<1099511627776):AC E 234 [.i i,.i bl,.ptr 0 0,.ptr 1 0] ⟨2,[(0,.var [.i fr]),(1,.var [.i by_])]⟩ (.agg (zn fr by_ i bl).view) ⟨2,[(0,.var [.i fr]),(1,.var [.i by_])]⟩:=by
 have hv:=Wr;refine M.F Tryz.func234 ?_;(repeat' first|refine M.gw ?_|refine M.c2 (hv _) ?_|refine M.cs ?_ ?_<;>intro h|fail)
 ·have h':fr<=i-bl:=by simpa using h
  (exact M.n2 [some 0,some 1] (h8:=(by simp[zk,V.wk,V.Ak,zd,Ty.view,Tm.view,zn,h'])))
 ·have h':¬fr<=i-bl:=by simpa using h
  (exact M.n2 [some 0,some 1] (h8:=(by simp[zk,V.wk,V.Ak,zd,Ty.view,Tm.view,zn,h'])))
theorem Ydc(fr by_:Int)(hy: -1099511627776<=by_/\by_<1099511627776):∀(n:Nat) (t:Tm) (bl:Int),t.full<=n->n<549755813888->0<=bl->bl+n<549755813888->(∀p∈t.vars bl,0<=p.1/\p.1<549755813888)->AC E 259 [.agg t.view,.i bl,.ptr 0 0,.ptr 1 0] ⟨4,[(0,.var [.fn (.func 234) [] [.ptr 2 0,.ptr 3 0]]),(1,.var [.fn (.func 259) [] [.ptr 0 0,.ptr 1 0]]),(2,.var [.i fr]),(3,.var [.i by_])]⟩ (.agg (t.re (zn fr by_) bl).view) ⟨4,[(0,.var [.fn (.func 234) [] [.ptr 2 0,.ptr 3 0]]),(1,.var [.fn (.func 259) [] [.ptr 0 0,.ptr 1 0]]),(2,.var [.i fr]),(3,.var [.i by_])]⟩:=by
 intro n;induction n with
 |zero=>intro t bl h;have:=t.Ac;omega
 |succ n ih=>
 intro t bl hsz hb hbl hbn hix;have hsz':=Tm.Af t;have hlen:=zh Tm.full Tm.Ac t.args;have hv:=Tm.AG bl t;have hre:=Tm.Bn (zn fr by_) bl t;have hi:t.kind=1->0<=t.index/\t.index<549755813888:=fun h=>by simpa using hix (t.index,bl) (by rw[hv];simp[h])
 have hcb:t.kind=1->_:=fun h=>Ye6 fr by_ t.index bl (hi h) (by omega) hy;have hown:=JR _ t.ty (Nat.le_refl _) (by omega);refine M.F Tryz.func259 ?_;(repeat' first|refine M.gw ?_|refine M.cv (hcb (by simpa using h)) [2,3] 0 ?_|refine M.c2 (hown) ?_|refine M.cs ?_ ?_<;>intro h|fail)
 ·have hk:t.kind=1:=by simpa using h
  (exact M.n2 [some 0,some 1,some 2,some 3] (h8:=(by simp[zk,V.wk,V.Ak,zd,Ty.view,Tm.view,hre,hk])))
 all_goals
  rename_i hk1;have hup:up t.kind bl<=bl+1:=by simp only[up];split<;>omega
  have hup0:0<=up t.kind bl:=by simp only[up];split<;>omega
  have hk1':¬t.kind=1:=by simpa using hk1
  refine AW.range t.args.length (fun m=>True)
   (fun m=>([(1,.i (up t.kind bl)),(3,.ptr 1 0),(6,.ptr 5 0),(7,.ptr 6 0),(32,.s .tm t.args),(33,.i t.args.length),(34,.i m)],⟨8,[(0,.var [.fn (.func 234) [] [.ptr 2 0,.ptr 3 0]]),(1,.var [.fn (.func 259) [] [.ptr 0 0,.ptr 1 0]]),(2,.var [.i fr]),(3,.var [.i by_]),(4,.var t.view),(5,.var [.i 0,.i 0,.i 0,.slice .nil (.t .ty []),.slice .nil (.t .tm [])]),(6,.var [.i t.kind,.i t.index,.i t.ty.kind,.s .ty t.ty.args,.slice (.own 7) (.t .tm ((t.args.take m).map (Tm.re (zn fr by_) (up t.kind bl))))]),(7,.row)]⟩))
   (by omega) (fun m=>rfl) (fun m=>rfl) rfl trivial ?_ ?_ ?_
  ·simp_all only[beq_iff_eq,beq_eq_false_iff_ne,ne_eq];exact(M.W [some 0,some 1,some 2,some 3,some 4,some 5,some 6,none] (hf:=(by(repeat'(first|exact trivial|refine And.intro ?_ ?_|refine⟨_,U,_,U,?_⟩|exact An.refl _|exact An.of_eq (by simp[Al.Aw,up, *])));done)))
  ·intro m hm hP;have hs2:=ze Tm.full (List.getElem_mem hm);have hix':∀p∈(t.args[m]).vars (up t.kind bl),0<=p.1/\p.1<549755813888:=fun p hp=>hix p (by rw[hv];exact List.mem_append_right _ (List.mem_flatMap.2 ⟨_,List.getElem_mem hm,hp⟩));have hc:=ih t.args[m] (up t.kind bl) (by omega) (by omega) hup0 (by omega) hix';(repeat' first|refine M.gw ?_|refine M.cv (hc) [0,1,2,3] 0 ?_|fail);refine⟨rfl,trivial,?_⟩;exact(M.W [some 0,some 1,some 2,some 3,some 4,some 5,some 6,some 9] (he:=(by(repeat'(first|exact trivial|exact Or.inr ⟨_,U,rfl⟩|refine And.intro ?_ ?_|refine⟨_,U,_,U,_,U,?_⟩|exact An.refl _|exact An.of_eq (by simp[Al.Aw,yn _ _ _ hm])));done)))
  ·intro hP;(repeat' first|refine M.gw ?_|fail)
   (exact M.n2 [some 0,some 1,some 2,some 3] (h8:=(by simp[zk,V.wk,V.Ak,zd,Ty.view,Tm.view,hre,hk1'])))
theorem Yho(fr by_:Int)(hy: -1099511627776<=by_/\by_<1099511627776)(t:Tm)(ht:t.full<274877906944)(hix:∀p∈t.vars 0,0<=p.1/\p.1<549755813888):AC E 233 [.agg t.view,.fn (.func 234) [] [.ptr 0 0,.ptr 1 0]] ⟨2,[(0,.var [.i fr]),(1,.var [.i by_])]⟩ (.agg (t.re (zn fr by_) 0).view) ⟨2,[(0,.var [.i fr]),(1,.var [.i by_])]⟩:=by
 have hc:=Ydc fr by_ hy _ t 0 (Nat.le_refl _) (by omega) (by omega) (by omega) hix;refine M.F Tryz.func233 ?_;(repeat' first|refine M.gw ?_|refine M.cv (hc) [3,5,0,1] 0 ?_|fail)
 (exact M.n2 [some 0,some 1] (h8:=(by simp[zk,V.wk,V.Ak,zd,Ty.view,Tm.view,hc])))
theorem Ui(t:Tm)(fr by_:Int)(hy: -1099511627776<=by_/\by_<1099511627776)(ht:t.full<274877906944)(hix:∀p∈t.vars 0,0<=p.1/\p.1<549755813888):PC E 193 [.agg t.view,.i fr,.i by_] (.agg (t.re (zn fr by_) 0).view):=by
 have hc:=Yho fr by_ hy t ht hix;refine M.F Tryz.func193 ?_;(repeat' first|refine M.gw ?_|refine M.cb (hc) [1,2] 0 ?_|fail);simp[zk,V.wk,V.Ak,zd,Ty.view,Tm.view]
theorem Yik(at_:Int)(s:Tm)(i bl:Int)(hat:0<=at_/\at_<549755813888)(hs:s.full<274877906944)(hsi:∀p∈s.vars 0,0<=p.1/\p.1<549755813888)(hi:0<=i/\i<9223372036854775808)(hb:0<=bl/\bl<549755813888):AC E 261 [.i i,.i bl,.ptr 0 0,.ptr 1 0] ⟨2,[(0,.var [.i at_]),(1,.var s.view)]⟩ (.agg (xm at_ s i bl).view) ⟨2,[(0,.var [.i at_]),(1,.var s.view)]⟩:=by
 have hv:=Wr;have hl:=Ui s 0 (at_+bl) (by omega) hs hsi;refine M.F Tryz.func261 ?_;(repeat' first|refine M.gw ?_|refine M.c2 (hv _) ?_|refine M.c2 (hl) ?_|refine M.bl ?_|refine M.cs ?_ ?_<;>intro h|fail)
 ·have h':i-bl=at_:=by simpa using h
  (exact M.n2 [some 0,some 1] (h8:=(by simp[zk,V.wk,V.Ak,zd,Ty.view,Tm.view,xm,h'])))
 ·rename_i h0;have h0':¬i-bl=at_:=by simpa using h0
  have h':at_<i-bl:=by simpa using h
  (exact M.n2 [some 0,some 1] (h8:=(by simp[zk,V.wk,V.Ak,zd,Ty.view,Tm.view,xm,h',h0'])))
 ·rename_i h0;have h0':¬i-bl=at_:=by simpa using h0
  have h':¬at_<i-bl:=by simpa using h
  (exact M.n2 [some 0,some 1] (h8:=(by simp[zk,V.wk,V.Ak,zd,Ty.view,Tm.view,xm,h',h0'])))
theorem Yhm(at_:Int)(s:Tm)(hat:0<=at_/\at_<549755813888)(hs:s.full<274877906944)(hsi:∀p∈s.vars 0,0<=p.1/\p.1<549755813888):∀(n:Nat) (t:Tm) (bl:Int),t.full<=n->n<549755813888->0<=bl->bl+n<549755813888->(∀p∈t.vars bl,0<=p.1/\p.1<9223372036854775808)->AC E 259 [.agg t.view,.i bl,.ptr 0 0,.ptr 1 0] ⟨4,[(0,.var [.fn (.func 261) [] [.ptr 2 0,.ptr 3 0]]),(1,.var [.fn (.func 259) [] [.ptr 0 0,.ptr 1 0]]),(2,.var [.i at_]),(3,.var s.view)]⟩ (.agg (t.re (xm at_ s) bl).view) ⟨4,[(0,.var [.fn (.func 261) [] [.ptr 2 0,.ptr 3 0]]),(1,.var [.fn (.func 259) [] [.ptr 0 0,.ptr 1 0]]),(2,.var [.i at_]),(3,.var s.view)]⟩:=by
 intro n;induction n with
 |zero=>intro t bl h;have:=t.Ac;omega
 |succ n ih=>
 intro t bl hsz hb hbl hbn hix;have hsz':=Tm.Af t;have hlen:=zh Tm.full Tm.Ac t.args;have hv:=Tm.AG bl t;have hre:=Tm.Bn (xm at_ s) bl t;have hi:t.kind=1->0<=t.index/\t.index<9223372036854775808:=fun h=>by simpa using hix (t.index,bl) (by rw[hv];simp[h])
 have hcb:t.kind=1->_:=fun h=>Yik at_ s t.index bl hat hs hsi (hi h) (by omega);have hown:=JR _ t.ty (Nat.le_refl _) (by omega);refine M.F Tryz.func259 ?_;(repeat' first|refine M.gw ?_|refine M.cv (hcb (by simpa using h)) [2,3] 0 ?_|refine M.c2 (hown) ?_|refine M.cs ?_ ?_<;>intro h|fail)
 ·have hk:t.kind=1:=by simpa using h
  (exact M.n2 [some 0,some 1,some 2,some 3] (h8:=(by simp[zk,V.wk,V.Ak,zd,Ty.view,Tm.view,hre,hk])))
 all_goals
  rename_i hk1;have hup:up t.kind bl<=bl+1:=by simp only[up];split<;>omega
  have hup0:0<=up t.kind bl:=by simp only[up];split<;>omega
  have hk1':¬t.kind=1:=by simpa using hk1
  refine AW.range t.args.length (fun m=>True)
   (fun m=>([(1,.i (up t.kind bl)),(3,.ptr 1 0),(6,.ptr 5 0),(7,.ptr 6 0),(32,.s .tm t.args),(33,.i t.args.length),(34,.i m)],⟨8,[(0,.var [.fn (.func 261) [] [.ptr 2 0,.ptr 3 0]]),(1,.var [.fn (.func 259) [] [.ptr 0 0,.ptr 1 0]]),(2,.var [.i at_]),(3,.var s.view),(4,.var t.view),(5,.var [.i 0,.i 0,.i 0,.slice .nil (.t .ty []),.slice .nil (.t .tm [])]),(6,.var [.i t.kind,.i t.index,.i t.ty.kind,.s .ty t.ty.args,.slice (.own 7) (.t .tm ((t.args.take m).map (Tm.re (xm at_ s) (up t.kind bl))))]),(7,.row)]⟩))
   (by omega) (fun m=>rfl) (fun m=>rfl) rfl trivial ?_ ?_ ?_
  ·simp_all only[beq_iff_eq,beq_eq_false_iff_ne,ne_eq];exact(M.W [some 0,some 1,some 2,some 3,some 4,some 5,some 6,none] (hf:=(by(repeat'(first|exact trivial|refine And.intro ?_ ?_|refine⟨_,U,_,U,?_⟩|exact An.refl _|exact An.of_eq (by simp[Al.Aw,up, *])));done)))
  ·intro m hm hP;have hs2:=ze Tm.full (List.getElem_mem hm);have hix':∀p∈(t.args[m]).vars (up t.kind bl),0<=p.1/\p.1<9223372036854775808:=fun p hp=>hix p (by rw[hv];exact List.mem_append_right _ (List.mem_flatMap.2 ⟨_,List.getElem_mem hm,hp⟩));have hc:=ih t.args[m] (up t.kind bl) (by omega) (by omega) hup0 (by omega) hix';(repeat' first|refine M.gw ?_|refine M.cv (hc) [0,1,2,3] 0 ?_|fail);refine⟨rfl,trivial,?_⟩;exact(M.W [some 0,some 1,some 2,some 3,some 4,some 5,some 6,some 9] (he:=(by(repeat'(first|exact trivial|exact Or.inr ⟨_,U,rfl⟩|refine And.intro ?_ ?_|refine⟨_,U,_,U,_,U,?_⟩|exact An.refl _|exact An.of_eq (by simp[Al.Aw,yn _ _ _ hm])));done)))
  ·intro hP;(repeat' first|refine M.gw ?_|fail)
   (exact M.n2 [some 0,some 1,some 2,some 3] (h8:=(by simp[zk,V.wk,V.Ak,zd,Ty.view,Tm.view,hre,hk1'])))
theorem Yil(at_:Int)(s:Tm)(hat:0<=at_/\at_<549755813888)(hs:s.full<274877906944)(hsi:∀p∈s.vars 0,0<=p.1/\p.1<549755813888)(t:Tm)(ht:t.full<274877906944)(hix:∀p∈t.vars 0,0<=p.1/\p.1<9223372036854775808):AC E 233 [.agg t.view,.fn (.func 261) [] [.ptr 0 0,.ptr 1 0]] ⟨2,[(0,.var [.i at_]),(1,.var s.view)]⟩ (.agg (t.re (xm at_ s) 0).view) ⟨2,[(0,.var [.i at_]),(1,.var s.view)]⟩:=by
 have hc:=Yhm at_ s hat hs hsi _ t 0 (Nat.le_refl _) (by omega) (by omega) (by omega) hix;refine M.F Tryz.func233 ?_;(repeat' first|refine M.gw ?_|refine M.cv (hc) [3,5,0,1] 0 ?_|fail)
 (exact M.n2 [some 0,some 1] (h8:=(by simp[zk,V.wk,V.Ak,zd,Ty.view,Tm.view,hc])))
theorem Yiv(t:Tm)(at_:Int)(s:Tm)(hat:0<=at_/\at_<549755813888)(hs:s.full<274877906944)(hsi:∀p∈s.vars 0,0<=p.1/\p.1<549755813888)(ht:t.full<274877906944)(hix:∀p∈t.vars 0,0<=p.1/\p.1<9223372036854775808):PC E 239 [.agg t.view,.i at_,.agg s.view] (.agg (t.re (xm at_ s) 0).view):=by
 have hc:=Yil at_ s hat hs hsi t ht hix;refine M.F Tryz.func239 ?_;(repeat' first|refine M.gw ?_|refine M.cb (hc) [1,2] 0 ?_|fail);simp[zk,V.wk,V.Ak,zd,Ty.view,Tm.view]
theorem SE(t:Tm)(at_:Int)(s:Tm)(hat:0<=at_/\at_<549755813888)(hs:s.full<274877906944)(hsi:∀p∈s.vars 0,0<=p.1/\p.1<549755813888)(ht:t.full<274877906944)(hix:∀p∈t.vars 0,0<=p.1/\p.1<549755813888):PC E 239 [.agg t.view,.i at_,.agg s.view] (.agg (t.re (xm at_ s) 0).view):=
 Yiv t at_ s hat hs hsi ht fun p hp=>by have:=hix p hp;omega
end Go.Ab
namespace Go.Ab
open Go Go.Proofs
set_option maxRecDepth 100000
set_option maxHeartbeats 4000000
set_option linter.all false
theorem UJ(n k:Int)(hk:0<k/\k<1099511627776):PC E 18 [.i n,.i k] (.i (IL n k)):=by
 have hb1:=Int.tmod_lt_of_pos n hk.1;have hb2:=Sm n k hk.1;refine M.F Tryz.func18 ?_;(repeat' first|refine M.gw ?_|fail)
 rfl
theorem vt(d:Dk)(n:Int)(hd:d.ok)(hn:n<1099511627776):AC E 51 [.ptr 0 0,.i n] ⟨1,[(0,.var d.cells)]⟩ (.i (d.next n).1) ⟨1,[(0,.var (d.next n).2.cells)]⟩:=by
 obtain⟨hd1,hd2⟩:=hd;have hm:¬n<1->∀x,PC E 18 [.i x,.i n] (.i (IL x n)):=fun h x=>UJ x n ⟨by omega,hn⟩;refine M.F Tryz.func51 ?_;(repeat' first|refine M.gw ?_|refine M.c2 (hm (by simp_all) _) ?_|refine M.gs ?_ ?_<;>intro h|refine M.cs ?_ ?_<;>intro h|fail)
 ·have h':n<1:=by simpa using h
  have e:d.next n=(0,d):=dif_pos (.inl h')
  (exact M.n2 [some 0] (h6:=(by(repeat'(first|exact trivial|refine And.intro ?_ ?_|refine⟨_,U,_,U,_,U,?_⟩|exact An.of_eq (by simp[Al.Aw,e,Dk.cells])));done)) (h8:=(by simp[zk,V.wk,V.Ak,zd,Ty.view,Tm.view,e,Dk.cells])))
 ·have h':d.l.length<=d.at_:=by simp at h;omega
  have e:d.next n=(0,d):=dif_pos (.inr h')
  (exact M.n2 [some 0] (h6:=(by(repeat'(first|exact trivial|refine And.intro ?_ ?_|refine⟨_,U,_,U,_,U,?_⟩|exact An.of_eq (by simp[Al.Aw,e,Dk.cells])));done)) (h8:=(by simp[zk,V.wk,V.Ak,zd,Ty.view,Tm.view,e,Dk.cells])))
 ·rename_i h0;have h':¬(n<1\/d.l.length<=d.at_):=by simp at h h0;omega
  have e:d.next n=(IL (d.l[d.at_]'(by omega)) n,⟨d.l,d.at_+1⟩):=dif_neg h'
  (exact M.n2 [some 0] (h6:=(by(repeat'(first|exact trivial|refine And.intro ?_ ?_|refine⟨_,U,_,U,_,U,?_⟩|exact An.of_eq (by simp[Al.Aw,e,Dk.cells])));done)) (h8:=(by simp[zk,V.wk,V.Ak,zd,Ty.view,Tm.view,e,Dk.cells])))
theorem Yh6(l:List Int):PC E 12 [.s .int l] (.bool (decide (l.length<=500))):=by
 refine M.F Tryz.func12 ?_;(repeat' first|refine M.gw ?_|fail);simp[zk,V.wk,V.Ak];omega
theorem Yis(l:List Int):AC E 13 [.s .int l] ⟨0,[]⟩ (.ptr 0 0) ⟨1,[(0,.var (Dk.mk l 0).cells)]⟩:=by
 refine M.F Tryz.func13 ?_;(repeat' first|refine M.gw ?_|fail)
 (exact M.n2 [some 0] (h8:=(by simp[zk,V.wk,V.Ak,zd,Ty.view,Tm.view,Dk.cells])))
end Go.Ab
namespace Go.Ab
open Go Go.Proofs
set_option maxRecDepth 100000
set_option linter.all false
theorem J2:∀(n:Nat) (k:Int) (d:Dk),k<=n->n<=20->-100<=k->d.ok->AC E 56 [.ptr 0 0,.i k] ⟨1,[(0,.var d.cells)]⟩ (.agg (d.type k.toNat).1.view) ⟨1,[(0,.var (d.type k.toNat).2.cells)]⟩:=by
 intro n;induction n with
 |zero=>
  intro k d hk hn hk' hd;have h1:=vt d 7 hd (by omega);have e:=Dk.DV k d;refine AC.mk Tryz.func56 rfl rfl rfl rfl rfl (Nat.le_of_ble_eq_true rfl) ?_;repeat'(first|((with_reducible refine D.nil ?_);refine AX.Bk ?_)|((with_reducible refine D.move ?_);refine L.mv U U U ?_)|((with_reducible refine D.assign ?_);refine L.Df U U U ?_)|((with_reducible refine D.bin ?_);first|refine L.sb U U U U (by omega) ?_|refine L.bn U U U U U ?_)|((with_reducible refine D.call ?_);first|(apply L.Mi (h1) [0] 0 rfl;rfl;rfl;rfl;rfl;rfl;rfl;(focus((repeat'(first|exact trivial|refine And.intro ?_ ?_|refine⟨_,U,_,U,_,U,?_⟩|exact An.refl _));done));rfl;rfl;rfl;rfl)|refine L.c2 (vz) U U U U ?_|refine L.c2 (uz) U U U U ?_|refine L.c2 (PT) U U U U ?_)|((with_reducible refine D.alloc ?_);refine L.al U U U ?_)|((with_reducible refine D.store ?_);refine L.st U U U U U U U U U ?_)|((with_reducible refine D.aw ?_);first|((with_reducible refine D.blk ?_);refine AW.block ?_)|refine K.sq (AW.A8 ?_)|refine K.sq (K.sq ?_)|refine AW.A8 ?_|refine AW.BD U ?_|refine AW.Dl U (fun h=> ?_) (fun h=> ?_)|refine AW.skip ?_|refine AW.ret ?_)|with_reducible refine K.tN ?_|with_reducible refine K.bN ?_|with_reducible refine K.tR ?_|with_reducible refine K.bR ?_)
  all_goals first
   |(exfalso;simp at*;omega)
   |(simp only[beq_iff_eq,beq_eq_false_iff_ne,ne_eq,decide_eq_true_eq,decide_eq_false_iff_not,gt_iff_lt] at*
     simp[*] at e
     (exact K.n2 [some 0] U U U U U (by(repeat'(first|exact trivial|refine And.intro ?_ ?_|refine⟨_,U,_,U,_,U,?_⟩|exact An.of_eq (by simp[Al.Aw,e])));done) U (by simp[zk,V.wk,V.Ak,zd,Ty.view,Tm.view,e])))
 |succ n ih=>
  intro k d hk hn hk' hd;have h1:=vt d 7 hd (by omega);have e:=Dk.DV k d;have i1:k>0->_:=fun h=>ih (k-1) (d.next 7).2 (by omega) (by omega) (by omega) (Dk.AA hd 7);have i2:k>0->_:=fun h=>ih (k-1) ((d.next 7).2.type (k-1).toNat).2 (by omega) (by omega) (by omega) (Dk.Bd _ _ (Dk.AA hd 7));have i3:=Ts ((d.next 7).2.type (k-1).toNat).1 ((((d.next 7).2.type (k-1).toNat).2).type (k-1).toNat).1 (Dk.B2 _ _ (by omega)) (Dk.B2 _ _ (by omega));have i4:=Jh ((d.next 7).2.type (k-1).toNat).1 ((((d.next 7).2.type (k-1).toNat).2).type (k-1).toNat).1 (Dk.B2 _ _ (by omega)) (Dk.B2 _ _ (by omega));refine AC.mk Tryz.func56 rfl rfl rfl rfl rfl (Nat.le_of_ble_eq_true rfl) ?_;repeat'(first|((with_reducible refine D.nil ?_);refine AX.Bk ?_)|((with_reducible refine D.move ?_);refine L.mv U U U ?_)|((with_reducible refine D.assign ?_);refine L.Df U U U ?_)|((with_reducible refine D.bin ?_);first|refine L.sb U U U U (by omega) ?_|refine L.bn U U U U U ?_)|((with_reducible refine D.call ?_);first|(apply L.Mi (h1) [0] 0 rfl;rfl;rfl;rfl;rfl;rfl;rfl;(focus((repeat'(first|exact trivial|refine And.intro ?_ ?_|refine⟨_,U,_,U,_,U,?_⟩|exact An.refl _));done));rfl;rfl;rfl;rfl)|refine L.c2 (vz) U U U U ?_|refine L.c2 (uz) U U U U ?_|refine L.c2 (PT) U U U U ?_|(apply L.Mi (i1 (by simp_all)) [0] 0 rfl;rfl;rfl;rfl;rfl;rfl;rfl;(focus((repeat'(first|exact trivial|refine And.intro ?_ ?_|refine⟨_,U,_,U,_,U,?_⟩|exact An.refl _));done));rfl;rfl;rfl;rfl)|(apply L.Mi (i2 (by simp_all)) [0] 0 rfl;rfl;rfl;rfl;rfl;rfl;rfl;(focus((repeat'(first|exact trivial|refine And.intro ?_ ?_|refine⟨_,U,_,U,_,U,?_⟩|exact An.refl _));done));rfl;rfl;rfl;rfl)|refine L.c2 (i3) U U U U ?_|refine L.c2 (i4) U U U U ?_)|((with_reducible refine D.alloc ?_);refine L.al U U U ?_)|((with_reducible refine D.store ?_);refine L.st U U U U U U U U U ?_)|((with_reducible refine D.aw ?_);first|((with_reducible refine D.blk ?_);refine AW.block ?_)|refine K.sq (AW.A8 ?_)|refine K.sq (K.sq ?_)|refine AW.A8 ?_|refine AW.BD U ?_|refine AW.Dl U (fun h=> ?_) (fun h=> ?_)|refine AW.skip ?_|refine AW.ret ?_)|with_reducible refine K.tN ?_|with_reducible refine K.bN ?_|with_reducible refine K.tR ?_|with_reducible refine K.bR ?_)
  all_goals
   simp only[beq_iff_eq,beq_eq_false_iff_ne,ne_eq,decide_eq_true_eq,decide_eq_false_iff_not,gt_iff_lt] at*;simp[*] at e
   (exact K.n2 [some 0] U U U U U (by(repeat'(first|exact trivial|refine And.intro ?_ ?_|refine⟨_,U,_,U,_,U,?_⟩|exact An.of_eq (by simp[Al.Aw,e])));done) U (by simp[zk,V.wk,V.Ak,zd,Ty.view,Tm.view,e]))
theorem Zt1(n:Nat)(hn:n<100000):PC E 80 [.i n] (.agg (DY n).view):=by
 have h1:=Co 4 [] (by simp);refine M.F Tryz.func80 ?_;(repeat' first|refine M.gw ?_|refine M.c2 (h1) ?_|fail);refine K.sq (AW.down n (fun m=>m<=n)
  (fun m=>([(0,.i m),(2,.ptr 0 0),(3,.ptr 1 0)],⟨2,[(0,.var [.i 0,.i 0,.i 0,.slice .nil (.t .ty []),.slice .nil (.t .tm [])]),(1,.var (DY (n-m)).view)]⟩))
  (by omega) (fun m=>rfl) rfl (Nat.le_refl _) ?_ ?_ ?_)
 ·simp only[Nat.sub_self];exact(M.W [some 0,some 1])
 ·intro m hm hP;have e:DY (n-m)= .mk 5 0 (.mk 0 []) [DY (n-(m+1))]:=by rw[show n-m=(n-(m+1))+1 by omega];rfl
  (repeat' first|refine M.gw ?_|fail);refine⟨rfl,by omega,?_⟩;simp only[e];exact(M.W [some 0,some 1])
 ·intro _;(repeat' first|refine M.gw ?_|fail);simp[zk,V.wk,V.Ak,zd,Ty.view,Tm.view]
theorem Zy3(n:Int):PC E 37 [.i n] (.Ax [.agg (if 0<=n/\n<4096 then DY n.toNat else va).view,.i (if n<0 then 1 else if n>=4096 then 4 else 0)]):=by
 have h1:¬n<0->¬n>=4096->PC E 80 [.i n] _:=fun h h'=>by
  have:=Zt1 n.toNat (by omega);rw[show((n.toNat:Nat):Int)=n by omega] at this;exact this
 refine M.F Tryz.func37 ?_;(repeat' first|refine M.gw ?_|refine M.c2 (h1 (by simp_all) (by simp_all)) ?_|refine M.cs ?_ ?_<;>intro h|fail)
 ·have h':n<0:=by simpa using h
  have h2:¬(0<=n/\n<4096):=by omega
  simp[zk,V.wk,V.Ak,zd,Ty.view,Tm.view,va,h',h2]
 ·rename_i h0;have h':¬n<0:=by simpa using h0
  have h'':n>=4096:=by simpa using h
  have h2:¬(0<=n/\n<4096):=by omega
  simp[zk,V.wk,V.Ak,zd,Ty.view,Tm.view,va,h',h'',h2]
 ·rename_i h0;have h':¬n<0:=by simpa using h0
  have h'':¬n>=4096:=by simpa using h
  have h2:0<=n/\n<4096:=by omega
  simp[zk,V.wk,V.Ak,zd,Ty.view,Tm.view,va,h',h'',h2]
theorem HA(g l:List Ty)(h:g.length+l.length<1000000):PC E 105 [.s .ty g,.s .ty l] (.s .ty (g++l)):=by
 refine M.F Tryz.func105 ?_;(repeat' first|refine M.gw ?_|fail);simp[zk,V.wk,V.Ak,zd,Ty.view,Tm.view]
theorem Gc(t:Tm)(ht:t.full<549755813888):PC E 74 [.agg t.view] (.agg (Tm.mk 2 0 (.mk 1 []) [t]).view):=by
 have h1:=Fk 2 (.mk 1 []) [t] (by simp;omega) (by simp[Ty.size_eq]);refine M.F Tryz.func74 ?_;(repeat' first|refine M.gw ?_|refine M.c2 (vz) ?_|refine M.c2 (h1) ?_|fail);simp[zk,V.wk,V.Ak,zd,Ty.view,Tm.view]
end Go.Ab
