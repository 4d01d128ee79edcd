/- A part of the proofs of this seat. No conditions. -/
import Derived.Test.YtjgokiomgcfclaaGreatDoorRows
import Derived.Test.YtjgokiomgcfclaaGreatDoorD1
namespace Go.Ab
open Go Go.Proofs
def Mu:List (TypeId×TI):=[
 (2,⟨1,[.int .i64 0],.int .i64⟩),
 (3,⟨1,[.int .i64 0],.int .i64⟩),
 (4,⟨1,[.bool false],.bool⟩),
 (5,⟨1,[.int .u8 0],.int .u8⟩),
 (9,⟨1,[.str ⟨#[]⟩],.str⟩),
 (12,⟨1,[.int .u64 0],.int .u64⟩),
 (13,⟨2,[.str ⟨#[]⟩,.int .u64 0],.strct [(0,1,false),(1,1,false)]⟩),
 (20,⟨1,[.raw .nilIface],.other⟩),
 (21,⟨1,[.int .i32 0],.int .i32⟩),
 (23,⟨1,[.slice .nil (.t .ty [])],.slc (some .ty) 2 32⟩),
 (24,⟨2,[.int .i64 0,.slice .nil (.t .ty [])],.strct [(0,1,false),(1,1,false)]⟩),
 (25,⟨2,[.int .i64 0,.slice .nil (.t .ty [])],.strct [(0,1,false),(1,1,false)]⟩),
 (26,⟨1,[.slice .nil (.t .tm [])],.slc (some .tm) 5 72⟩),
 (27,⟨1,[.slice .nil (.t .fm [])],.slc (some .fm) 5 88⟩),
 (28,⟨1,[.slice .nil (.t .pf [])],.slc (some .pf) 7 120⟩),
 (29,⟨7,[.int .i64 0,.int .i64 0,.int .i64 0,.slice .nil (.t .ty []),.slice .nil (.t .tm []),.slice .nil (.t .fm []),.slice .nil (.t .pf [])],.strct [(0,1,false),(1,1,false),(2,2,true),(4,1,false),(5,1,false),(6,1,false)]⟩),
 (30,⟨7,[.int .i64 0,.int .i64 0,.int .i64 0,.slice .nil (.t .ty []),.slice .nil (.t .tm []),.slice .nil (.t .fm []),.slice .nil (.t .pf [])],.strct [(0,1,false),(1,1,false),(2,2,true),(4,1,false),(5,1,false),(6,1,false)]⟩),
 (32,⟨5,[.int .i64 0,.int .i64 0,.int .i64 0,.slice .nil (.t .ty []),.slice .nil (.t .tm [])],.strct [(0,1,false),(1,1,false),(2,2,true),(4,1,false)]⟩),
 (33,⟨5,[.int .i64 0,.int .i64 0,.int .i64 0,.slice .nil (.t .ty []),.slice .nil (.t .tm [])],.strct [(0,1,false),(1,1,false),(2,2,true),(4,1,false)]⟩),
 (35,⟨1,[.int .i64 0],.int .i64⟩),
 (38,⟨5,[.int .i64 0,.int .i64 0,.slice .nil (.t .ty []),.slice .nil (.t .tm []),.slice .nil (.t .fm [])],.strct [(0,1,false),(1,2,true),(3,1,false),(4,1,false)]⟩),
 (39,⟨5,[.int .i64 0,.int .i64 0,.slice .nil (.t .ty []),.slice .nil (.t .tm []),.slice .nil (.t .fm [])],.strct [(0,1,false),(1,2,true),(3,1,false),(4,1,false)]⟩),
 (40,⟨1,[.slice .nil (.t .int [])],.slc (some .int) 1 8⟩),
 (41,⟨6,[.int .i64 0,.int .i64 0,.slice .nil (.t .ty []),.slice .nil (.t .tm []),.slice .nil (.t .fm []),.slice .nil (.t .int [])],.strct [(0,5,true),(5,1,false)]⟩),
 (42,⟨6,[.int .i64 0,.int .i64 0,.slice .nil (.t .ty []),.slice .nil (.t .tm []),.slice .nil (.t .fm []),.slice .nil (.t .int [])],.strct [(0,5,true),(5,1,false)]⟩),
 (45,⟨2,[.slice .nil (.t .ty []),.slice .nil (.t .fm [])],.strct [(0,1,false),(1,1,false)]⟩),
 (46,⟨2,[.slice .nil (.t .ty []),.slice .nil (.t .fm [])],.strct [(0,1,false),(1,1,false)]⟩),
 (50,⟨1,[.nilp],.other⟩),
 (53,⟨7,[.slice .nil (.t .ty []),.slice .nil (.t .fm []),.int .i64 0,.int .i64 0,.slice .nil (.t .ty []),.slice .nil (.t .tm []),.slice .nil (.t .fm [])],.strct [(0,2,true),(2,5,true)]⟩),
 (54,⟨7,[.slice .nil (.t .ty []),.slice .nil (.t .fm []),.int .i64 0,.int .i64 0,.slice .nil (.t .ty []),.slice .nil (.t .tm []),.slice .nil (.t .fm [])],.strct [(0,2,true),(2,5,true)]⟩),
 (61,⟨1,[.slice .nil (.t .gl [])],.slc (some .gl) 7 136⟩),
 (62,⟨1,[.slice .nil (.t .st [])],.slc (some .st) 4 64⟩),
 (88,⟨3,[.slice .nil (.t .fm []),.slice .nil (.t .ty []),.slice .nil (.t .fm [])],.strct [(0,1,false),(1,1,false),(2,1,false)]⟩),
 (89,⟨3,[.slice .nil (.t .fm []),.slice .nil (.t .ty []),.slice .nil (.t .fm [])],.strct [(0,1,false),(1,1,false),(2,1,false)]⟩),
 (96,⟨2,[.slice .nil (.t .int []),.int .i64 0],.strct [(0,1,false),(1,1,false)]⟩),
 (97,⟨2,[.slice .nil (.t .int []),.int .i64 0],.strct [(0,1,false),(1,1,false)]⟩),
 (112,⟨4,[.int .i64 0,.int .i64 0,.slice .nil (.t .tm []),.slice .nil (.t .fm [])],.strct [(0,1,false),(1,1,false),(2,1,false),(3,1,false)]⟩),
 (113,⟨4,[.int .i64 0,.int .i64 0,.slice .nil (.t .tm []),.slice .nil (.t .fm [])],.strct [(0,1,false),(1,1,false),(2,1,false),(3,1,false)]⟩),
 (129,⟨2,[.int .i64 0,.int .i64 0],.strct [(0,1,false),(1,1,false)]⟩),
 (130,⟨2,[.int .i64 0,.int .i64 0],.strct [(0,1,false),(1,1,false)]⟩),
 (131,⟨1,[.nilf],.other⟩),
 (132,⟨1,[.nilf],.other⟩),
 (133,⟨1,[.nilf],.other⟩),
 (135,⟨3,[.nilf,.nilf,.nilf],.strct [(0,1,false),(1,1,false),(2,1,false)]⟩),
 (137,⟨1,[.nilf],.other⟩),
 (138,⟨1,[.nilf],.other⟩),
 (139,⟨1,[.nilf],.other⟩),
 (141,⟨3,[.nilf,.nilf,.nilf],.strct [(0,1,false),(1,1,false),(2,1,false)]⟩),
 (151,⟨1,[.nilp],.other⟩),
 (152,⟨1,[.raw (.map none)],.other⟩),
 (153,⟨2,[.int .i64 0,.raw (.map none)],.strct [(0,1,false),(1,1,false)]⟩),
 (154,⟨2,[.int .i64 0,.raw (.map none)],.strct [(0,1,false),(1,1,false)]⟩),
 (170,⟨1,[.nilp],.other⟩),
 (171,⟨3,[.int .i64 0,.raw (.map none),.bool false],.strct [(0,1,false),(1,1,false),(2,1,false)]⟩),
 (172,⟨3,[.int .i64 0,.raw (.map none),.bool false],.strct [(0,1,false),(1,1,false),(2,1,false)]⟩),
 (175,⟨1,[.nilp],.other⟩),
 (176,⟨2,[.int .i64 0,.bool false],.strct [(0,1,false),(1,1,false)]⟩),
 (177,⟨2,[.int .i64 0,.bool false],.strct [(0,1,false),(1,1,false)]⟩),
 (179,⟨8,[.bool false,.bool false,.int .i64 0,.int .i64 0,.int .i64 0,.int .i64 0,.int .i64 0,.int .i64 0],.strct [(0,1,false),(1,1,false),(2,1,false),(3,1,false),(4,1,false),(5,1,false),(6,1,false),(7,1,false)]⟩),
 (180,⟨8,[.bool false,.bool false,.int .i64 0,.int .i64 0,.int .i64 0,.int .i64 0,.int .i64 0,.int .i64 0],.strct [(0,1,false),(1,1,false),(2,1,false),(3,1,false),(4,1,false),(5,1,false),(6,1,false),(7,1,false)]⟩),
 (184,⟨2,[.int .i64 0,.int .i64 0],.strct [(0,1,false),(1,1,false)]⟩),
 (185,⟨2,[.int .i64 0,.int .i64 0],.strct [(0,1,false),(1,1,false)]⟩),
 (187,⟨1,[.slice .nil (.u 2 [])],.slc none 2 16⟩),
 (191,⟨5,[.int .i64 0,.int .i64 0,.int .i64 0,.bool false,.bool false],.strct [(0,1,false),(1,1,false),(2,1,false),(3,1,false),(4,1,false)]⟩),
 (192,⟨5,[.int .i64 0,.int .i64 0,.int .i64 0,.bool false,.bool false],.strct [(0,1,false),(1,1,false),(2,1,false),(3,1,false),(4,1,false)]⟩),
 (207,⟨1,[.nilf],.other⟩),
 (220,⟨1,[.slice .nil (.t .sz [])],.slc (some .sz) 3 40⟩),
 (228,⟨168,[.bool false,.bool false,.int .i64 0,.int .i64 0,.int .i64 0,.int .i64 0,.int .i64 0,.int .i64 0,.bool false,.bool false,.int .i64 0,.int .i64 0,.int .i64 0,.int .i64 0,.int .i64 0,.int .i64 0,.bool false,.bool false,.int .i64 0,.int .i64 0,.int .i64 0,.int .i64 0,.int .i64 0,.int .i64 0,.bool false,.bool false,.int .i64 0,.int .i64 0,.int .i64 0,.int .i64 0,.int .i64 0,.int .i64 0,.bool false,.bool false,.int .i64 0,.int .i64 0,.int .i64 0,.int .i64 0,.int .i64 0,.int .i64 0,.bool false,.bool false,.int .i64 0,.int .i64 0,.int .i64 0,.int .i64 0,.int .i64 0,.int .i64 0,.bool false,.bool false,.int .i64 0,.int .i64 0,.int .i64 0,.int .i64 0,.int .i64 0,.int .i64 0,.bool false,.bool false,.int .i64 0,.int .i64 0,.int .i64 0,.int .i64 0,.int .i64 0,.int .i64 0,.bool false,.bool false,.int .i64 0,.int .i64 0,.int .i64 0,.int .i64 0,.int .i64 0,.int .i64 0,.bool false,.bool false,.int .i64 0,.int .i64 0,.int .i64 0,.int .i64 0,.int .i64 0,.int .i64 0,.bool false,.bool false,.int .i64 0,.int .i64 0,.int .i64 0,.int .i64 0,.int .i64 0,.int .i64 0,.bool false,.bool false,.int .i64 0,.int .i64 0,.int .i64 0,.int .i64 0,.int .i64 0,.int .i64 0,.bool false,.bool false,.int .i64 0,.int .i64 0,.int .i64 0,.int .i64 0,.int .i64 0,.int .i64 0,.bool false,.bool false,.int .i64 0,.int .i64 0,.int .i64 0,.int .i64 0,.int .i64 0,.int .i64 0,.bool false,.bool false,.int .i64 0,.int .i64 0,.int .i64 0,.int .i64 0,.int .i64 0,.int .i64 0,.bool false,.bool false,.int .i64 0,.int .i64 0,.int .i64 0,.int .i64 0,.int .i64 0,.int .i64 0,.bool false,.bool false,.int .i64 0,.int .i64 0,.int .i64 0,.int .i64 0,.int .i64 0,.int .i64 0,.bool false,.bool false,.int .i64 0,.int .i64 0,.int .i64 0,.int .i64 0,.int .i64 0,.int .i64 0,.bool false,.bool false,.int .i64 0,.int .i64 0,.int .i64 0,.int .i64 0,.int .i64 0,.int .i64 0,.bool false,.bool false,.int .i64 0,.int .i64 0,.int .i64 0,.int .i64 0,.int .i64 0,.int .i64 0,.bool false,.bool false,.int .i64 0,.int .i64 0,.int .i64 0,.int .i64 0,.int .i64 0,.int .i64 0],.arr 21 8 true⟩),
 (234,⟨1,[.raw (.map none)],.other⟩),
 (250,⟨3,[.int .i64 0,.slice .nil (.t .ty []),.int .i64 0],.strct [(0,2,true),(2,1,false)]⟩),
 (251,⟨3,[.int .i64 0,.slice .nil (.t .ty []),.int .i64 0],.strct [(0,2,true),(2,1,false)]⟩),
 (255,⟨1,[.nilf],.other⟩),
 (263,⟨1,[.nilp],.other⟩),
 (264,⟨2,[.int .i64 0,.bool false],.strct [(0,1,false),(1,1,false)]⟩),
 (265,⟨2,[.int .i64 0,.bool false],.strct [(0,1,false),(1,1,false)]⟩),
 (269,⟨1,[.nilf],.other⟩),
 (275,⟨14,[.int .i64 0,.int .i64 0,.int .i64 0,.int .i64 0,.int .i64 0,.int .i64 0,.int .i64 0,.int .i64 0,.int .i64 0,.int .i64 0,.int .i64 0,.int .i64 0,.int .i64 0,.int .i64 0],.arr 14 1 false⟩),
 (278,⟨9,[.int .i64 0,.slice .nil (.t .ty []),.int .i64 0,.int .i64 0,.slice .nil (.t .ty []),.int .i64 0,.int .i64 0,.slice .nil (.t .ty []),.int .i64 0],.arr 3 3 true⟩),
 (292,⟨1,[.int .u32 0],.int .u32⟩)]
set_option maxRecDepth 100000
theorem Ylq:Mu.all (fun p=>MT Tryz.prog p.1 p.2)=true:=by kernel_rfl
def O6:List V:=[.bool false,.bool false,.i 0,.i 0,.i 0,.i 0,.i 0,.i 0,.bool true,.bool false,.i 0,.i 0,.i 0,.i 0,.i 0,.i 0,.bool true,.bool false,.i 0,.i 0,.i 0,.i 0,.i 0,.i 0,.bool false,.bool false,.i 0,.i 0,.i 2,.i 0,.i 0,.i 0,.bool false,.bool false,.i 0,.i 0,.i 1,.i 0,.i 0,.i 0,.bool false,.bool false,.i 0,.i 0,.i 1,.i 0,.i 0,.i 0,.bool false,.bool false,.i 0,.i 1,.i 1,.i 0,.i 0,.i 1,.bool false,.bool false,.i 0,.i 0,.i 2,.i 0,.i 0,.i 0,.bool false,.bool true,.i 0,.i 0,.i 1,.i 0,.i 1,.i 0,.bool false,.bool false,.i 1,.i 0,.i 1,.i 0,.i 0,.i 0,.bool false,.bool false,.i 1,.i 1,.i 1,.i 0,.i 0,.i 0,.bool false,.bool false,.i 0,.i 0,.i 2,.i 0,.i 1,.i 1,.bool false,.bool true,.i 0,.i 0,.i 1,.i 0,.i 1,.i 0,.bool false,.bool false,.i 1,.i 0,.i 1,.i 0,.i 0,.i 0,.bool false,.bool false,.i 1,.i 1,.i 1,.i 0,.i 0,.i 0,.bool false,.bool false,.i 0,.i 0,.i 2,.i 0,.i 1,.i 1,.bool false,.bool false,.i 1,.i 1,.i 2,.i 1,.i 1,.i 1,.bool false,.bool false,.i 1,.i 1,.i 2,.i 1,.i 2,.i 1,.bool false,.bool false,.i 1,.i 0,.i 0,.i 0,.i 0,.i 0,.bool false,.bool false,.i 0,.i 1,.i 2,.i 1,.i 0,.i 0,.bool false,.bool false,.i 0,.i 0,.i 1,.i 0,.i 0,.i 0]
def Ie:List V:=[.i 0,.i 0,.i 1,.i 2,.i 0,.i 1,.i 3,.i 0,.i 2,.i 3,.i 2,.i 1,.i 1,.i 0]
noncomputable def E:Env:=⟨Tryz.prog,[(1,Ie),(0,O6)],Mu,Ylq⟩
end Go.Ab
namespace Go.Ab
open Go Go.Proofs
set_option maxRecDepth 100000
set_option linter.all false
theorem mixed:E.P.follows .mixedOrders=true:=Tryz.checked.mixed
theorem w7:∀(b:Nat) (t:Ty),t.size<=b->b<1099511627776->PC E 79 [.agg t.view] (.agg t.view):=by
 intro b;induction b with
 |zero=>intro t h;have:=t.size_pos;omega
 |succ b ih=>
 intro t hsz hb;have hsz':=Ty.size_eq t;have hlen:=zg Ty.size Ty.size_pos t.args;refine M.F Tryz.func79 ?_;(repeat' first|refine M.gw ?_|fail);refine AW.range t.args.length (fun m=>True)
  (fun m=>([(1,.ptr 0 0),(2,.ptr 1 0),(3,.slice (.own 2) (.t .ty (t.args.take m))),(7,.s .ty t.args),(8,.i t.args.length),(9,.i m)],⟨3,[(0,.var t.view),(1,.var [.i 0,.slice .nil (.t .ty [])]),(2,.row)]⟩))
  (by omega) (fun m=>rfl) (fun m=>rfl) rfl trivial (M.W [some 0,some 1,none]) ?_ ?_
 ·intro m hm hP;have hs2:=ze Ty.size (List.getElem_mem hm);(repeat' first|refine M.gw ?_|refine M.c2 (ih _ ?_ ?_) ?_|exact M.le|exact M.lt|fail);exact⟨rfl,trivial,(M.W [some 0,some 1,some 4] (hf:=(by(repeat'(first|exact trivial|refine And.intro ?_ ?_|refine⟨_,U,_,U,?_⟩|exact Aj.refl _|exact Aj.of_eq (by simp[Ao.Ar,List.take_append_getElem])));done)))⟩
 ·intro hP;(repeat' first|refine M.gw ?_|fail);simp[zi,V.wk,V.An,zd,Ty.view,Tm.view]
theorem u7:∀(b:Nat) (t:Ty),t.size<=b->b<1099511627776->PC E 122 [.agg t.view] (.agg t.view):=by
 intro b;induction b with
 |zero=>intro t h;have:=t.size_pos;omega
 |succ b ih=>
 intro t hsz hb;have hsz':=Ty.size_eq t;have hlen:=zg Ty.size Ty.size_pos t.args;refine M.F Tryz.func122 ?_;(repeat' first|refine M.gw ?_|fail);refine AW.range t.args.length (fun m=>True)
  (fun m=>([(1,.ptr 0 0),(2,.ptr 1 0),(3,.ptr 2 0),(10,.s .ty t.args),(11,.i t.args.length),(12,.i m)],⟨4,[(0,.var t.view),(1,.var [.i 0,.slice .nil (.t .ty [])]),(2,.var [.i t.kind,.slice (.own 3) (.t .ty (t.args.take m))]),(3,.row)]⟩))
  (by omega) (fun m=>rfl) (fun m=>rfl) rfl trivial (M.W [some 0,some 1,some 2,none]) ?_ ?_
 ·intro m hm hP;have hs2:=ze Ty.size (List.getElem_mem hm);(repeat' first|refine M.gw ?_|refine M.c2 (ih _ ?_ ?_) ?_|exact M.le|exact M.lt|fail);exact⟨rfl,trivial,(M.W [some 0,some 1,some 2,some 5] (he:=(by(repeat'(first|exact trivial|exact Or.inr ⟨_,U,rfl⟩|refine And.intro ?_ ?_|refine⟨_,U,_,U,_,U,?_⟩|exact Aj.refl _|exact Aj.of_eq (by simp[Ao.Ar,List.take_append_getElem])));done)))⟩
 ·intro hP;(repeat' first|refine M.gw ?_|fail);simp[zi,V.wk,V.An,zd,Ty.view,Tm.view]
theorem Zqp:∀(b:Nat) (t:Ty),t.size<=b->b<1099511627776->PC E 241 [.agg t.view] (NR t):=by
 intro b;induction b with
 |zero=>intro t h;have:=t.size_pos;omega
 |succ b ih=>
 intro t hsz hb;have hsz':=Ty.size_eq t;have hlen:=zg Ty.size Ty.size_pos t.args;have hsh:=Ty.Ai t;refine M.F Tryz.func241 ?_;(repeat' first|refine M.gw ?_|fail);refine AW.L8 (ι:={n:Nat // DA t.kind=some n}) (fun n=>([(1,.ptr 0 0),(4,.i n.1)],⟨1,[(0,.var t.view)]⟩)) ?_ ?_
 ·refine AW.block ?_;(repeat' first|refine M.gw ?_|refine M.cs ?_ ?_<;>intro h|fail)
  ·exact ⟨⟨0,by simp at h;simp[DA,h]⟩,(M.W [some 0])⟩
  ·exact ⟨⟨0,by simp at h;simp[DA,h]⟩,(M.W [some 0])⟩
  ·exact ⟨⟨0,by simp at h;simp[DA,h]⟩,(M.W [some 0])⟩
  ·exact ⟨⟨2,by simp at h;simp[DA,h]⟩,(M.W [some 0])⟩
  ·exact ⟨⟨2,by simp at h;simp[DA,h]⟩,(M.W [some 0])⟩
  ·have:t.shape=false:=by simp at*;simp[hsh,DA, *]
   simp[NR,Ty.nodes,this,zi,zd,V.wk,V.An]
 rintro⟨n,hn⟩;(repeat' first|refine M.gw ?_|refine M.cs ?_ ?_<;>intro h|fail)
 ·have h1:¬t.args.length=n:=by simp at h;omega
  have:t.shape=false:=by simp[hsh,hn,h1]
  simp[NR,Ty.nodes,this,zi,zd,V.wk,V.An]
 have hn':t.args.length=n:=by simp at h;omega
 refine AW.range t.args.length (fun m=>∀j (hj:j<t.args.length),j<m->(t.args[j]).shape=true)
  (fun m=>([(1,.ptr 0 0),(5,.i (1+((t.args.take m).map Ty.size).sum)),(25,.s .ty t.args),(26,.i t.args.length),(27,.i m)],⟨1,[(0,.var t.view)]⟩))
  (by omega) (fun m=>rfl) (fun m=>rfl) rfl (by intro j hj h;omega) (M.W [some 0]) ?_ ?_
 ·intro m hm hP;have hs1:=yv Ty.size t.args m hm;have hs2:=ze Ty.size (List.getElem_mem hm);have hs3:=zw Ty.size t.args (m+1);have hs4:=Ty.D5 t.args[m];(repeat' first|refine M.gw ?_|refine M.c2 (ih _ ?_ ?_) ?_|refine M.cs ?_ ?_<;>intro h|exact M.le|exact M.lt|fail)
  ·have h1:(t.args[m]).shape=false:=by simpa using h
   have:t.shape=false:=by rw[hsh,vx Ty.shape hm h1,Bool.and_false]
   simp[NR,Ty.nodes,this,zi,zd,V.wk,V.An]
  ·have hh:(t.args[m]).shape=true:=by simpa using h
   refine⟨rfl,yb (p:=fun t=>Ty.shape t=true) hm hP hh,?_⟩;have e:(1+((((t.args.take (m+1)).map Ty.size).sum:Nat):Int))=1+(((t.args.take m).map Ty.size).sum:Nat)+t.args[m].nodes:=by simp only[Ty.nodes,hh,hs1];simp;omega
   simp only[e];exact(M.W [some 0])
 ·intro hP;have:t.shape=true:=by simp only[hsh,hn,hn',FL Ty.shape t.args fun j hj=>hP j hj hj];simp
  (repeat' first|refine M.gw ?_|fail);simp[NR,Ty.nodes,this,zi,zd,hsz',V.wk,V.An]
theorem Er(i:Int):PC E 29 [.i i] (.agg (Tm.mk 1 i (.mk 0 []) []).view):=by
 refine M.F Tryz.func29 ?_;(repeat' first|refine M.gw ?_|fail);simp[zi,V.wk,V.An,zd,Ty.view,Tm.view]
theorem SM(i:Int):PC E 235 [.i i] (.agg (Tm.mk 1 i (.mk 0 []) []).view):=by
 refine M.F Tryz.func235 ?_;(repeat' first|refine M.gw ?_|fail);simp[zi,V.wk,V.An,zd,Ty.view,Tm.view]
theorem uq:PC E 33 [] (.agg (Ty.mk 1 []).view):=by
 refine M.F Tryz.func33 ?_;(repeat' first|refine M.gw ?_|fail);simp[zi,V.wk,V.An,zd,Ty.view,Tm.view]
theorem Fp:PC E 107 [] (.agg (Ty.mk 2 []).view):=by
 refine M.F Tryz.func107 ?_;(repeat' first|refine M.gw ?_|fail);simp[zi,V.wk,V.An,zd,Ty.view,Tm.view]
theorem T9:PC E 108 [] (.agg (Ty.mk 5 []).view):=by
 refine M.F Tryz.func108 ?_;(repeat' first|refine M.gw ?_|fail);simp[zi,V.wk,V.An,zd,Ty.view,Tm.view]
theorem Xy(x y:Ty)(hx:x.size<1099511627776)(hy:y.size<1099511627776):PC E 109 [.agg x.view,.agg y.view] (.agg (Ty.mk 3 [x,y]).view):=by
 have h1:=w7 _ x (Nat.le_refl _) hx;have h2:=w7 _ y (Nat.le_refl _) hy;refine M.F Tryz.func109 ?_;(repeat' first|refine M.gw ?_|refine M.c2 (h1) ?_|refine M.c2 (h2) ?_|fail);simp[zi,V.wk,V.An,zd,Ty.view,Tm.view]
theorem JO(x y:Ty)(hx:x.size<1099511627776)(hy:y.size<1099511627776):PC E 110 [.agg x.view,.agg y.view] (.agg (Ty.mk 4 [x,y]).view):=by
 have h1:=w7 _ x (Nat.le_refl _) hx;have h2:=w7 _ y (Nat.le_refl _) hy;refine M.F Tryz.func110 ?_;(repeat' first|refine M.gw ?_|refine M.c2 (h1) ?_|refine M.c2 (h2) ?_|fail);simp[zi,V.wk,V.An,zd,Ty.view,Tm.view]
theorem QI(t:Ty):PC E 201 [.agg t.view] (.bool t.BJ):=by
 refine M.F Tryz.func201 ?_;(repeat' first|refine M.gw ?_|refine M.gs ?_ ?_<;>intro h|fail);all_goals simp_all[zi,V.wk,V.An,zd,Ty.BJ]
 rw[Bool.eq_iff_iff];simp
theorem Yh3(k:Int):PC E 263 [.i k] (.bool (wo k)):=by
 refine M.F Tryz.func263 ?_;(repeat' first|refine M.gw ?_|refine M.gs ?_ ?_<;>intro h|fail);all_goals simp_all[zi,V.wk,V.An,zd,wo]
theorem Wk(n:Int):PC E 192 [.i n] (.bool (decide (0<=n/\n<=4096))):=by
 refine M.F Tryz.func192 ?_;(repeat' first|refine M.gw ?_|refine M.gs ?_ ?_<;>intro h|fail);all_goals simp_all[zi,V.wk,V.An,zd]
 omega
theorem Ng(t:Ty)(ht:t.size<1099511627776):PC E 200 [.agg t.view] (.At [.i t.num,.i t.err]):=by
 have h1:=Zqp _ t (Nat.le_refl _) ht;refine M.F Tryz.func200 ?_;(repeat' first|refine M.gw ?_|refine M.c2 (h1) ?_|refine M.zb ?_|refine M.cs ?_ ?_<;>intro h|fail);all_goals simp_all[zi,V.wk,V.An,zd,Ty.num,Ty.err,Ty.nodes]
 all_goals(first|omega|(split<;>first|omega|simp_all))
theorem Yhm(k:Int):PC E 262 [.i k] (.At [.i ((CZ k).getD 0),.bool (CZ k).isSome]):=by
 refine M.F Tryz.func262 ?_;(repeat' first|refine M.gw ?_|refine M.gs ?_ ?_<;>intro h|refine M.cs ?_ ?_<;>intro h|fail)
 ·have:CZ k=none:=by simp at h;simp only[CZ];(repeat' rw[if_neg (by omega)])
  simp[this,zi,V.wk,V.An,zd]
 ·have:CZ k=none:=by simp at h;simp only[CZ];(repeat' rw[if_neg (by omega)])
  simp[this,zi,V.wk,V.An,zd]
 ·rename_i h0;simp at h h0;have:k=1\/k=2\/k=3\/k=4\/k=5\/k=6\/k=7\/k=8\/k=9\/k=10\/k=11\/k=12\/k=13:=by omega
  rcases this with rfl|rfl|rfl|rfl|rfl|rfl|rfl|rfl|rfl|rfl|rfl|rfl|rfl
  ·refine L.CX 1 rfl rfl rfl rfl rfl ?_ ?_ rfl ?_
   ·decide
   ·decide
   (repeat' first|refine M.gw ?_|fail)
   rfl
  ·refine L.CX 2 rfl rfl rfl rfl rfl ?_ ?_ rfl ?_
   ·decide
   ·decide
   (repeat' first|refine M.gw ?_|fail)
   rfl
  ·refine L.CX 3 rfl rfl rfl rfl rfl ?_ ?_ rfl ?_
   ·decide
   ·decide
   (repeat' first|refine M.gw ?_|fail)
   rfl
  ·refine L.CX 4 rfl rfl rfl rfl rfl ?_ ?_ rfl ?_
   ·decide
   ·decide
   (repeat' first|refine M.gw ?_|fail)
   rfl
  ·refine L.CX 5 rfl rfl rfl rfl rfl ?_ ?_ rfl ?_
   ·decide
   ·decide
   (repeat' first|refine M.gw ?_|fail)
   rfl
  ·refine L.CX 6 rfl rfl rfl rfl rfl ?_ ?_ rfl ?_
   ·decide
   ·decide
   (repeat' first|refine M.gw ?_|fail)
   rfl
  ·refine L.CX 7 rfl rfl rfl rfl rfl ?_ ?_ rfl ?_
   ·decide
   ·decide
   (repeat' first|refine M.gw ?_|fail)
   rfl
  ·refine L.CX 8 rfl rfl rfl rfl rfl ?_ ?_ rfl ?_
   ·decide
   ·decide
   (repeat' first|refine M.gw ?_|fail)
   rfl
  ·refine L.CX 9 rfl rfl rfl rfl rfl ?_ ?_ rfl ?_
   ·decide
   ·decide
   (repeat' first|refine M.gw ?_|fail)
   rfl
  ·refine L.CX 10 rfl rfl rfl rfl rfl ?_ ?_ rfl ?_
   ·decide
   ·decide
   (repeat' first|refine M.gw ?_|fail)
   rfl
  ·refine L.CX 11 rfl rfl rfl rfl rfl ?_ ?_ rfl ?_
   ·decide
   ·decide
   (repeat' first|refine M.gw ?_|fail)
   rfl
  ·refine L.CX 12 rfl rfl rfl rfl rfl ?_ ?_ rfl ?_
   ·decide
   ·decide
   (repeat' first|refine M.gw ?_|fail)
   rfl
  ·refine L.CX 13 rfl rfl rfl rfl rfl ?_ ?_ rfl ?_
   ·decide
   ·decide
   (repeat' first|refine M.gw ?_|fail)
   rfl
end Go.Ab
namespace Go.Ab
open Go Go.Proofs
set_option maxRecDepth 100000
set_option maxHeartbeats 4000000
set_option linter.all false
theorem vf:∀(b:Nat) (t:Tm),t.full<=b->b<1099511627776->PC E 68 [.agg t.view] (.agg t.view):=by
 intro b;induction b with
 |zero=>intro t h;have:=t.Aa;omega
 |succ b ih=>
 intro t hsz hb;have hsz':=Tm.Ag t;have hlen:=zg Tm.full Tm.Aa t.args;have hty:=w7 _ t.ty (Nat.le_refl _) (by omega);refine M.F Tryz.func68 ?_;(repeat' first|refine M.gw ?_|fail);refine AW.range t.args.length (fun m=>True)
  (fun m=>([(1,.ptr 0 0),(2,.ptr 1 0),(3,.slice (.own 2) (.t .tm (t.args.take m))),(7,.s .tm t.args),(8,.i t.args.length),(9,.i m)],⟨3,[(0,.var t.view),(1,.var [.i 0,.i 0,.i 0,.slice .nil (.t .ty []),.slice .nil (.t .tm [])]),(2,.row)]⟩))
  (by omega) (fun m=>rfl) (fun m=>rfl) rfl trivial (M.W [some 0,some 1,none]) ?_ ?_
 ·intro m hm hP;have hs2:=ze Tm.full (List.getElem_mem hm);(repeat' first|refine M.gw ?_|refine M.c2 (ih _ ?_ ?_) ?_|exact M.le|exact M.lt|fail);exact⟨rfl,trivial,(M.W [some 0,some 1,some 4] (hf:=(by(repeat'(first|exact trivial|refine And.intro ?_ ?_|refine⟨_,U,_,U,?_⟩|exact Aj.refl _|exact Aj.of_eq (by simp[Ao.Ar,List.take_append_getElem])));done)))⟩
 ·intro hP;(repeat' first|refine M.gw ?_|refine M.c2 (hty) ?_|fail);simp[zi,V.wk,V.An,zd,Ty.view,Tm.view]
theorem CW(k:Int)(l:List Tm)(hl:(l.map Tm.full).sum<1099511627776):PC E 34 [.i k,.s .tm l] (.agg (Tm.mk k 0 (.mk 0 []) l).view):=by
 have hlen:=zg Tm.full Tm.Aa l;refine M.F Tryz.func34 ?_;(repeat' first|refine M.gw ?_|fail);refine AW.range l.length (fun m=>True)
  (fun m=>([(0,.i k),(4,.ptr 0 0),(5,.slice (.own 1) (.t .tm (l.take m))),(8,.s .tm l),(9,.i l.length),(10,.i m)],⟨2,[(0,.var [.i 0,.i 0,.i 0,.slice .nil (.t .ty []),.slice .nil (.t .tm [])]),(1,.row)]⟩))
  (by omega) (fun m=>rfl) (fun m=>rfl) rfl trivial (M.W [some 0,none]) ?_ ?_
 ·intro m hm hP;have hs2:=ze Tm.full (List.getElem_mem hm);(repeat' first|refine M.gw ?_|refine M.c2 (vf _ _ (Nat.le_refl _) ?_) ?_|exact M.lt|fail);exact⟨rfl,trivial,(M.W [some 0,some 3] (hf:=(by(repeat'(first|exact trivial|refine And.intro ?_ ?_|refine⟨_,U,_,U,?_⟩|exact Aj.refl _|exact Aj.of_eq (by simp[Ao.Ar,List.take_append_getElem])));done)))⟩
 ·intro hP;(repeat' first|refine M.gw ?_|fail);simp[zi,V.wk,V.An,zd,Ty.view,Tm.view]
theorem Gn(k:Int)(s:Ty)(l:List Tm)(hl:(l.map Tm.full).sum<1099511627776)(hs:s.size<1099511627776):PC E 32 [.i k,.agg s.view,.s .tm l] (.agg (Tm.mk k 0 s l).view):=by
 have h1:=CW k l hl;have h2:=w7 _ s (Nat.le_refl _) hs;refine M.F Tryz.func32 ?_;(repeat' first|refine M.gw ?_|refine M.c2 (h1) ?_|refine M.c2 (h2) ?_|fail);simp[zi,V.wk,V.An,zd,Ty.view,Tm.view]
theorem Ty.EK(t:Ty):t.ok=(t.err==0):=by
 simp only[Ty.ok,Ty.err];cases t.shape
 ·simp
 ·by_cases h:t.size<=64
  ·have:¬t.size>64:=by omega
   simp[h,this]
  ·have:t.size>64:=by omega
   simp[h,this]
theorem Tm.Gc(t:Tm):t.head=(!(!(CZ t.kind).isSome)&& !((t.args.length:Int) !=(((CZ t.kind).getD 0:Nat):Int))&& !decide (t.index<0)&&(!(t.index !=0)|| !(t.kind !=1))&&(bif wo t.kind then !(t.ty.err !=0) else !(!t.ty.BJ))):=by
 simp only[Tm.head,Ty.EK];cases hk:CZ t.kind with
 |none=>simp
 |some n=>
  have h1:(t.args.length==n)= !((t.args.length:Int) !=((n:Nat):Int)):=by rw[Bool.eq_iff_iff];simp;omega
  have h2:decide (0<=t.index)= !decide (t.index<0):=by rw[Bool.eq_iff_iff];simp
  simp[h1,h2,bne]
theorem VF:∀(b:Nat) (t:Tm),t.full<=b->b<1099511627776->PC E 242 [.agg t.view] (J7 t):=by
 intro b;induction b with
 |zero=>intro t h;have:=t.Aa;omega
 |succ b ih=>
 intro t hsz hb;have hsz':=Tm.Ag t;have hszz:=Tm.size_eq t;have hle:=Tm.Ak t;have hlen:=zg Tm.full Tm.Aa t.args;have hsh:=Tm.Ai t;have h1:=Yhm t.kind;have h2:=Yh3 t.kind;have h3:=QI t.ty;have h4:=Ng t.ty (by omega);have bad:t.shape=false->(V.At [.i 0,.bool false])=J7 t:=fun h=>by simp[J7,Tm.nodes,h]
 refine M.F Tryz.func242 ?_;(repeat' first|refine M.gw ?_|refine M.c2 (h1) ?_|refine M.c2 (h2) ?_|refine M.c2 (h3) ?_|refine M.c2 (h4) ?_|refine M.gs ?_ ?_<;>intro h|refine M.cs ?_ ?_<;>intro h|fail);all_goals first
  |(have hd:t.head=false:=by rw[t.Gc];simp_all
    have:t.shape=false:=by rw[hsh,hd,Bool.false_and]
    simp[Tm.nodes,this,zi,zd,V.wk,V.An];done)
  |(have hd:t.head=true:=by rw[t.Gc];simp_all
    refine AW.range t.args.length (fun m=>∀j (hj:j<t.args.length),j<m->(t.args[j]).shape=true)
     (fun m=>([(1,.ptr 0 0),(8,.i (1+((t.args.take m).map Tm.size).sum)),(59,.s .tm t.args),(60,.i t.args.length),(61,.i m)],⟨1,[(0,.var t.view)]⟩))
     (by omega) (fun m=>rfl) (fun m=>rfl) rfl (by intro j hj h;omega) (M.W [some 0]) ?_ ?_
    ·intro m hm hP;have hs1:=yv Tm.size t.args m hm;have hs2:=ze Tm.full (List.getElem_mem hm);have hs3:=zw Tm.size t.args (m+1);have hs4:=Tm.D5 t.args[m];have hs5:=Tm.Ak t.args[m];(repeat' first|refine M.gw ?_|refine M.c2 (ih _ ?_ ?_) ?_|refine M.cs ?_ ?_<;>intro h|exact M.le|exact M.lt|fail)
     ·have h1:(t.args[m]).shape=false:=by simpa using h
      have:t.shape=false:=by rw[hsh,vx Tm.shape hm h1,Bool.and_false]
      simp[Tm.nodes,this,zi,zd,V.wk,V.An]
     ·have hh:(t.args[m]).shape=true:=by simpa using h
      refine⟨rfl,yb (p:=fun t=>Tm.shape t=true) hm hP hh,?_⟩;have e:(1+((((t.args.take (m+1)).map Tm.size).sum:Nat):Int))=1+(((t.args.take m).map Tm.size).sum:Nat)+t.args[m].nodes:=by simp only[Tm.nodes,hh,hs1];simp;omega
      simp only[e];exact(M.W [some 0])
    ·intro hP;have:t.shape=true:=by simp only[hsh,hd,FL Tm.shape t.args fun j hj=>hP j hj hj];simp
     (repeat' first|refine M.gw ?_|fail);simp[Tm.nodes,this,zi,zd,hszz,V.wk,V.An])
theorem L7(t:Tm)(ht:t.full<1099511627776):PC E 203 [.agg t.view] (.At [.i t.num,.i t.err]):=by
 have h1:=VF _ t (Nat.le_refl _) ht;refine M.F Tryz.func203 ?_;(repeat' first|refine M.gw ?_|refine M.c2 (h1) ?_|refine M.zb ?_|refine M.cs ?_ ?_<;>intro h|fail);all_goals simp_all[zi,V.wk,V.An,zd,Tm.num,Tm.err,Tm.nodes]
 all_goals(first|omega|(split<;>first|omega|simp_all))
theorem UQ(t:Tm)(ht:t.full<1099511627776):PC E 196 [.agg t.view] (.At [.i t.num,.i t.err]):=by
 have h1:=L7 t ht;refine M.F Tryz.func196 ?_;(repeat' first|refine M.gw ?_|refine M.c2 (h1) ?_|fail);simp[zi,V.wk,V.An,zd,Ty.view,Tm.view]
theorem Yjb(t:Tm)(ht:t.full<1099511627776):PC E 191 [.agg t.view] (.i t.err):=by
 have h1:=L7 t ht;refine M.F Tryz.func191 ?_;(repeat' first|refine M.gw ?_|refine M.c2 (h1) ?_|fail);simp[zi,V.wk,V.An,zd,Ty.view,Tm.view]
end Go.Ab
namespace Go.Ab
open Go Go.Proofs
set_option maxRecDepth 100000
set_option linter.all false
theorem xo:∀(n:Nat) (x y:Ty),x.size<=n->n<1099511627776->PC E 72 [.agg x.view,.agg y.view] (.bool (decide (x=y))):=by
 intro n;induction n with
 |zero=>intro x y h;have:=x.size_pos;omega
 |succ n ih=>
 intro x y hsz hb;have hsz':=Ty.size_eq x;have hlen:=zg Ty.size Ty.size_pos x.args;have heq:=Ty.eq_iff x y;refine M.F Tryz.func72 ?_;(repeat' first|refine M.gw ?_|refine M.gs ?_ ?_<;>intro h|refine M.cs ?_ ?_<;>intro h|fail)
 ·have:¬x=y:=by rw[heq];simp_all
  simp[this,zi,zd,V.wk,V.An]
 ·have:¬x=y:=by rintro rfl;simp at h
  simp[this,zi,zd,V.wk,V.An]
 ·rename_i hk;simp at h hk;have hl:x.args.length=y.args.length:=by omega
  refine AW.range x.args.length (fun m=>∀j (hj:j<x.args.length),j<m->x.args[j]=y.args[j]'(by omega))
   (fun m=>([(2,.ptr 0 0),(3,.ptr 1 0),(22,.i x.args.length),(23,.i m)],⟨2,[(0,.var x.view),(1,.var y.view)]⟩))
   (by omega) (fun m=>rfl) (fun m=>rfl) rfl (by intro j hj h;omega) (M.W [some 0,some 1]) ?_ ?_
  ·intro m hm hP;have hm':m<y.args.length:=by omega
   have hs2:=ze Ty.size (List.getElem_mem hm);(repeat' first|refine M.gw ?_|refine M.c2 (ih _ _ ?_ ?_) ?_|refine M.cs ?_ ?_<;>intro h|exact M.le|exact M.lt|fail)
   ·have:¬x=y:=by rw[heq];exact fun hc=>I7 hm hm' (by simpa using h) hc.2
    simp[this,zi,zd,V.wk,V.An]
   ·exact ⟨rfl,Jm hl hm hP (by simpa using h),(M.W [some 0,some 1])⟩
  ·intro hP;have:x=y:=heq.2 ⟨hk,I5 hl hP⟩;(repeat' first|refine M.gw ?_|fail);simp[this,zi,zd,V.wk,V.An]
theorem Mj:∀(n:Nat) (x y:Tm),x.full<=n->n<1099511627776->PC E 50 [.agg x.view,.agg y.view] (.bool (decide (x=y))):=by
 intro n;induction n with
 |zero=>intro x y h;have:=x.Aa;omega
 |succ n ih=>
 intro x y hsz hb;have hsz':=Tm.Ag x;have hlen:=zg Tm.full Tm.Aa x.args;have heq:=Tm.eq_iff x y;have hty:=xo _ x.ty y.ty (Nat.le_refl _) (by omega);refine M.F Tryz.func50 ?_;(repeat' first|refine M.gw ?_|refine M.c2 (hty) ?_|refine M.gs ?_ ?_<;>intro h|refine M.cs ?_ ?_<;>intro h|fail)
 ·have:¬x=y:=by rw[heq];simp_all
  simp[this,zi,zd,V.wk,V.An]
 ·have:¬x=y:=by rw[heq];simp_all
  simp[this,zi,zd,V.wk,V.An]
 ·have:¬x=y:=by rw[heq];simp_all
  simp[this,zi,zd,V.wk,V.An]
 ·have:¬x=y:=by rintro rfl;simp at h
  simp[this,zi,zd,V.wk,V.An]
 ·rename_i h1 h2 h3;simp at h h1 h2 h3;have hl:x.args.length=y.args.length:=by omega
  refine AW.range x.args.length (fun m=>∀j (hj:j<x.args.length),j<m->x.args[j]=y.args[j]'(by omega))
   (fun m=>([(2,.ptr 0 0),(3,.ptr 1 0),(37,.i x.args.length),(38,.i m)],⟨2,[(0,.var x.view),(1,.var y.view)]⟩))
   (by omega) (fun m=>rfl) (fun m=>rfl) rfl (by intro j hj h;omega) (M.W [some 0,some 1]) ?_ ?_
  ·intro m hm hP;have hm':m<y.args.length:=by omega
   have hs2:=ze Tm.full (List.getElem_mem hm);(repeat' first|refine M.gw ?_|refine M.c2 (ih _ _ ?_ ?_) ?_|refine M.cs ?_ ?_<;>intro h|exact M.le|exact M.lt|fail)
   ·have:¬x=y:=by rw[heq];exact fun hc=>I7 hm hm' (by simpa using h) hc.2.2.2
    simp[this,zi,zd,V.wk,V.An]
   ·exact ⟨rfl,Jm hl hm hP (by simpa using h),(M.W [some 0,some 1])⟩
  ·intro hP;have:x=y:=heq.2 ⟨h1,h2,h3,I5 hl hP⟩;(repeat' first|refine M.gw ?_|fail);simp[this,zi,zd,V.wk,V.An]
def E7(b:Bool)(l:List (Int×Int)):Bool:=b&&l.all fun p=>decide (p.1<=536870912)
theorem Zoa(b:Bool)(l l':List (Int×Int)):E7 (E7 b l) l'=E7 b (l++l'):=by simp[E7,Bool.and_assoc]
theorem Uk(b:Bool):E7 b []=b:=by simp[E7]
theorem Ylt(b:Bool)(i bl:Int):AC E 204 [.i i,.i bl,.ptr 0 0] ⟨1,[(0,.var [.bool b])]⟩ (.At []) ⟨1,[(0,.var [.bool (E7 b [(i,bl)])])]⟩:=by
 refine M.F Tryz.func204 ?_;(repeat' first|refine M.gw ?_|refine M.gs ?_ ?_<;>intro h|fail)
 ·(exact M.n2 [some 0] (h6:=(by(repeat'(first|exact trivial|refine And.intro ?_ ?_|refine⟨_,U,_,U,_,U,?_⟩|exact Aj.of_eq (by simp[Ao.Ar,E7,h])));done)) (h8:=(by simp[zi,V.wk,V.An,zd,Ty.view,Tm.view,E7,h])))
 ·(exact M.n2 [some 0] (h6:=(by(repeat'(first|exact trivial|refine And.intro ?_ ?_|refine⟨_,U,_,U,_,U,?_⟩|exact Aj.of_eq (by simp[Ao.Ar,E7,h])));done)) (h8:=(by simp[zi,V.wk,V.An,zd,Ty.view,Tm.view,E7,h])))
theorem Zyf:∀(n:Nat) (t:Tm) (b:Bool) (bl:Int),t.full<=n->n<1099511627776->0<=bl->bl+n<1099511627776->AC E 226 [.agg t.view,.i bl,.ptr 0 0,.ptr 1 0] ⟨3,[(0,.var [.fn (.func 204) [] [.ptr 2 0]]),(1,.var [.fn (.func 226) [] [.ptr 0 0,.ptr 1 0]]),(2,.var [.bool b])]⟩ (.At [])
 ⟨3,[(0,.var [.fn (.func 204) [] [.ptr 2 0]]),(1,.var [.fn (.func 226) [] [.ptr 0 0,.ptr 1 0]]),(2,.var [.bool (E7 b (t.vars bl))])]⟩:=by
 intro n;induction n with
 |zero=>intro t b bl h;have:=t.Aa;omega
 |succ n ih=>
 intro t b bl hsz hb hbl hbn;have hsz':=Tm.Ag t;have hlen:=zg Tm.full Tm.Aa t.args;have hv:=Tm.AM bl t;refine M.F Tryz.func226 ?_;(repeat' first|refine M.gw ?_|refine M.cv (Ylt _ _ _) [2] 0 ?_|refine M.cs ?_ ?_<;>intro h|fail);all_goals
  have hup:up t.kind bl<=bl+1:=by simp only[up];split<;>omega
  have hup0:0<=up t.kind bl:=by simp only[up];split<;>omega
  refine AW.range t.args.length (fun m=>True)
   (fun m=>([(1,.i (up t.kind bl)),(3,.ptr 1 0),(22,.s .tm t.args),(23,.i t.args.length),(24,.i m)],⟨4,[(0,.var [.fn (.func 204) [] [.ptr 2 0]]),(1,.var [.fn (.func 226) [] [.ptr 0 0,.ptr 1 0]]),(2,.var [.bool (E7 b ((if t.kind=1 then [(t.index,bl)] else [])++(t.args.take m).flatMap (Tm.vars (up t.kind bl))))]),(3,.var t.view)]⟩))
   (by omega) (fun m=>rfl) (fun m=>rfl) rfl trivial ?_ ?_ ?_
  ·simp_all only[beq_iff_eq,beq_eq_false_iff_ne,ne_eq];exact(M.W [some 0,some 1,some 2,some 3] (hf:=(by(repeat'(first|exact trivial|refine And.intro ?_ ?_|refine⟨_,U,_,U,?_⟩|exact Aj.refl _|exact Aj.of_eq (by simp[Ao.Ar,up, *,Uk])));done)) (he:=(by(repeat'(first|exact trivial|refine And.intro ?_ ?_|refine⟨_,U,_,U,_,U,?_⟩|exact Aj.refl _|exact Aj.of_eq (by simp[Ao.Ar,up, *,Uk])));done)))
  ·intro m hm hP;have hs2:=ze Tm.full (List.getElem_mem hm);have hc:=ih t.args[m] (E7 b ((if t.kind=1 then [(t.index,bl)] else [])++(t.args.take m).flatMap (Tm.vars (up t.kind bl)))) (up t.kind bl) (by omega) (by omega) hup0 (by omega);(repeat' first|refine M.gw ?_|refine M.cv (hc) [0,1,2] 0 ?_|fail);refine⟨rfl,trivial,?_⟩;exact(M.W [some 0,some 1,some 2,some 3] (he:=(by(repeat'(first|exact trivial|refine And.intro ?_ ?_|refine⟨_,U,_,U,_,U,?_⟩|exact Aj.refl _|exact Aj.of_eq (by simp[Ao.Ar,Zoa,Jn _ _ _ hm])));done)))
  ·intro hP;skip
   (exact M.n2 [some 0,some 1,some 2] (h6:=(by(repeat'(first|exact trivial|refine And.intro ?_ ?_|refine⟨_,U,_,U,_,U,?_⟩|exact Aj.refl _|exact Aj.of_eq (by simp[Ao.Ar,hv])));done)) (h8:=(by simp[zi,V.wk,V.An,zd,Ty.view,Tm.view,hv])))
theorem Yct(t:Tm)(b:Bool)(ht:t.full<1099511627776):AC E 165 [.agg t.view,.fn (.func 204) [] [.ptr 0 0]] ⟨1,[(0,.var [.bool b])]⟩ (.At []) ⟨1,[(0,.var [.bool (E7 b (t.vars 0))])]⟩:=by
 have hc:=Zyf _ t b 0 (Nat.le_refl _) (by omega) (by omega) (by omega);refine M.F Tryz.func165 ?_;(repeat' first|refine M.gw ?_|refine M.cv (hc) [2,3,0] 0 ?_|fail)
 (exact M.n2 [some 0] (h8:=(by simp[zi,V.wk,V.An,zd,Ty.view,Tm.view,E7])))
theorem L9(t:Tm)(ht:t.full<1099511627776):PC E 131 [.agg t.view] (.bool t.near):=by
 have hc:=Yct t true ht;refine M.F Tryz.func131 ?_;(repeat' first|refine M.gw ?_|refine M.cb (hc) [1] 0 ?_|fail);simp[zi,V.wk,V.An,E7,Tm.near]
theorem Yja(at_ c i bl:Int)(hc:0<=c/\c<1099511627776)(hi:0<=i/\i<9223372036854775808)(hb:0<=bl/\bl<1099511627776):AC E 260 [.i i,.i bl,.ptr 0 0,.ptr 1 0] ⟨2,[(0,.var [.i at_]),(1,.var [.i c])]⟩ (.At []) ⟨2,[(0,.var [.i at_]),(1,.var [.i (c+cnt at_ [(i,bl)])])]⟩:=by
 refine M.F Tryz.func260 ?_;(repeat' first|refine M.gw ?_|refine M.cs ?_ ?_<;>intro h|fail)
 ·have:i-bl=at_:=by simpa using h
  (exact M.n2 [some 0,some 1] (h6:=(by(repeat'(first|exact trivial|refine And.intro ?_ ?_|refine⟨_,U,_,U,_,U,?_⟩|exact Aj.refl _|exact Aj.of_eq (by simp[Ao.Ar,uz,this])));done)) (h8:=(by simp[zi,V.wk,V.An,zd,Ty.view,Tm.view,uz,this])))
 ·have:¬i-bl=at_:=by simpa using h
  (exact M.n2 [some 0,some 1] (h6:=(by(repeat'(first|exact trivial|refine And.intro ?_ ?_|refine⟨_,U,_,U,_,U,?_⟩|exact Aj.refl _|exact Aj.of_eq (by simp[Ao.Ar,uz,this])));done)) (h8:=(by simp[zi,V.wk,V.An,zd,Ty.view,Tm.view,uz,this])))
theorem Zu3(at_:Int):∀(n:Nat) (t:Tm) (c:Int) (bl:Int),t.full<=n->n<1099511627776->0<=bl->bl+n<1099511627776->0<=c->c+t.full<1099511627776->(∀p∈t.vars bl,0<=p.1/\p.1<9223372036854775808)->AC E 226 [.agg t.view,.i bl,.ptr 0 0,.ptr 1 0] ⟨4,[(0,.var [.fn (.func 260) [] [.ptr 2 0,.ptr 3 0]]),(1,.var [.fn (.func 226) [] [.ptr 0 0,.ptr 1 0]]),(2,.var [.i at_]),(3,.var [.i c])]⟩ (.At [])
 ⟨4,[(0,.var [.fn (.func 260) [] [.ptr 2 0,.ptr 3 0]]),(1,.var [.fn (.func 226) [] [.ptr 0 0,.ptr 1 0]]),(2,.var [.i at_]),(3,.var [.i (c+cnt at_ (t.vars bl))])]⟩:=by
 intro n;induction n with
 |zero=>intro t b bl h;have:=t.Aa;omega
 |succ n ih=>
 intro t c bl hsz hb hbl hbn hc0 hcn hix;have hsz':=Tm.Ag t;have hlen:=zg Tm.full Tm.Aa t.args;have hv:=Tm.AM bl t;have hi:t.kind=1->0<=t.index/\t.index<9223372036854775808:=fun h=>by simpa using hix (t.index,bl) (by rw[hv];simp[h])
 have hcb:t.kind=1->_:=fun h=>Yja at_ c t.index bl (by omega) (hi h) (by omega);refine M.F Tryz.func226 ?_;(repeat' first|refine M.gw ?_|refine M.cv (hcb (by simpa using h)) [2,3] 0 ?_|refine M.cs ?_ ?_<;>intro h|fail);all_goals
  have hup:up t.kind bl<=bl+1:=by simp only[up];split<;>omega
  have hup0:0<=up t.kind bl:=by simp only[up];split<;>omega
  refine AW.range t.args.length (fun m=>True)
   (fun m=>([(1,.i (up t.kind bl)),(3,.ptr 1 0),(22,.s .tm t.args),(23,.i t.args.length),(24,.i m)],⟨5,[(0,.var [.fn (.func 260) [] [.ptr 2 0,.ptr 3 0]]),(1,.var [.fn (.func 226) [] [.ptr 0 0,.ptr 1 0]]),(2,.var [.i at_]),(3,.var [.i (c+cnt at_ ((if t.kind=1 then [(t.index,bl)] else [])++(t.args.take m).flatMap (Tm.vars (up t.kind bl))))]),(4,.var t.view)]⟩))
   (by omega) (fun m=>rfl) (fun m=>rfl) rfl trivial ?_ ?_ ?_
  ·simp_all only[beq_iff_eq,beq_eq_false_iff_ne,ne_eq];exact(M.W [some 0,some 1,some 2,some 3,some 4] (hf:=(by(repeat'(first|exact trivial|refine And.intro ?_ ?_|refine⟨_,U,_,U,?_⟩|exact Aj.refl _|exact Aj.of_eq (by simp[Ao.Ar,up, *,x6,cnt])));done)) (he:=(by(repeat'(first|exact trivial|refine And.intro ?_ ?_|refine⟨_,U,_,U,_,U,?_⟩|exact Aj.refl _|exact Aj.of_eq (by simp[Ao.Ar,up, *,x6,cnt])));done)))
  ·intro m hm hP;have hs2:=ze Tm.full (List.getElem_mem hm);have hs3:cnt at_ ((if t.kind=1 then [(t.index,bl)] else [])++(t.args.take m).flatMap (Tm.vars (up t.kind bl)))+t.args[m].full<=1+(t.args.map Tm.full).sum:=by
    have h1:=P9 at_ ((if t.kind=1 then [(t.index,bl)] else [])++(t.args.take m).flatMap (Tm.vars (up t.kind bl)));have h2:=YW (t.args.take m) (Tm.vars (up t.kind bl)) fun x _=>x.CQ _;have h3:((t.args.take m).map Tm.size).sum<=((t.args.take m).map Tm.full).sum:=xi _ (fun x _=>x.Ak);have h4:=yv Tm.full t.args m hm;have h5:=zw Tm.full t.args (m+1);have h6:(if t.kind=1 then [(t.index,bl)] else []).length<=1:=by split<;>simp
    simp only[List.length_append] at h1;omega
   have hix':∀p∈(t.args[m]).vars (up t.kind bl),0<=p.1/\p.1<9223372036854775808:=fun p hp=>hix p (by rw[hv];exact List.mem_append_right _ (List.mem_flatMap.2 ⟨_,List.getElem_mem hm,hp⟩));have hc:=ih t.args[m] (c+cnt at_ ((if t.kind=1 then [(t.index,bl)] else [])++(t.args.take m).flatMap (Tm.vars (up t.kind bl)))) (up t.kind bl) (by omega) (by omega) hup0 (by omega) (by omega) (by omega) hix';(repeat' first|refine M.gw ?_|refine M.cv (hc) [0,1,2,3] 0 ?_|fail);refine⟨rfl,trivial,?_⟩;exact(M.W [some 0,some 1,some 2,some 3,some 4] (he:=(by(repeat'(first|exact trivial|refine And.intro ?_ ?_|refine⟨_,U,_,U,_,U,?_⟩|exact Aj.refl _|exact Aj.of_eq (by simp[Ao.Ar,x6,Jn _ _ _ hm,Int.add_assoc])));done)))
  ·intro hP;skip
   (exact M.n2 [some 0,some 1,some 2,some 3] (h6:=(by(repeat'(first|exact trivial|refine And.intro ?_ ?_|refine⟨_,U,_,U,_,U,?_⟩|exact Aj.refl _|exact Aj.of_eq (by simp[Ao.Ar,hv])));done)) (h8:=(by simp[zi,V.wk,V.An,zd,Ty.view,Tm.view,hv])))
theorem Ybl(t:Tm)(at_:Int)(ht:t.full<549755813888)(hix:∀p∈t.vars 0,0<=p.1/\p.1<9223372036854775808):AC E 165 [.agg t.view,.fn (.func 260) [] [.ptr 0 0,.ptr 1 0]] ⟨2,[(0,.var [.i at_]),(1,.var [.i 0])]⟩ (.At []) ⟨2,[(0,.var [.i at_]),(1,.var [.i (cnt at_ (t.vars 0))])]⟩:=by
 have hc:=Zu3 at_ _ t 0 0 (Nat.le_refl _) (by omega) (by omega) (by omega) (by omega) (by omega) hix;refine M.F Tryz.func165 ?_;(repeat' first|refine M.gw ?_|refine M.cv (hc) [3,4,0,1] 0 ?_|fail)
 (exact M.n2 [some 0,some 1] (h6:=(by(repeat'(first|exact trivial|refine And.intro ?_ ?_|refine⟨_,U,_,U,_,U,?_⟩|exact Aj.refl _|exact Aj.of_eq (by simp[Ao.Ar,cnt])));done)) (h8:=(by simp[zi,V.wk,V.An,zd,Ty.view,Tm.view,cnt])))
theorem Yjp(t:Tm)(at_:Int)(ht:t.full<549755813888)(hix:∀p∈t.vars 0,0<=p.1/\p.1<9223372036854775808):PC E 237 [.agg t.view,.i at_] (.i (cnt at_ (t.vars 0))):=by
 have hc:=Ybl t at_ ht hix;refine M.F Tryz.func237 ?_;(repeat' first|refine M.gw ?_|refine M.cb (hc) [1,2] 0 ?_|fail);simp[zi,V.wk,V.An]
theorem Qt(t:Tm)(at_:Int)(ht:t.full<549755813888)(hix:∀p∈t.vars 0,0<=p.1/\p.1<1099511627776):PC E 237 [.agg t.view,.i at_] (.i (cnt at_ (t.vars 0))):=
 Yjp t at_ ht fun p hp=>by have:=hix p hp;omega
theorem Ykz(fr by_ i bl:Int)(hi:0<=i/\i<549755813888)(hb:0<=bl/\bl<1099511627776)(hy: -1099511627776<=by_/\by_<1099511627776):AC E 234 [.i i,.i bl,.ptr 0 0,.ptr 1 0] ⟨2,[(0,.var [.i fr]),(1,.var [.i by_])]⟩ (.agg (zo fr by_ i bl).view) ⟨2,[(0,.var [.i fr]),(1,.var [.i by_])]⟩:=by
 have hv:=SM;refine M.F Tryz.func234 ?_;(repeat' first|refine M.gw ?_|refine M.c2 (hv _) ?_|refine M.cs ?_ ?_<;>intro h|fail)
 ·have h':fr<=i-bl:=by simpa using h
  (exact M.n2 [some 0,some 1] (h8:=(by simp[zi,V.wk,V.An,zd,Ty.view,Tm.view,zo,h'])))
 ·have h':¬fr<=i-bl:=by simpa using h
  (exact M.n2 [some 0,some 1] (h8:=(by simp[zi,V.wk,V.An,zd,Ty.view,Tm.view,zo,h'])))
theorem Yh4(fr by_:Int)(hy: -1099511627776<=by_/\by_<1099511627776):∀(n:Nat) (t:Tm) (bl:Int),t.full<=n->n<549755813888->0<=bl->bl+n<549755813888->(∀p∈t.vars bl,0<=p.1/\p.1<549755813888)->AC E 259 [.agg t.view,.i bl,.ptr 0 0,.ptr 1 0] ⟨4,[(0,.var [.fn (.func 234) [] [.ptr 2 0,.ptr 3 0]]),(1,.var [.fn (.func 259) [] [.ptr 0 0,.ptr 1 0]]),(2,.var [.i fr]),(3,.var [.i by_])]⟩ (.agg (t.re (zo fr by_) bl).view) ⟨4,[(0,.var [.fn (.func 234) [] [.ptr 2 0,.ptr 3 0]]),(1,.var [.fn (.func 259) [] [.ptr 0 0,.ptr 1 0]]),(2,.var [.i fr]),(3,.var [.i by_])]⟩:=by
 intro n;induction n with
 |zero=>intro t bl h;have:=t.Aa;omega
 |succ n ih=>
 intro t bl hsz hb hbl hbn hix;have hsz':=Tm.Ag t;have hlen:=zg Tm.full Tm.Aa t.args;have hv:=Tm.AM bl t;have hre:=Tm.Bz (zo fr by_) bl t;have hi:t.kind=1->0<=t.index/\t.index<549755813888:=fun h=>by simpa using hix (t.index,bl) (by rw[hv];simp[h])
 have hcb:t.kind=1->_:=fun h=>Ykz fr by_ t.index bl (hi h) (by omega) hy;have hown:=u7 _ t.ty (Nat.le_refl _) (by omega);refine M.F Tryz.func259 ?_;(repeat' first|refine M.gw ?_|refine M.cv (hcb (by simpa using h)) [2,3] 0 ?_|refine M.c2 (hown) ?_|refine M.cs ?_ ?_<;>intro h|fail)
 ·have hk:t.kind=1:=by simpa using h
  (exact M.n2 [some 0,some 1,some 2,some 3] (h8:=(by simp[zi,V.wk,V.An,zd,Ty.view,Tm.view,hre,hk])))
 all_goals
  rename_i hk1;have hup:up t.kind bl<=bl+1:=by simp only[up];split<;>omega
  have hup0:0<=up t.kind bl:=by simp only[up];split<;>omega
  have hk1':¬t.kind=1:=by simpa using hk1
  refine AW.range t.args.length (fun m=>True)
   (fun m=>([(1,.i (up t.kind bl)),(3,.ptr 1 0),(6,.ptr 5 0),(7,.ptr 6 0),(32,.s .tm t.args),(33,.i t.args.length),(34,.i m)],⟨8,[(0,.var [.fn (.func 234) [] [.ptr 2 0,.ptr 3 0]]),(1,.var [.fn (.func 259) [] [.ptr 0 0,.ptr 1 0]]),(2,.var [.i fr]),(3,.var [.i by_]),(4,.var t.view),(5,.var [.i 0,.i 0,.i 0,.slice .nil (.t .ty []),.slice .nil (.t .tm [])]),(6,.var [.i t.kind,.i t.index,.i t.ty.kind,.s .ty t.ty.args,.slice (.own 7) (.t .tm ((t.args.take m).map (Tm.re (zo fr by_) (up t.kind bl))))]),(7,.row)]⟩))
   (by omega) (fun m=>rfl) (fun m=>rfl) rfl trivial ?_ ?_ ?_
  ·simp_all only[beq_iff_eq,beq_eq_false_iff_ne,ne_eq];exact(M.W [some 0,some 1,some 2,some 3,some 4,some 5,some 6,none] (hf:=(by(repeat'(first|exact trivial|refine And.intro ?_ ?_|refine⟨_,U,_,U,?_⟩|exact Aj.refl _|exact Aj.of_eq (by simp[Ao.Ar,up, *])));done)))
  ·intro m hm hP;have hs2:=ze Tm.full (List.getElem_mem hm);have hix':∀p∈(t.args[m]).vars (up t.kind bl),0<=p.1/\p.1<549755813888:=fun p hp=>hix p (by rw[hv];exact List.mem_append_right _ (List.mem_flatMap.2 ⟨_,List.getElem_mem hm,hp⟩));have hc:=ih t.args[m] (up t.kind bl) (by omega) (by omega) hup0 (by omega) hix';(repeat' first|refine M.gw ?_|refine M.cv (hc) [0,1,2,3] 0 ?_|fail);refine⟨rfl,trivial,?_⟩;exact(M.W [some 0,some 1,some 2,some 3,some 4,some 5,some 6,some 9] (he:=(by(repeat'(first|exact trivial|exact Or.inr ⟨_,U,rfl⟩|refine And.intro ?_ ?_|refine⟨_,U,_,U,_,U,?_⟩|exact Aj.refl _|exact Aj.of_eq (by simp[Ao.Ar,ya _ _ _ hm])));done)))
  ·intro hP;(repeat' first|refine M.gw ?_|fail)
   (exact M.n2 [some 0,some 1,some 2,some 3] (h8:=(by simp[zi,V.wk,V.An,zd,Ty.view,Tm.view,hre,hk1'])))
theorem Ynj(fr by_:Int)(hy: -1099511627776<=by_/\by_<1099511627776)(t:Tm)(ht:t.full<274877906944)(hix:∀p∈t.vars 0,0<=p.1/\p.1<549755813888):AC E 233 [.agg t.view,.fn (.func 234) [] [.ptr 0 0,.ptr 1 0]] ⟨2,[(0,.var [.i fr]),(1,.var [.i by_])]⟩ (.agg (t.re (zo fr by_) 0).view) ⟨2,[(0,.var [.i fr]),(1,.var [.i by_])]⟩:=by
 have hc:=Yh4 fr by_ hy _ t 0 (Nat.le_refl _) (by omega) (by omega) (by omega) hix;refine M.F Tryz.func233 ?_;(repeat' first|refine M.gw ?_|refine M.cv (hc) [3,5,0,1] 0 ?_|fail)
 (exact M.n2 [some 0,some 1] (h8:=(by simp[zi,V.wk,V.An,zd,Ty.view,Tm.view,hc])))
theorem Vt(t:Tm)(fr by_:Int)(hy: -1099511627776<=by_/\by_<1099511627776)(ht:t.full<274877906944)(hix:∀p∈t.vars 0,0<=p.1/\p.1<549755813888):PC E 193 [.agg t.view,.i fr,.i by_] (.agg (t.re (zo fr by_) 0).view):=by
 have hc:=Ynj fr by_ hy t ht hix;refine M.F Tryz.func193 ?_;(repeat' first|refine M.gw ?_|refine M.cb (hc) [1,2] 0 ?_|fail);simp[zi,V.wk,V.An,zd,Ty.view,Tm.view]
theorem Yor(at_:Int)(s:Tm)(i bl:Int)(hat:0<=at_/\at_<549755813888)(hs:s.full<274877906944)(hsi:∀p∈s.vars 0,0<=p.1/\p.1<549755813888)(hi:0<=i/\i<9223372036854775808)(hb:0<=bl/\bl<549755813888):AC E 261 [.i i,.i bl,.ptr 0 0,.ptr 1 0] ⟨2,[(0,.var [.i at_]),(1,.var s.view)]⟩ (.agg (xu at_ s i bl).view) ⟨2,[(0,.var [.i at_]),(1,.var s.view)]⟩:=by
 have hv:=SM;have hl:=Vt s 0 (at_+bl) (by omega) hs hsi;refine M.F Tryz.func261 ?_;(repeat' first|refine M.gw ?_|refine M.c2 (hv _) ?_|refine M.c2 (hl) ?_|refine M.bl ?_|refine M.cs ?_ ?_<;>intro h|fail)
 ·have h':i-bl=at_:=by simpa using h
  (exact M.n2 [some 0,some 1] (h8:=(by simp[zi,V.wk,V.An,zd,Ty.view,Tm.view,xu,h'])))
 ·rename_i h0;have h0':¬i-bl=at_:=by simpa using h0
  have h':at_<i-bl:=by simpa using h
  (exact M.n2 [some 0,some 1] (h8:=(by simp[zi,V.wk,V.An,zd,Ty.view,Tm.view,xu,h',h0'])))
 ·rename_i h0;have h0':¬i-bl=at_:=by simpa using h0
  have h':¬at_<i-bl:=by simpa using h
  (exact M.n2 [some 0,some 1] (h8:=(by simp[zi,V.wk,V.An,zd,Ty.view,Tm.view,xu,h',h0'])))
theorem Yky(at_:Int)(s:Tm)(hat:0<=at_/\at_<549755813888)(hs:s.full<274877906944)(hsi:∀p∈s.vars 0,0<=p.1/\p.1<549755813888):∀(n:Nat) (t:Tm) (bl:Int),t.full<=n->n<549755813888->0<=bl->bl+n<549755813888->(∀p∈t.vars bl,0<=p.1/\p.1<9223372036854775808)->AC E 259 [.agg t.view,.i bl,.ptr 0 0,.ptr 1 0] ⟨4,[(0,.var [.fn (.func 261) [] [.ptr 2 0,.ptr 3 0]]),(1,.var [.fn (.func 259) [] [.ptr 0 0,.ptr 1 0]]),(2,.var [.i at_]),(3,.var s.view)]⟩ (.agg (t.re (xu at_ s) bl).view) ⟨4,[(0,.var [.fn (.func 261) [] [.ptr 2 0,.ptr 3 0]]),(1,.var [.fn (.func 259) [] [.ptr 0 0,.ptr 1 0]]),(2,.var [.i at_]),(3,.var s.view)]⟩:=by
 intro n;induction n with
 |zero=>intro t bl h;have:=t.Aa;omega
 |succ n ih=>
 intro t bl hsz hb hbl hbn hix;have hsz':=Tm.Ag t;have hlen:=zg Tm.full Tm.Aa t.args;have hv:=Tm.AM bl t;have hre:=Tm.Bz (xu at_ s) bl t;have hi:t.kind=1->0<=t.index/\t.index<9223372036854775808:=fun h=>by simpa using hix (t.index,bl) (by rw[hv];simp[h])
 have hcb:t.kind=1->_:=fun h=>Yor at_ s t.index bl hat hs hsi (hi h) (by omega);have hown:=u7 _ t.ty (Nat.le_refl _) (by omega);refine M.F Tryz.func259 ?_;(repeat' first|refine M.gw ?_|refine M.cv (hcb (by simpa using h)) [2,3] 0 ?_|refine M.c2 (hown) ?_|refine M.cs ?_ ?_<;>intro h|fail)
 ·have hk:t.kind=1:=by simpa using h
  (exact M.n2 [some 0,some 1,some 2,some 3] (h8:=(by simp[zi,V.wk,V.An,zd,Ty.view,Tm.view,hre,hk])))
 all_goals
  rename_i hk1;have hup:up t.kind bl<=bl+1:=by simp only[up];split<;>omega
  have hup0:0<=up t.kind bl:=by simp only[up];split<;>omega
  have hk1':¬t.kind=1:=by simpa using hk1
  refine AW.range t.args.length (fun m=>True)
   (fun m=>([(1,.i (up t.kind bl)),(3,.ptr 1 0),(6,.ptr 5 0),(7,.ptr 6 0),(32,.s .tm t.args),(33,.i t.args.length),(34,.i m)],⟨8,[(0,.var [.fn (.func 261) [] [.ptr 2 0,.ptr 3 0]]),(1,.var [.fn (.func 259) [] [.ptr 0 0,.ptr 1 0]]),(2,.var [.i at_]),(3,.var s.view),(4,.var t.view),(5,.var [.i 0,.i 0,.i 0,.slice .nil (.t .ty []),.slice .nil (.t .tm [])]),(6,.var [.i t.kind,.i t.index,.i t.ty.kind,.s .ty t.ty.args,.slice (.own 7) (.t .tm ((t.args.take m).map (Tm.re (xu at_ s) (up t.kind bl))))]),(7,.row)]⟩))
   (by omega) (fun m=>rfl) (fun m=>rfl) rfl trivial ?_ ?_ ?_
  ·simp_all only[beq_iff_eq,beq_eq_false_iff_ne,ne_eq];exact(M.W [some 0,some 1,some 2,some 3,some 4,some 5,some 6,none] (hf:=(by(repeat'(first|exact trivial|refine And.intro ?_ ?_|refine⟨_,U,_,U,?_⟩|exact Aj.refl _|exact Aj.of_eq (by simp[Ao.Ar,up, *])));done)))
  ·intro m hm hP;have hs2:=ze Tm.full (List.getElem_mem hm);have hix':∀p∈(t.args[m]).vars (up t.kind bl),0<=p.1/\p.1<9223372036854775808:=fun p hp=>hix p (by rw[hv];exact List.mem_append_right _ (List.mem_flatMap.2 ⟨_,List.getElem_mem hm,hp⟩));have hc:=ih t.args[m] (up t.kind bl) (by omega) (by omega) hup0 (by omega) hix';(repeat' first|refine M.gw ?_|refine M.cv (hc) [0,1,2,3] 0 ?_|fail);refine⟨rfl,trivial,?_⟩;exact(M.W [some 0,some 1,some 2,some 3,some 4,some 5,some 6,some 9] (he:=(by(repeat'(first|exact trivial|exact Or.inr ⟨_,U,rfl⟩|refine And.intro ?_ ?_|refine⟨_,U,_,U,_,U,?_⟩|exact Aj.refl _|exact Aj.of_eq (by simp[Ao.Ar,ya _ _ _ hm])));done)))
  ·intro hP;(repeat' first|refine M.gw ?_|fail)
   (exact M.n2 [some 0,some 1,some 2,some 3] (h8:=(by simp[zi,V.wk,V.An,zd,Ty.view,Tm.view,hre,hk1'])))
theorem Ypj(at_:Int)(s:Tm)(hat:0<=at_/\at_<549755813888)(hs:s.full<274877906944)(hsi:∀p∈s.vars 0,0<=p.1/\p.1<549755813888)(t:Tm)(ht:t.full<274877906944)(hix:∀p∈t.vars 0,0<=p.1/\p.1<9223372036854775808):AC E 233 [.agg t.view,.fn (.func 261) [] [.ptr 0 0,.ptr 1 0]] ⟨2,[(0,.var [.i at_]),(1,.var s.view)]⟩ (.agg (t.re (xu at_ s) 0).view) ⟨2,[(0,.var [.i at_]),(1,.var s.view)]⟩:=by
 have hc:=Yky at_ s hat hs hsi _ t 0 (Nat.le_refl _) (by omega) (by omega) (by omega) hix;refine M.F Tryz.func233 ?_;(repeat' first|refine M.gw ?_|refine M.cv (hc) [3,5,0,1] 0 ?_|fail)
 (exact M.n2 [some 0,some 1] (h8:=(by simp[zi,V.wk,V.An,zd,Ty.view,Tm.view,hc])))
theorem Yo6(t:Tm)(at_:Int)(s:Tm)(hat:0<=at_/\at_<549755813888)(hs:s.full<274877906944)(hsi:∀p∈s.vars 0,0<=p.1/\p.1<549755813888)(ht:t.full<274877906944)(hix:∀p∈t.vars 0,0<=p.1/\p.1<9223372036854775808):PC E 239 [.agg t.view,.i at_,.agg s.view] (.agg (t.re (xu at_ s) 0).view):=by
 have hc:=Ypj at_ s hat hs hsi t ht hix;refine M.F Tryz.func239 ?_;(repeat' first|refine M.gw ?_|refine M.cb (hc) [1,2] 0 ?_|fail);simp[zi,V.wk,V.An,zd,Ty.view,Tm.view]
theorem RR(t:Tm)(at_:Int)(s:Tm)(hat:0<=at_/\at_<549755813888)(hs:s.full<274877906944)(hsi:∀p∈s.vars 0,0<=p.1/\p.1<549755813888)(ht:t.full<274877906944)(hix:∀p∈t.vars 0,0<=p.1/\p.1<549755813888):PC E 239 [.agg t.view,.i at_,.agg s.view] (.agg (t.re (xu at_ s) 0).view):=
 Yo6 t at_ s hat hs hsi ht fun p hp=>by have:=hix p hp;omega
theorem Zzo(n:Nat)(hn:n<100000):PC E 80 [.i n] (.agg (EB n).view):=by
 have h1:=CW 4 [] (by simp);refine M.F Tryz.func80 ?_;(repeat' first|refine M.gw ?_|refine M.c2 (h1) ?_|fail);refine K.sq (AW.down n (fun m=>m<=n)
  (fun m=>([(0,.i m),(2,.ptr 0 0),(3,.ptr 1 0)],⟨2,[(0,.var [.i 0,.i 0,.i 0,.slice .nil (.t .ty []),.slice .nil (.t .tm [])]),(1,.var (EB (n-m)).view)]⟩))
  (by omega) (fun m=>rfl) rfl (Nat.le_refl _) ?_ ?_ ?_)
 ·simp only[Nat.sub_self];exact(M.W [some 0,some 1])
 ·intro m hm hP;have e:EB (n-m)= .mk 5 0 (.mk 0 []) [EB (n-(m+1))]:=by rw[show n-m=(n-(m+1))+1 by omega];rfl
  (repeat' first|refine M.gw ?_|fail);refine⟨rfl,by omega,?_⟩;simp only[e];exact(M.W [some 0,some 1])
 ·intro _;(repeat' first|refine M.gw ?_|fail);simp[zi,V.wk,V.An,zd,Ty.view,Tm.view]
theorem Yda(n:Int):PC E 37 [.i n] (.At [.agg (if 0<=n/\n<4096 then EB n.toNat else AU).view,.i (if n<0 then 1 else if n>=4096 then 4 else 0)]):=by
 have h1:¬n<0->¬n>=4096->PC E 80 [.i n] _:=fun h h'=>by
  have:=Zzo n.toNat (by omega);rw[show((n.toNat:Nat):Int)=n by omega] at this;exact this
 refine M.F Tryz.func37 ?_;(repeat' first|refine M.gw ?_|refine M.c2 (h1 (by simp_all) (by simp_all)) ?_|refine M.cs ?_ ?_<;>intro h|fail)
 ·have h':n<0:=by simpa using h
  have h2:¬(0<=n/\n<4096):=by omega
  simp[zi,V.wk,V.An,zd,Ty.view,Tm.view,AU,h',h2]
 ·rename_i h0;have h':¬n<0:=by simpa using h0
  have h'':n>=4096:=by simpa using h
  have h2:¬(0<=n/\n<4096):=by omega
  simp[zi,V.wk,V.An,zd,Ty.view,Tm.view,AU,h',h'',h2]
 ·rename_i h0;have h':¬n<0:=by simpa using h0
  have h'':¬n>=4096:=by simpa using h
  have h2:0<=n/\n<4096:=by omega
  simp[zi,V.wk,V.An,zd,Ty.view,Tm.view,AU,h',h'',h2]
theorem Ht(t:Tm)(ht:t.full<549755813888):PC E 74 [.agg t.view] (.agg (Tm.mk 2 0 (.mk 1 []) [t]).view):=by
 have h1:=Gn 2 (.mk 1 []) [t] (by simp;omega) (by simp[Ty.size_eq]);refine M.F Tryz.func74 ?_;(repeat' first|refine M.gw ?_|refine M.c2 (uq) ?_|refine M.c2 (h1) ?_|fail);simp[zi,V.wk,V.An,zd,Ty.view,Tm.view]
theorem IP(n:Int):PC E 7 [.i n] (.agg (xd n).view):=by
 have h1:=Yda n;refine M.F Tryz.func7 ?_;(repeat' first|refine M.gw ?_|refine M.c2 (h1) ?_|fail);simp[zi,V.wk,V.An,zd,Ty.view,Tm.view,xd]
theorem Sa(b f n:Tm)(h:b.full+f.full+n.full<549755813888):PC E 75 [.agg b.view,.agg f.view,.agg n.view] (.agg (Tm.mk 6 0 (.mk 1 []) [b,f,n]).view):=by
 have h1:=Gn 6 (.mk 1 []) [b,f,n] (by simp;omega) (by simp[Ty.size_eq]);refine M.F Tryz.func75 ?_;(repeat' first|refine M.gw ?_|refine M.c2 (uq) ?_|refine M.c2 (h1) ?_|fail);simp[zi,V.wk,V.An,zd,Ty.view,Tm.view]
theorem Vk:PC E 28 [] (.agg Cj.view):=by
 have h0:=Er 0;have h1:=Er 1;have h2:=CW 5 [vT 0] (by simp[Tm.full,Tm.As,Ty.size,Ty.sizes,vT]);have h3:=Ht (sT (vT 0)) (by simp[Tm.full,Tm.As,Ty.size,Ty.sizes,vT,sT]);have h4:=Ht (C0 (sT (vT 0))) (by simp[Tm.full,Tm.As,Ty.size,Ty.sizes,vT,sT,C0]);have h5:=Sa (vT 1) Iq (vT 0) (by simp[Tm.full,Tm.As,Ty.size,Ty.sizes,vT,sT,C0,Iq]);have h6:=Ht (Fk (vT 1) Iq (vT 0)) (by simp[Tm.full,Tm.As,Ty.size,Ty.sizes,vT,sT,C0,Iq,Fk]);have h7:=Ht (C0 (Fk (vT 1) Iq (vT 0))) (by simp[Tm.full,Tm.As,Ty.size,Ty.sizes,vT,sT,C0,Iq,Fk]);refine M.F Tryz.func28 ?_;(repeat' first|refine M.gw ?_|refine M.c2 (h0) ?_|refine M.c2 (h1) ?_|refine M.c2 (h2) ?_|refine M.c2 (h3) ?_|refine M.c2 (h4) ?_|refine M.c2 (h5) ?_|refine M.c2 (h6) ?_|refine M.c2 (h7) ?_|fail)
 rfl
theorem Qv:∀(f:Tm) (l:List Tm),f.full+2*l.length+(l.map Tm.full).sum<274877906944->PC E 27 [.agg f.view,.s .tm l] (.agg (l.foldl A0 f).view):=by
 intro f l hl;have hlen:=zg Tm.full Tm.Aa l;have hfull:∀m,m<=l.length->((l.take m).foldl A0 f).full<=f.full+2*m+((l.take m).map Tm.full).sum:=by
  intro m;induction m with
  |zero=>intro _;simp
  |succ m ih=>
   intro hm;have h1:=ih (by omega);have h2:=yv Tm.full l m (by omega);rw[<-List.take_append_getElem (by omega:m<l.length),List.foldl_append,List.take_append_getElem (by omega:m<l.length),h2];simp only[List.foldl_cons,List.foldl_nil,A0,Tm.full,Tm.As,Ty.size,Ty.sizes];omega
 refine M.F Tryz.func27 ?_;(repeat' first|refine M.gw ?_|fail);refine AW.range l.length (fun m=>True)
  (fun m=>([(2,.ptr 0 0),(4,.ptr 1 0),(7,.s .tm l),(8,.i l.length),(9,.i m)],⟨2,[(0,.var ((l.take m).foldl A0 f).view),(1,.var [.i 0,.i 0,.i 0,.slice .nil (.t .ty []),.slice .nil (.t .tm [])])]⟩))
  (by omega) (fun m=>rfl) (fun m=>rfl) rfl trivial (M.W [some 0,some 1]) ?_ ?_
 ·intro m hm hP;have e:(l.take (m+1)).foldl A0 f=A0 ((l.take m).foldl A0 f) l[m]:=by rw[<-List.take_append_getElem hm,List.foldl_append];rfl
  have h2:=zw Tm.full l (m+1);have h3:=yv Tm.full l m hm;have h4:=hfull m (by omega);have h1:=CW 3 [(l.take m).foldl A0 f,l[m]] (by simp only[List.map_cons,List.map_nil,List.sum_cons,List.sum_nil];omega);(repeat' first|refine M.gw ?_|refine M.c2 (h1) ?_|fail);refine⟨rfl,trivial,?_⟩;exact(M.W [some 0,some 1] (he:=(by(repeat'(first|exact trivial|refine And.intro ?_ ?_|refine⟨_,U,_,U,_,U,?_⟩|exact Aj.refl _|exact Aj.of_eq (by simp[Ao.Ar,e,A0])));done)))
 ·intro _;(repeat' first|refine M.gw ?_|fail);simp[zi,V.wk,V.An,zd,Ty.view,Tm.view]
theorem ZS(t:Tm)(fr by_:Int)(ht:t.full<274877906944):PC E 124 [.agg t.view,.i fr,.i by_] (.At [.agg (if yk t fr by_=0 then t.re (zo fr by_) 0 else AU).view,.i (yk t fr by_)]):=by
 have h1:=Yjb t (by omega);have h2:=Wk fr;have h3:=Wk by_;have h4:=L9 t (by omega);have h5:t.err=0->t.near=true->(0<=by_/\by_<=4096)->_:=fun h hn hy=>Vt t fr by_ (by omega) ht (Qa h hn);refine M.F Tryz.func124 ?_;(repeat' first|refine M.gw ?_|refine M.c2 (h1) ?_|refine M.c2 (h2) ?_|refine M.c2 (h3) ?_|refine M.c2 (h4) ?_|refine M.c2 (h5 (by simp_all) (by simp_all) (by simp_all)) ?_|refine M.gs ?_ ?_<;>intro h|refine M.cs ?_ ?_<;>intro h|fail)
 ·have e':t.err≠0:=by simpa using h
  have e:yk t fr by_=t.err:=by simp only[yk];rw[if_pos e']
  simp[zi,V.wk,V.An,zd,Ty.view,Tm.view,e,AU,e']
 ·rename_i h0;have e':¬t.err≠0:=by simpa using h0
  have e:yk t fr by_=1:=by simp only[yk];rw[if_neg e',if_pos (.inl (by intro hc;simp[hc] at h))]
  simp[zi,V.wk,V.An,zd,Ty.view,Tm.view,e,AU]
 ·rename_i h0 h1;have e':¬t.err≠0:=by simpa using h0
  have e:yk t fr by_=1:=by simp only[yk];rw[if_neg e',if_pos (.inr (.inl (by intro hc;simp[hc] at h)))]
  simp[zi,V.wk,V.An,zd,Ty.view,Tm.view,e,AU]
 ·rename_i h0 h1 h2;have e':¬t.err≠0:=by simpa using h0
  have e:yk t fr by_=1:=by simp only[yk];rw[if_neg e',if_pos (.inr (.inr (by simpa using h)))]
  simp[zi,V.wk,V.An,zd,Ty.view,Tm.view,e,AU]
 ·rename_i h0 h1 h2;have e':¬t.err≠0:=by simpa using h0
  have e:yk t fr by_=0:=by
   simp only[yk];rw[if_neg e',if_neg];rintro(hc|hc|hc)
   ·simp at h1;omega
   ·simp at h2;omega
   ·simp[hc] at h
  simp[zi,V.wk,V.An,zd,Ty.view,Tm.view,e,AU]
theorem Zz1:∀(b:Nat) (t:Ty),t.size<=b->b<1099511627776->PC E 211 [.agg t.view] (.bool t.shape):=by
 intro b;induction b with
 |zero=>intro t h;have:=t.size_pos;omega
 |succ b ih=>
 intro t hsz hb;have hsz':=Ty.size_eq t;have hlen:=zg Ty.size Ty.size_pos t.args;have hsh:=Ty.Ai t;refine M.F Tryz.func211 ?_;(repeat' first|refine M.gw ?_|fail);refine AW.L8 (ι:={n:Nat // DA t.kind=some n}) (fun n=>([(1,.ptr 0 0),(3,.i n.1)],⟨1,[(0,.var t.view)]⟩)) ?_ ?_
 ·refine AW.block ?_;(repeat' first|refine M.gw ?_|refine M.cs ?_ ?_<;>intro h|fail)
  ·exact ⟨⟨0,by simp at h;simp[DA,h]⟩,(M.W [some 0])⟩
  ·exact ⟨⟨0,by simp at h;simp[DA,h]⟩,(M.W [some 0])⟩
  ·exact ⟨⟨0,by simp at h;simp[DA,h]⟩,(M.W [some 0])⟩
  ·exact ⟨⟨2,by simp at h;simp[DA,h]⟩,(M.W [some 0])⟩
  ·exact ⟨⟨2,by simp at h;simp[DA,h]⟩,(M.W [some 0])⟩
  ·have:t.shape=false:=by simp at*;simp[hsh,DA, *]
   simp[this,zi,zd,V.wk,V.An]
 rintro⟨n,hn⟩;(repeat' first|refine M.gw ?_|refine M.cs ?_ ?_<;>intro h|fail)
 ·have h1:¬t.args.length=n:=by simp at h;omega
  have:t.shape=false:=by simp[hsh,hn,h1]
  simp[this,zi,zd,V.wk,V.An]
 have hn':t.args.length=n:=by simp at h;omega
 refine AW.range t.args.length (fun m=>∀j (hj:j<t.args.length),j<m->(t.args[j]).shape=true)
  (fun m=>([(1,.ptr 0 0),(21,.s .ty t.args),(22,.i t.args.length),(23,.i m)],⟨1,[(0,.var t.view)]⟩))
  (by omega) (fun m=>rfl) (fun m=>rfl) rfl (by intro j hj h;omega) (M.W [some 0]) ?_ ?_
 ·intro m hm hP;have hs2:=ze Ty.size (List.getElem_mem hm);(repeat' first|refine M.gw ?_|refine M.c2 (ih _ ?_ ?_) ?_|refine M.cs ?_ ?_<;>intro h|exact M.le|exact M.lt|fail)
  ·have h1:(t.args[m]).shape=false:=by simpa using h
   have:t.shape=false:=by rw[hsh,vx Ty.shape hm h1,Bool.and_false]
   simp[this,zi,zd,V.wk,V.An]
  ·have hh:(t.args[m]).shape=true:=by simpa using h
   exact⟨rfl,yb (p:=fun t=>Ty.shape t=true) hm hP hh,(M.W [some 0])⟩
 ·intro hP;have:t.shape=true:=by simp only[hsh,hn,hn',FL Ty.shape t.args fun j hj=>hP j hj hj];simp
  (repeat' first|refine M.gw ?_|fail);simp[this,zi,zd,V.wk,V.An]
theorem Ycm:∀(b:Nat) (t:Ty),t.size<=b->b<1099511627776->PC E 212 [.agg t.view] (.i t.size):=by
 intro b;induction b with
 |zero=>intro t h;have:=t.size_pos;omega
 |succ b ih=>
 intro t hsz hb;have hsz':=Ty.size_eq t;have hlen:=zg Ty.size Ty.size_pos t.args;refine M.F Tryz.func212 ?_;(repeat' first|refine M.gw ?_|fail);refine AW.range t.args.length (fun m=>True)
  (fun m=>([(3,.i (1+((t.args.take m).map Ty.size).sum)),(7,.s .ty t.args),(8,.i t.args.length),(9,.i m)],⟨1,[(0,.var t.view)]⟩))
  (by omega) (fun m=>rfl) (fun m=>rfl) rfl trivial (M.W [some 0]) ?_ ?_
 ·intro m hm hP;have hs1:=yv Ty.size t.args m hm;have hs2:=ze Ty.size (List.getElem_mem hm);have hs3:=zw Ty.size t.args (m+1);have e:(1+((((t.args.take (m+1)).map Ty.size).sum:Nat):Int))=1+(((t.args.take m).map Ty.size).sum:Nat)+t.args[m].size:=by rw[hs1];omega
  (repeat' first|refine M.gw ?_|refine M.c2 (ih _ ?_ ?_) ?_|exact M.le|exact M.lt|fail);refine⟨rfl,trivial,?_⟩;simp only[e];exact(M.W [some 0])
 ·intro hP;(repeat' first|refine M.gw ?_|fail);simp[zi,zd,hsz',V.wk,V.An]
theorem LQ(t:Ty)(ht:t.size<1099511627776):PC E 141 [.agg t.view] (.i t.err):=by
 have h1:=Zz1 _ t (Nat.le_refl _) ht;have h2:=Ycm _ t (Nat.le_refl _) ht;refine M.F Tryz.func141 ?_;(repeat' first|refine M.gw ?_|refine M.c2 (h1) ?_|refine M.c2 (h2) ?_|refine M.cs ?_ ?_<;>intro h|fail);all_goals simp_all[zi,V.wk,V.An,zd,Ty.err]
 all_goals(first|omega|(split<;>first|omega|simp_all))
theorem SO(t:Ty):PC E 143 [.agg t.view] (.bool t.BJ):=by
 refine M.F Tryz.func143 ?_;(repeat' first|refine M.gw ?_|refine M.gs ?_ ?_<;>intro h|fail);all_goals simp_all[zi,V.wk,V.An,zd,Ty.BJ]
 rw[Bool.eq_iff_iff];simp
theorem Wx(t:Ty)(ht:t.size<1099511627776):PC E 279 [.agg t.view] (.At [.agg (if t.err=0 then t else Ba).view,.i (if t.err=0 then 0 else 4)]):=by
 have h1:=LQ t ht;refine M.F Tryz.func279 ?_;(repeat' first|refine M.gw ?_|refine M.c2 (h1) ?_|refine M.cs ?_ ?_<;>intro h|fail);all_goals simp_all[zi,V.wk,V.An,zd,Ba,Ty.view]
theorem SE(l:List Ty)(hl:(l.map Ty.size).sum<1099511627776):PC E 90 [.s .ty l] (.i (xg l)):=by
 have hlen:=zg Ty.size Ty.size_pos l;refine M.F Tryz.func90 ?_;(repeat' first|refine M.gw ?_|refine M.cs ?_ ?_<;>intro h|fail)
 ·have h':l.length>16:=by simp at h;omega
  simp[zi,V.wk,V.An,zd,xg,h']
 have h':¬l.length>16:=by simp at h;omega
 refine AW.range l.length (fun m=>∀j (hj:j<l.length),j<m->l[j].err=0)
  (fun m=>([(9,.s .ty l),(10,.i l.length),(11,.i m)],⟨0,[]⟩))
  (by omega) (fun m=>rfl) (fun m=>rfl) rfl (by intro j hj h;omega) (M.W []) ?_ ?_
 ·intro m hm hP;have hs2:=ze Ty.size (List.getElem_mem hm);(repeat' first|refine M.gw ?_|refine M.c2 (LQ _ ?_) ?_|refine M.cs ?_ ?_<;>intro h|exact M.lt|fail)
  ·have h1:¬l[m].err=0:=by simpa using h
   simp[zi,V.wk,V.An,zd,xg,h',Vi l m hm hP h1]
  ·exact ⟨rfl,yb (p:=fun t=>Ty.err t=0) hm hP (by simpa using h),(M.W [])⟩
 ·intro hP;(repeat' first|refine M.gw ?_|fail);simp[zi,V.wk,V.An,zd,xg,h',Tg l hP]
end Go.Ab
