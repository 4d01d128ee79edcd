/- A part of the proofs of this seat. No conditions. -/
import Derived.Test.YtpnbmjgblakifaaGreatDoorRows
import Derived.Test.YtpnbmjgblakifaaGreatDoorD1
namespace Go.Ab
open Go Go.Proofs
def Lf:List (TypeId×TI):=[
 (2,⟨1,[.int .i64 0],.int .i64⟩),
 (3,⟨1,[.int .i64 0],.int .i64⟩),
 (4,⟨1,[.bool false],.bool⟩),
 (5,⟨1,[.int .u8 0],.int .u8⟩),
 (12,⟨1,[.int .u64 0],.int .u64⟩),
 (20,⟨1,[.raw .nilIface],.other⟩),
 (21,⟨1,[.int .i32 0],.int .i32⟩),
 (22,⟨1,[.slice .nil (.t .int [])],.slc (some .int) 1 8⟩),
 (25,⟨1,[.nilp],.other⟩),
 (27,⟨1,[.slice .nil (.t .fm [])],.slc (some .fm) 5 88⟩),
 (29,⟨1,[.slice .nil (.t .ty [])],.slc (some .ty) 2 32⟩),
 (30,⟨2,[.slice .nil (.t .ty []),.slice .nil (.t .fm [])],.strct [(0,1,false),(1,1,false)]⟩),
 (31,⟨2,[.slice .nil (.t .ty []),.slice .nil (.t .fm [])],.strct [(0,1,false),(1,1,false)]⟩),
 (33,⟨2,[.int .i64 0,.slice .nil (.t .ty [])],.strct [(0,1,false),(1,1,false)]⟩),
 (34,⟨2,[.int .i64 0,.slice .nil (.t .ty [])],.strct [(0,1,false),(1,1,false)]⟩),
 (35,⟨1,[.slice .nil (.t .tm [])],.slc (some .tm) 5 72⟩),
 (36,⟨1,[.slice .nil (.t .pf [])],.slc (some .pf) 7 120⟩),
 (37,⟨7,[.int .i64 0,.int .i64 0,.int .i64 0,.slice .nil (.t .ty []),.slice .nil (.t .tm []),.slice .nil (.t .fm []),.slice .nil (.t .pf [])],.strct [(0,1,false),(1,1,false),(2,2,true),(4,1,false),(5,1,false),(6,1,false)]⟩),
 (38,⟨7,[.int .i64 0,.int .i64 0,.int .i64 0,.slice .nil (.t .ty []),.slice .nil (.t .tm []),.slice .nil (.t .fm []),.slice .nil (.t .pf [])],.strct [(0,1,false),(1,1,false),(2,2,true),(4,1,false),(5,1,false),(6,1,false)]⟩),
 (40,⟨1,[.int .i64 0],.int .i64⟩),
 (46,⟨5,[.int .i64 0,.int .i64 0,.int .i64 0,.slice .nil (.t .ty []),.slice .nil (.t .tm [])],.strct [(0,1,false),(1,1,false),(2,2,true),(4,1,false)]⟩),
 (47,⟨5,[.int .i64 0,.int .i64 0,.int .i64 0,.slice .nil (.t .ty []),.slice .nil (.t .tm [])],.strct [(0,1,false),(1,1,false),(2,2,true),(4,1,false)]⟩),
 (65,⟨2,[.slice .nil (.t .int []),.int .i64 0],.strct [(0,1,false),(1,1,false)]⟩),
 (66,⟨2,[.slice .nil (.t .int []),.int .i64 0],.strct [(0,1,false),(1,1,false)]⟩),
 (68,⟨5,[.int .i64 0,.int .i64 0,.slice .nil (.t .ty []),.slice .nil (.t .tm []),.slice .nil (.t .fm [])],.strct [(0,1,false),(1,2,true),(3,1,false),(4,1,false)]⟩),
 (69,⟨5,[.int .i64 0,.int .i64 0,.slice .nil (.t .ty []),.slice .nil (.t .tm []),.slice .nil (.t .fm [])],.strct [(0,1,false),(1,2,true),(3,1,false),(4,1,false)]⟩),
 (72,⟨6,[.int .i64 0,.int .i64 0,.slice .nil (.t .ty []),.slice .nil (.t .tm []),.slice .nil (.t .fm []),.slice .nil (.t .int [])],.strct [(0,5,true),(5,1,false)]⟩),
 (73,⟨6,[.int .i64 0,.int .i64 0,.slice .nil (.t .ty []),.slice .nil (.t .tm []),.slice .nil (.t .fm []),.slice .nil (.t .int [])],.strct [(0,5,true),(5,1,false)]⟩),
 (113,⟨1,[.nilp],.other⟩),
 (114,⟨2,[.int .i64 0,.bool false],.strct [(0,1,false),(1,1,false)]⟩),
 (115,⟨2,[.int .i64 0,.bool false],.strct [(0,1,false),(1,1,false)]⟩),
 (118,⟨2,[.int .i64 0,.int .i64 0],.strct [(0,1,false),(1,1,false)]⟩),
 (121,⟨1,[.nilf],.other⟩),
 (124,⟨1,[.nilf],.other⟩),
 (125,⟨1,[.nilf],.other⟩),
 (127,⟨3,[.nilf,.nilf,.nilf],.strct [(0,1,false),(1,1,false),(2,1,false)]⟩),
 (142,⟨1,[.nilf],.other⟩),
 (143,⟨1,[.nilf],.other⟩),
 (144,⟨1,[.nilf],.other⟩),
 (146,⟨3,[.nilf,.nilf,.nilf],.strct [(0,1,false),(1,1,false),(2,1,false)]⟩),
 (155,⟨3,[.slice .nil (.t .fm []),.slice .nil (.t .ty []),.slice .nil (.t .fm [])],.strct [(0,1,false),(1,1,false),(2,1,false)]⟩),
 (158,⟨2,[.int .i64 0,.int .i64 0],.strct [(0,1,false),(1,1,false)]⟩),
 (160,⟨1,[.slice .nil (.u 2 [])],.slc none 2 16⟩),
 (165,⟨1,[.raw (.map none)],.other⟩),
 (166,⟨1,[.raw (.map none)],.other⟩),
 (168,⟨1,[.nilf],.other⟩),
 (171,⟨1,[.nilf],.other⟩),
 (173,⟨8,[.bool false,.bool false,.int .i64 0,.int .i64 0,.int .i64 0,.int .i64 0,.int .i64 0,.int .i64 0],.strct [(0,1,false),(1,1,false),(2,1,false),(3,1,false),(4,1,false),(5,1,false),(6,1,false),(7,1,false)]⟩),
 (184,⟨1,[.nilf],.other⟩),
 (188,⟨1,[.nilp],.other⟩),
 (190,⟨2,[.int .i64 0,.bool false],.strct [(0,1,false),(1,1,false)]⟩),
 (200,⟨5,[.int .i64 0,.int .i64 0,.int .i64 0,.bool false,.bool false],.strct [(0,1,false),(1,1,false),(2,1,false),(3,1,false),(4,1,false)]⟩),
 (207,⟨1,[.nilf],.other⟩),
 (209,⟨168,[.bool false,.bool false,.int .i64 0,.int .i64 0,.int .i64 0,.int .i64 0,.int .i64 0,.int .i64 0,.bool false,.bool false,.int .i64 0,.int .i64 0,.int .i64 0,.int .i64 0,.int .i64 0,.int .i64 0,.bool false,.bool false,.int .i64 0,.int .i64 0,.int .i64 0,.int .i64 0,.int .i64 0,.int .i64 0,.bool false,.bool false,.int .i64 0,.int .i64 0,.int .i64 0,.int .i64 0,.int .i64 0,.int .i64 0,.bool false,.bool false,.int .i64 0,.int .i64 0,.int .i64 0,.int .i64 0,.int .i64 0,.int .i64 0,.bool false,.bool false,.int .i64 0,.int .i64 0,.int .i64 0,.int .i64 0,.int .i64 0,.int .i64 0,.bool false,.bool false,.int .i64 0,.int .i64 0,.int .i64 0,.int .i64 0,.int .i64 0,.int .i64 0,.bool false,.bool false,.int .i64 0,.int .i64 0,.int .i64 0,.int .i64 0,.int .i64 0,.int .i64 0,.bool false,.bool false,.int .i64 0,.int .i64 0,.int .i64 0,.int .i64 0,.int .i64 0,.int .i64 0,.bool false,.bool false,.int .i64 0,.int .i64 0,.int .i64 0,.int .i64 0,.int .i64 0,.int .i64 0,.bool false,.bool false,.int .i64 0,.int .i64 0,.int .i64 0,.int .i64 0,.int .i64 0,.int .i64 0,.bool false,.bool false,.int .i64 0,.int .i64 0,.int .i64 0,.int .i64 0,.int .i64 0,.int .i64 0,.bool false,.bool false,.int .i64 0,.int .i64 0,.int .i64 0,.int .i64 0,.int .i64 0,.int .i64 0,.bool false,.bool false,.int .i64 0,.int .i64 0,.int .i64 0,.int .i64 0,.int .i64 0,.int .i64 0,.bool false,.bool false,.int .i64 0,.int .i64 0,.int .i64 0,.int .i64 0,.int .i64 0,.int .i64 0,.bool false,.bool false,.int .i64 0,.int .i64 0,.int .i64 0,.int .i64 0,.int .i64 0,.int .i64 0,.bool false,.bool false,.int .i64 0,.int .i64 0,.int .i64 0,.int .i64 0,.int .i64 0,.int .i64 0,.bool false,.bool false,.int .i64 0,.int .i64 0,.int .i64 0,.int .i64 0,.int .i64 0,.int .i64 0,.bool false,.bool false,.int .i64 0,.int .i64 0,.int .i64 0,.int .i64 0,.int .i64 0,.int .i64 0,.bool false,.bool false,.int .i64 0,.int .i64 0,.int .i64 0,.int .i64 0,.int .i64 0,.int .i64 0,.bool false,.bool false,.int .i64 0,.int .i64 0,.int .i64 0,.int .i64 0,.int .i64 0,.int .i64 0],.arr 21 8 true⟩),
 (222,⟨1,[.nilf],.other⟩),
 (223,⟨1,[.nilf],.other⟩),
 (225,⟨1,[.nilf],.other⟩),
 (226,⟨14,[.int .i64 0,.int .i64 0,.int .i64 0,.int .i64 0,.int .i64 0,.int .i64 0,.int .i64 0,.int .i64 0,.int .i64 0,.int .i64 0,.int .i64 0,.int .i64 0,.int .i64 0,.int .i64 0],.arr 14 1 false⟩),
 (251,⟨1,[.int .u64 0],.int .u64⟩),
 (263,⟨1,[.int .u32 0],.int .u32⟩),
 (265,⟨1,[.int .u64 0],.int .u64⟩)]
set_option maxRecDepth 100000
theorem Yi3:Lf.all (fun p=>LC Tryz.prog p.1 p.2)=true:=by kernel_rfl
def Ot:List V:=[.bool false,.bool false,.i 0,.i 0,.i 0,.i 0,.i 0,.i 0,.bool true,.bool false,.i 0,.i 0,.i 0,.i 0,.i 0,.i 0,.bool true,.bool false,.i 0,.i 0,.i 0,.i 0,.i 0,.i 0,.bool false,.bool false,.i 0,.i 0,.i 2,.i 0,.i 0,.i 0,.bool false,.bool false,.i 0,.i 0,.i 1,.i 0,.i 0,.i 0,.bool false,.bool false,.i 0,.i 0,.i 1,.i 0,.i 0,.i 0,.bool false,.bool false,.i 0,.i 1,.i 1,.i 0,.i 0,.i 1,.bool false,.bool false,.i 0,.i 0,.i 2,.i 0,.i 0,.i 0,.bool false,.bool true,.i 0,.i 0,.i 1,.i 0,.i 1,.i 0,.bool false,.bool false,.i 1,.i 0,.i 1,.i 0,.i 0,.i 0,.bool false,.bool false,.i 1,.i 1,.i 1,.i 0,.i 0,.i 0,.bool false,.bool false,.i 0,.i 0,.i 2,.i 0,.i 1,.i 1,.bool false,.bool true,.i 0,.i 0,.i 1,.i 0,.i 1,.i 0,.bool false,.bool false,.i 1,.i 0,.i 1,.i 0,.i 0,.i 0,.bool false,.bool false,.i 1,.i 1,.i 1,.i 0,.i 0,.i 0,.bool false,.bool false,.i 0,.i 0,.i 2,.i 0,.i 1,.i 1,.bool false,.bool false,.i 1,.i 1,.i 2,.i 1,.i 1,.i 1,.bool false,.bool false,.i 1,.i 1,.i 2,.i 1,.i 2,.i 1,.bool false,.bool false,.i 1,.i 0,.i 0,.i 0,.i 0,.i 0,.bool false,.bool false,.i 0,.i 1,.i 2,.i 1,.i 0,.i 0,.bool false,.bool false,.i 0,.i 0,.i 1,.i 0,.i 0,.i 0]
def L4:List V:=[.i 0,.i 0,.i 1,.i 2,.i 0,.i 1,.i 3,.i 0,.i 2,.i 3,.i 2,.i 1,.i 1,.i 0]
noncomputable def E:Env:=⟨Tryz.prog,[(1,L4),(0,Ot)],Lf,Yi3⟩
end Go.Ab
namespace Go.Ab
open Go Go.Proofs
set_option maxRecDepth 100000
set_option linter.all false
theorem mixed:E.P.follows .mixedOrders=true:=Tryz.checked.mixed
theorem wv:∀(b:Nat) (t:Ty),t.size<=b->b<1099511627776->PC E 115 [.agg t.view] (.agg t.view):=by
 intro b;induction b with
 |zero=>intro t h;have:=t.size_pos;omega
 |succ b ih=>
 intro t hsz hb;have hsz':=Ty.size_eq t;have hlen:=zd Ty.size Ty.size_pos t.args;refine M.F Tryz.func115 ?_;(repeat' first|refine M.gw ?_|fail);refine AW.range t.args.length (fun m=>True)
  (fun m=>([(1,.ptr 0 0),(2,.ptr 1 0),(3,.slice (.own 2) (.t .ty (t.args.take m))),(7,.s .ty t.args),(8,.i t.args.length),(9,.i m)],⟨3,[(0,.var t.view),(1,.var [.i 0,.slice .nil (.t .ty [])]),(2,.row)]⟩))
  (by omega) (fun m=>rfl) (fun m=>rfl) rfl trivial (M.W [some 0,some 1,none]) ?_ ?_
 ·intro m hm hP;have hs2:=zc Ty.size (List.getElem_mem hm);(repeat' first|refine M.gw ?_|refine M.c2 (ih _ ?_ ?_) ?_|exact M.le|exact M.lt|fail);exact⟨rfl,trivial,(M.W [some 0,some 1,some 4] (hf:=(by(repeat'(first|exact trivial|refine And.intro ?_ ?_|refine⟨_,U,_,U,?_⟩|exact An.refl _|exact An.of_eq (by simp[Ao.Ax,List.take_append_getElem])));done)))⟩
 ·intro hP;(repeat' first|refine M.gw ?_|fail);simp[zj,V.wk,V.Ap,za,Ty.view,Tm.view]
theorem GB:∀(b:Nat) (t:Ty),t.size<=b->b<1099511627776->PC E 172 [.agg t.view] (.agg t.view):=by
 intro b;induction b with
 |zero=>intro t h;have:=t.size_pos;omega
 |succ b ih=>
 intro t hsz hb;have hsz':=Ty.size_eq t;have hlen:=zd Ty.size Ty.size_pos t.args;refine M.F Tryz.func172 ?_;(repeat' first|refine M.gw ?_|fail);refine AW.range t.args.length (fun m=>True)
  (fun m=>([(1,.ptr 0 0),(2,.ptr 1 0),(3,.ptr 2 0),(10,.s .ty t.args),(11,.i t.args.length),(12,.i m)],⟨4,[(0,.var t.view),(1,.var [.i 0,.slice .nil (.t .ty [])]),(2,.var [.i t.kind,.slice (.own 3) (.t .ty (t.args.take m))]),(3,.row)]⟩))
  (by omega) (fun m=>rfl) (fun m=>rfl) rfl trivial (M.W [some 0,some 1,some 2,none]) ?_ ?_
 ·intro m hm hP;have hs2:=zc Ty.size (List.getElem_mem hm);(repeat' first|refine M.gw ?_|refine M.c2 (ih _ ?_ ?_) ?_|exact M.le|exact M.lt|fail);exact⟨rfl,trivial,(M.W [some 0,some 1,some 2,some 5] (he:=(by(repeat'(first|exact trivial|exact Or.inr ⟨_,U,rfl⟩|refine And.intro ?_ ?_|refine⟨_,U,_,U,_,U,?_⟩|exact An.refl _|exact An.of_eq (by simp[Ao.Ax,List.take_append_getElem])));done)))⟩
 ·intro hP;(repeat' first|refine M.gw ?_|fail);simp[zj,V.wk,V.Ap,za,Ty.view,Tm.view]
theorem Zpp:∀(b:Nat) (t:Ty),t.size<=b->b<1099511627776->PC E 234 [.agg t.view] (Mz t):=by
 intro b;induction b with
 |zero=>intro t h;have:=t.size_pos;omega
 |succ b ih=>
 intro t hsz hb;have hsz':=Ty.size_eq t;have hlen:=zd Ty.size Ty.size_pos t.args;have hsh:=Ty.Ak t;refine M.F Tryz.func234 ?_;(repeat' first|refine M.gw ?_|fail);refine AW.LP (ι:={n:Nat // DF t.kind=some n}) (fun n=>([(1,.ptr 0 0),(4,.i n.1)],⟨1,[(0,.var t.view)]⟩)) ?_ ?_
 ·refine AW.block ?_;(repeat' first|refine M.gw ?_|refine M.cs ?_ ?_<;>intro h|fail)
  ·exact ⟨⟨0,by simp at h;simp[DF,h]⟩,(M.W [some 0])⟩
  ·exact ⟨⟨0,by simp at h;simp[DF,h]⟩,(M.W [some 0])⟩
  ·exact ⟨⟨0,by simp at h;simp[DF,h]⟩,(M.W [some 0])⟩
  ·exact ⟨⟨2,by simp at h;simp[DF,h]⟩,(M.W [some 0])⟩
  ·exact ⟨⟨2,by simp at h;simp[DF,h]⟩,(M.W [some 0])⟩
  ·have:t.shape=false:=by simp at*;simp[hsh,DF, *]
   simp[Mz,Ty.nodes,this,zj,za,V.wk,V.Ap]
 rintro⟨n,hn⟩;(repeat' first|refine M.gw ?_|refine M.cs ?_ ?_<;>intro h|fail)
 ·have h1:¬t.args.length=n:=by simp at h;omega
  have:t.shape=false:=by simp[hsh,hn,h1]
  simp[Mz,Ty.nodes,this,zj,za,V.wk,V.Ap]
 have hn':t.args.length=n:=by simp at h;omega
 refine AW.range t.args.length (fun m=>∀j (hj:j<t.args.length),j<m->(t.args[j]).shape=true)
  (fun m=>([(1,.ptr 0 0),(5,.i (1+((t.args.take m).map Ty.size).sum)),(25,.s .ty t.args),(26,.i t.args.length),(27,.i m)],⟨1,[(0,.var t.view)]⟩))
  (by omega) (fun m=>rfl) (fun m=>rfl) rfl (by intro j hj h;omega) (M.W [some 0]) ?_ ?_
 ·intro m hm hP;have hs1:=yl Ty.size t.args m hm;have hs2:=zc Ty.size (List.getElem_mem hm);have hs3:=zn Ty.size t.args (m+1);have hs4:=Ty.DL t.args[m];(repeat' first|refine M.gw ?_|refine M.c2 (ih _ ?_ ?_) ?_|refine M.cs ?_ ?_<;>intro h|exact M.le|exact M.lt|fail)
  ·have h1:(t.args[m]).shape=false:=by simpa using h
   have:t.shape=false:=by rw[hsh,vh Ty.shape hm h1,Bool.and_false]
   simp[Mz,Ty.nodes,this,zj,za,V.wk,V.Ap]
  ·have hh:(t.args[m]).shape=true:=by simpa using h
   refine⟨rfl,yc (p:=fun t=>Ty.shape t=true) hm hP hh,?_⟩;have e:(1+((((t.args.take (m+1)).map Ty.size).sum:Nat):Int))=1+(((t.args.take m).map Ty.size).sum:Nat)+t.args[m].nodes:=by simp only[Ty.nodes,hh,hs1];simp;omega
   simp only[e];exact(M.W [some 0])
 ·intro hP;have:t.shape=true:=by simp only[hsh,hn,hn',Fk Ty.shape t.args fun j hj=>hP j hj hj];simp
  (repeat' first|refine M.gw ?_|fail);simp[Mz,Ty.nodes,this,zj,za,hsz',V.wk,V.Ap]
theorem Ex(i:Int):PC E 65 [.i i] (.agg (Tm.mk 1 i (.mk 0 []) []).view):=by
 refine M.F Tryz.func65 ?_;(repeat' first|refine M.gw ?_|fail);simp[zj,V.wk,V.Ap,za,Ty.view,Tm.view]
theorem Sx(i:Int):PC E 194 [.i i] (.agg (Tm.mk 1 i (.mk 0 []) []).view):=by
 refine M.F Tryz.func194 ?_;(repeat' first|refine M.gw ?_|fail);simp[zj,V.wk,V.Ap,za,Ty.view,Tm.view]
theorem v8:PC E 56 [] (.agg (Ty.mk 1 []).view):=by
 refine M.F Tryz.func56 ?_;(repeat' first|refine M.gw ?_|fail);simp[zj,V.wk,V.Ap,za,Ty.view,Tm.view]
theorem Fe:PC E 68 [] (.agg (Ty.mk 2 []).view):=by
 refine M.F Tryz.func68 ?_;(repeat' first|refine M.gw ?_|fail);simp[zj,V.wk,V.Ap,za,Ty.view,Tm.view]
theorem Rv:PC E 99 [] (.agg (Ty.mk 5 []).view):=by
 refine M.F Tryz.func99 ?_;(repeat' first|refine M.gw ?_|fail);simp[zj,V.wk,V.Ap,za,Ty.view,Tm.view]
theorem TB(x y:Ty)(hx:x.size<1099511627776)(hy:y.size<1099511627776):PC E 100 [.agg x.view,.agg y.view] (.agg (Ty.mk 3 [x,y]).view):=by
 have h1:=wv _ x (Nat.le_refl _) hx;have h2:=wv _ y (Nat.le_refl _) hy;refine M.F Tryz.func100 ?_;(repeat' first|refine M.gw ?_|refine M.c2 (h1) ?_|refine M.c2 (h2) ?_|fail);simp[zj,V.wk,V.Ap,za,Ty.view,Tm.view]
theorem IW(x y:Ty)(hx:x.size<1099511627776)(hy:y.size<1099511627776):PC E 101 [.agg x.view,.agg y.view] (.agg (Ty.mk 4 [x,y]).view):=by
 have h1:=wv _ x (Nat.le_refl _) hx;have h2:=wv _ y (Nat.le_refl _) hy;refine M.F Tryz.func101 ?_;(repeat' first|refine M.gw ?_|refine M.c2 (h1) ?_|refine M.c2 (h2) ?_|fail);simp[zj,V.wk,V.Ap,za,Ty.view,Tm.view]
theorem PY(t:Ty):PC E 201 [.agg t.view] (.bool t.BI):=by
 refine M.F Tryz.func201 ?_;(repeat' first|refine M.gw ?_|refine M.gs ?_ ?_<;>intro h|fail);all_goals simp_all[zj,V.wk,V.Ap,za,Ty.BI]
 rw[Bool.eq_iff_iff];simp
theorem Yfw(k:Int):PC E 199 [.i k] (.bool (wg k)):=by
 refine M.F Tryz.func199 ?_;(repeat' first|refine M.gw ?_|refine M.gs ?_ ?_<;>intro h|fail);all_goals simp_all[zj,V.wk,V.Ap,za,wg]
theorem QB(t:Ty)(ht:t.size<1099511627776):PC E 200 [.agg t.view] (.Az [.i t.num,.i t.err]):=by
 have h1:=Zpp _ t (Nat.le_refl _) ht;refine M.F Tryz.func200 ?_;(repeat' first|refine M.gw ?_|refine M.c2 (h1) ?_|refine M.zb ?_|refine M.cs ?_ ?_<;>intro h|fail);all_goals simp_all[zj,V.wk,V.Ap,za,Ty.num,Ty.err,Ty.nodes]
 all_goals(first|omega|(split<;>first|omega|simp_all))
theorem Yf6(k:Int):PC E 198 [.i k] (.Az [.i ((CV k).getD 0),.bool (CV k).isSome]):=by
 refine M.F Tryz.func198 ?_;(repeat' first|refine M.gw ?_|refine M.gs ?_ ?_<;>intro h|refine M.cs ?_ ?_<;>intro h|fail)
 ·have:CV k=none:=by simp at h;simp only[CV];(repeat' rw[if_neg (by omega)])
  simp[this,zj,V.wk,V.Ap,za]
 ·have:CV k=none:=by simp at h;simp only[CV];(repeat' rw[if_neg (by omega)])
  simp[this,zj,V.wk,V.Ap,za]
 ·rename_i h0;simp at h h0;have:k=1\/k=2\/k=3\/k=4\/k=5\/k=6\/k=7\/k=8\/k=9\/k=10\/k=11\/k=12\/k=13:=by omega
  rcases this with rfl|rfl|rfl|rfl|rfl|rfl|rfl|rfl|rfl|rfl|rfl|rfl|rfl
  ·refine L.CT 1 rfl rfl rfl rfl rfl ?_ ?_ rfl ?_
   ·decide
   ·decide
   (repeat' first|refine M.gw ?_|fail)
   rfl
  ·refine L.CT 2 rfl rfl rfl rfl rfl ?_ ?_ rfl ?_
   ·decide
   ·decide
   (repeat' first|refine M.gw ?_|fail)
   rfl
  ·refine L.CT 3 rfl rfl rfl rfl rfl ?_ ?_ rfl ?_
   ·decide
   ·decide
   (repeat' first|refine M.gw ?_|fail)
   rfl
  ·refine L.CT 4 rfl rfl rfl rfl rfl ?_ ?_ rfl ?_
   ·decide
   ·decide
   (repeat' first|refine M.gw ?_|fail)
   rfl
  ·refine L.CT 5 rfl rfl rfl rfl rfl ?_ ?_ rfl ?_
   ·decide
   ·decide
   (repeat' first|refine M.gw ?_|fail)
   rfl
  ·refine L.CT 6 rfl rfl rfl rfl rfl ?_ ?_ rfl ?_
   ·decide
   ·decide
   (repeat' first|refine M.gw ?_|fail)
   rfl
  ·refine L.CT 7 rfl rfl rfl rfl rfl ?_ ?_ rfl ?_
   ·decide
   ·decide
   (repeat' first|refine M.gw ?_|fail)
   rfl
  ·refine L.CT 8 rfl rfl rfl rfl rfl ?_ ?_ rfl ?_
   ·decide
   ·decide
   (repeat' first|refine M.gw ?_|fail)
   rfl
  ·refine L.CT 9 rfl rfl rfl rfl rfl ?_ ?_ rfl ?_
   ·decide
   ·decide
   (repeat' first|refine M.gw ?_|fail)
   rfl
  ·refine L.CT 10 rfl rfl rfl rfl rfl ?_ ?_ rfl ?_
   ·decide
   ·decide
   (repeat' first|refine M.gw ?_|fail)
   rfl
  ·refine L.CT 11 rfl rfl rfl rfl rfl ?_ ?_ rfl ?_
   ·decide
   ·decide
   (repeat' first|refine M.gw ?_|fail)
   rfl
  ·refine L.CT 12 rfl rfl rfl rfl rfl ?_ ?_ rfl ?_
   ·decide
   ·decide
   (repeat' first|refine M.gw ?_|fail)
   rfl
  ·refine L.CT 13 rfl rfl rfl rfl rfl ?_ ?_ rfl ?_
   ·decide
   ·decide
   (repeat' first|refine M.gw ?_|fail)
   rfl
end Go.Ab
namespace Go.Ab
open Go Go.Proofs
set_option maxRecDepth 100000
set_option maxHeartbeats 4000000
set_option linter.all false
theorem Ih:∀(b:Nat) (t:Tm),t.full<=b->b<1099511627776->PC E 105 [.agg t.view] (.agg t.view):=by
 intro b;induction b with
 |zero=>intro t h;have:=t.Aa;omega
 |succ b ih=>
 intro t hsz hb;have hsz':=Tm.Ag t;have hlen:=zd Tm.full Tm.Aa t.args;have hty:=wv _ t.ty (Nat.le_refl _) (by omega);refine M.F Tryz.func105 ?_;(repeat' first|refine M.gw ?_|fail);refine AW.range t.args.length (fun m=>True)
  (fun m=>([(1,.ptr 0 0),(2,.ptr 1 0),(3,.slice (.own 2) (.t .tm (t.args.take m))),(7,.s .tm t.args),(8,.i t.args.length),(9,.i m)],⟨3,[(0,.var t.view),(1,.var [.i 0,.i 0,.i 0,.slice .nil (.t .ty []),.slice .nil (.t .tm [])]),(2,.row)]⟩))
  (by omega) (fun m=>rfl) (fun m=>rfl) rfl trivial (M.W [some 0,some 1,none]) ?_ ?_
 ·intro m hm hP;have hs2:=zc Tm.full (List.getElem_mem hm);(repeat' first|refine M.gw ?_|refine M.c2 (ih _ ?_ ?_) ?_|exact M.le|exact M.lt|fail);exact⟨rfl,trivial,(M.W [some 0,some 1,some 4] (hf:=(by(repeat'(first|exact trivial|refine And.intro ?_ ?_|refine⟨_,U,_,U,?_⟩|exact An.refl _|exact An.of_eq (by simp[Ao.Ax,List.take_append_getElem])));done)))⟩
 ·intro hP;(repeat' first|refine M.gw ?_|refine M.c2 (hty) ?_|fail);simp[zj,V.wk,V.Ap,za,Ty.view,Tm.view]
theorem CJ(k:Int)(l:List Tm)(hl:(l.map Tm.full).sum<1099511627776):PC E 42 [.i k,.s .tm l] (.agg (Tm.mk k 0 (.mk 0 []) l).view):=by
 have hlen:=zd Tm.full Tm.Aa l;refine M.F Tryz.func42 ?_;(repeat' first|refine M.gw ?_|fail);refine AW.range l.length (fun m=>True)
  (fun m=>([(0,.i k),(4,.ptr 0 0),(5,.slice (.own 1) (.t .tm (l.take m))),(8,.s .tm l),(9,.i l.length),(10,.i m)],⟨2,[(0,.var [.i 0,.i 0,.i 0,.slice .nil (.t .ty []),.slice .nil (.t .tm [])]),(1,.row)]⟩))
  (by omega) (fun m=>rfl) (fun m=>rfl) rfl trivial (M.W [some 0,none]) ?_ ?_
 ·intro m hm hP;have hs2:=zc Tm.full (List.getElem_mem hm);(repeat' first|refine M.gw ?_|refine M.c2 (Ih _ _ (Nat.le_refl _) ?_) ?_|exact M.lt|fail);exact⟨rfl,trivial,(M.W [some 0,some 3] (hf:=(by(repeat'(first|exact trivial|refine And.intro ?_ ?_|refine⟨_,U,_,U,?_⟩|exact An.refl _|exact An.of_eq (by simp[Ao.Ax,List.take_append_getElem])));done)))⟩
 ·intro hP;(repeat' first|refine M.gw ?_|fail);simp[zj,V.wk,V.Ap,za,Ty.view,Tm.view]
theorem FM(k:Int)(s:Ty)(l:List Tm)(hl:(l.map Tm.full).sum<1099511627776)(hs:s.size<1099511627776):PC E 94 [.i k,.agg s.view,.s .tm l] (.agg (Tm.mk k 0 s l).view):=by
 have h1:=CJ k l hl;have h2:=wv _ s (Nat.le_refl _) hs;refine M.F Tryz.func94 ?_;(repeat' first|refine M.gw ?_|refine M.c2 (h1) ?_|refine M.c2 (h2) ?_|fail);simp[zj,V.wk,V.Ap,za,Ty.view,Tm.view]
theorem Ty.EB(t:Ty):t.ok=(t.err==0):=by
 simp only[Ty.ok,Ty.err];cases t.shape
 ·simp
 ·by_cases h:t.size<=64
  ·have:¬t.size>64:=by omega
   simp[h,this]
  ·have:t.size>64:=by omega
   simp[h,this]
theorem Tm.FN(t:Tm):t.head=(!(!(CV t.kind).isSome)&& !((t.args.length:Int) !=(((CV t.kind).getD 0:Nat):Int))&& !decide (t.index<0)&&(!(t.index !=0)|| !(t.kind !=1))&&(bif wg t.kind then !(t.ty.err !=0) else !(!t.ty.BI))):=by
 simp only[Tm.head,Ty.EB];cases hk:CV t.kind with
 |none=>simp
 |some n=>
  have h1:(t.args.length==n)= !((t.args.length:Int) !=((n:Nat):Int)):=by rw[Bool.eq_iff_iff];simp;omega
  have h2:decide (0<=t.index)= !decide (t.index<0):=by rw[Bool.eq_iff_iff];simp
  simp[h1,h2,bne]
theorem Vx:∀(b:Nat) (t:Tm),t.full<=b->b<1099511627776->PC E 149 [.agg t.view] (Jk t):=by
 intro b;induction b with
 |zero=>intro t h;have:=t.Aa;omega
 |succ b ih=>
 intro t hsz hb;have hsz':=Tm.Ag t;have hszz:=Tm.size_eq t;have hle:=Tm.Aj t;have hlen:=zd Tm.full Tm.Aa t.args;have hsh:=Tm.Ak t;have h1:=Yf6 t.kind;have h2:=Yfw t.kind;have h3:=PY t.ty;have h4:=QB t.ty (by omega);have bad:t.shape=false->(V.Az [.i 0,.bool false])=Jk t:=fun h=>by simp[Jk,Tm.nodes,h]
 refine M.F Tryz.func149 ?_;(repeat' first|refine M.gw ?_|refine M.c2 (h1) ?_|refine M.c2 (h2) ?_|refine M.c2 (h3) ?_|refine M.c2 (h4) ?_|refine M.gs ?_ ?_<;>intro h|refine M.cs ?_ ?_<;>intro h|fail);all_goals first
  |(have hd:t.head=false:=by rw[t.FN];simp_all
    have:t.shape=false:=by rw[hsh,hd,Bool.false_and]
    simp[Tm.nodes,this,zj,za,V.wk,V.Ap];done)
  |(have hd:t.head=true:=by rw[t.FN];simp_all
    refine AW.range t.args.length (fun m=>∀j (hj:j<t.args.length),j<m->(t.args[j]).shape=true)
     (fun m=>([(1,.ptr 0 0),(8,.i (1+((t.args.take m).map Tm.size).sum)),(59,.s .tm t.args),(60,.i t.args.length),(61,.i m)],⟨1,[(0,.var t.view)]⟩))
     (by omega) (fun m=>rfl) (fun m=>rfl) rfl (by intro j hj h;omega) (M.W [some 0]) ?_ ?_
    ·intro m hm hP;have hs1:=yl Tm.size t.args m hm;have hs2:=zc Tm.full (List.getElem_mem hm);have hs3:=zn Tm.size t.args (m+1);have hs4:=Tm.DL t.args[m];have hs5:=Tm.Aj t.args[m];(repeat' first|refine M.gw ?_|refine M.c2 (ih _ ?_ ?_) ?_|refine M.cs ?_ ?_<;>intro h|exact M.le|exact M.lt|fail)
     ·have h1:(t.args[m]).shape=false:=by simpa using h
      have:t.shape=false:=by rw[hsh,vh Tm.shape hm h1,Bool.and_false]
      simp[Tm.nodes,this,zj,za,V.wk,V.Ap]
     ·have hh:(t.args[m]).shape=true:=by simpa using h
      refine⟨rfl,yc (p:=fun t=>Tm.shape t=true) hm hP hh,?_⟩;have e:(1+((((t.args.take (m+1)).map Tm.size).sum:Nat):Int))=1+(((t.args.take m).map Tm.size).sum:Nat)+t.args[m].nodes:=by simp only[Tm.nodes,hh,hs1];simp;omega
      simp only[e];exact(M.W [some 0])
    ·intro hP;have:t.shape=true:=by simp only[hsh,hd,Fk Tm.shape t.args fun j hj=>hP j hj hj];simp
     (repeat' first|refine M.gw ?_|fail);simp[Tm.nodes,this,zj,za,hszz,V.wk,V.Ap])
theorem LU(t:Tm)(ht:t.full<1099511627776):PC E 86 [.agg t.view] (.Az [.i t.num,.i t.err]):=by
 have h1:=Vx _ t (Nat.le_refl _) ht;refine M.F Tryz.func86 ?_;(repeat' first|refine M.gw ?_|refine M.c2 (h1) ?_|refine M.zb ?_|refine M.cs ?_ ?_<;>intro h|fail);all_goals simp_all[zj,V.wk,V.Ap,za,Tm.num,Tm.err,Tm.nodes]
 all_goals(first|omega|(split<;>first|omega|simp_all))
theorem Yh6(t:Tm)(ht:t.full<1099511627776):PC E 82 [.agg t.view] (.Az [.i t.num,.i t.err]):=by
 have h1:=LU t ht;refine M.F Tryz.func82 ?_;(repeat' first|refine M.gw ?_|refine M.c2 (h1) ?_|fail);simp[zj,V.wk,V.Ap,za,Ty.view,Tm.view]
end Go.Ab
namespace Go.Ab
open Go Go.Proofs
set_option maxRecDepth 100000
set_option linter.all false
theorem xr:∀(n:Nat) (x y:Ty),x.size<=n->n<1099511627776->PC E 49 [.agg x.view,.agg y.view] (.bool (decide (x=y))):=by
 intro n;induction n with
 |zero=>intro x y h;have:=x.size_pos;omega
 |succ n ih=>
 intro x y hsz hb;have hsz':=Ty.size_eq x;have hlen:=zd Ty.size Ty.size_pos x.args;have heq:=Ty.eq_iff x y;refine M.F Tryz.func49 ?_;(repeat' first|refine M.gw ?_|refine M.gs ?_ ?_<;>intro h|refine M.cs ?_ ?_<;>intro h|fail)
 ·have:¬x=y:=by rw[heq];simp_all
  simp[this,zj,za,V.wk,V.Ap]
 ·have:¬x=y:=by rintro rfl;simp at h
  simp[this,zj,za,V.wk,V.Ap]
 ·rename_i hk;simp at h hk;have hl:x.args.length=y.args.length:=by omega
  refine AW.range x.args.length (fun m=>∀j (hj:j<x.args.length),j<m->x.args[j]=y.args[j]'(by omega))
   (fun m=>([(2,.ptr 0 0),(3,.ptr 1 0),(22,.i x.args.length),(23,.i m)],⟨2,[(0,.var x.view),(1,.var y.view)]⟩))
   (by omega) (fun m=>rfl) (fun m=>rfl) rfl (by intro j hj h;omega) (M.W [some 0,some 1]) ?_ ?_
  ·intro m hm hP;have hm':m<y.args.length:=by omega
   have hs2:=zc Ty.size (List.getElem_mem hm);(repeat' first|refine M.gw ?_|refine M.c2 (ih _ _ ?_ ?_) ?_|refine M.cs ?_ ?_<;>intro h|exact M.le|exact M.lt|fail)
   ·have:¬x=y:=by rw[heq];exact fun hc=>W4 hm hm' (by simpa using h) hc.2
    simp[this,zj,za,V.wk,V.Ap]
   ·exact ⟨rfl,U8 hl hm hP (by simpa using h),(M.W [some 0,some 1])⟩
  ·intro hP;have:x=y:=heq.2 ⟨hk,Um hl hP⟩;(repeat' first|refine M.gw ?_|fail);simp[this,zj,za,V.wk,V.Ap]
theorem RQ:∀(n:Nat) (x y:Tm),x.full<=n->n<1099511627776->PC E 116 [.agg x.view,.agg y.view] (.bool (decide (x=y))):=by
 intro n;induction n with
 |zero=>intro x y h;have:=x.Aa;omega
 |succ n ih=>
 intro x y hsz hb;have hsz':=Tm.Ag x;have hlen:=zd Tm.full Tm.Aa x.args;have heq:=Tm.eq_iff x y;have hty:=xr _ x.ty y.ty (Nat.le_refl _) (by omega);refine M.F Tryz.func116 ?_;(repeat' first|refine M.gw ?_|refine M.c2 (hty) ?_|refine M.gs ?_ ?_<;>intro h|refine M.cs ?_ ?_<;>intro h|fail)
 ·have:¬x=y:=by rw[heq];simp_all
  simp[this,zj,za,V.wk,V.Ap]
 ·have:¬x=y:=by rw[heq];simp_all
  simp[this,zj,za,V.wk,V.Ap]
 ·have:¬x=y:=by rw[heq];simp_all
  simp[this,zj,za,V.wk,V.Ap]
 ·have:¬x=y:=by rintro rfl;simp at h
  simp[this,zj,za,V.wk,V.Ap]
 ·rename_i h1 h2 h3;simp at h h1 h2 h3;have hl:x.args.length=y.args.length:=by omega
  refine AW.range x.args.length (fun m=>∀j (hj:j<x.args.length),j<m->x.args[j]=y.args[j]'(by omega))
   (fun m=>([(2,.ptr 0 0),(3,.ptr 1 0),(37,.i x.args.length),(38,.i m)],⟨2,[(0,.var x.view),(1,.var y.view)]⟩))
   (by omega) (fun m=>rfl) (fun m=>rfl) rfl (by intro j hj h;omega) (M.W [some 0,some 1]) ?_ ?_
  ·intro m hm hP;have hm':m<y.args.length:=by omega
   have hs2:=zc Tm.full (List.getElem_mem hm);(repeat' first|refine M.gw ?_|refine M.c2 (ih _ _ ?_ ?_) ?_|refine M.cs ?_ ?_<;>intro h|exact M.le|exact M.lt|fail)
   ·have:¬x=y:=by rw[heq];exact fun hc=>W4 hm hm' (by simpa using h) hc.2.2.2
    simp[this,zj,za,V.wk,V.Ap]
   ·exact ⟨rfl,U8 hl hm hP (by simpa using h),(M.W [some 0,some 1])⟩
  ·intro hP;have:x=y:=heq.2 ⟨h1,h2,h3,Um hl hP⟩;(repeat' first|refine M.gw ?_|fail);simp[this,zj,za,V.wk,V.Ap]
def ES(b:Bool)(l:List (Int×Int)):Bool:=b&&l.all fun p=>decide (p.1<=536870912)
theorem Znf(b:Bool)(l l':List (Int×Int)):ES (ES b l) l'=ES b (l++l'):=by simp[ES,Bool.and_assoc]
theorem Vc(b:Bool):ES b []=b:=by simp[ES]
theorem Yie(b:Bool)(i bl:Int):AC E 146 [.i i,.i bl,.ptr 0 0] ⟨1,[(0,.var [.bool b])]⟩ (.Az []) ⟨1,[(0,.var [.bool (ES b [(i,bl)])])]⟩:=by
 refine M.F Tryz.func146 ?_;(repeat' first|refine M.gw ?_|refine M.gs ?_ ?_<;>intro h|fail)
 ·(exact M.n2 [some 0] (h6:=(by(repeat'(first|exact trivial|refine And.intro ?_ ?_|refine⟨_,U,_,U,_,U,?_⟩|exact An.of_eq (by simp[Ao.Ax,ES,h])));done)) (h8:=(by simp[zj,V.wk,V.Ap,za,Ty.view,Tm.view,ES,h])))
 ·(exact M.n2 [some 0] (h6:=(by(repeat'(first|exact trivial|refine And.intro ?_ ?_|refine⟨_,U,_,U,_,U,?_⟩|exact An.of_eq (by simp[Ao.Ax,ES,h])));done)) (h8:=(by simp[zj,V.wk,V.Ap,za,Ty.view,Tm.view,ES,h])))
theorem Zwj:∀(n:Nat) (t:Tm) (b:Bool) (bl:Int),t.full<=n->n<1099511627776->0<=bl->bl+n<1099511627776->AC E 197 [.agg t.view,.i bl,.ptr 0 0,.ptr 1 0] ⟨3,[(0,.var [.fn (.func 146) [] [.ptr 2 0]]),(1,.var [.fn (.func 197) [] [.ptr 0 0,.ptr 1 0]]),(2,.var [.bool b])]⟩ (.Az [])
 ⟨3,[(0,.var [.fn (.func 146) [] [.ptr 2 0]]),(1,.var [.fn (.func 197) [] [.ptr 0 0,.ptr 1 0]]),(2,.var [.bool (ES b (t.vars bl))])]⟩:=by
 intro n;induction n with
 |zero=>intro t b bl h;have:=t.Aa;omega
 |succ n ih=>
 intro t b bl hsz hb hbl hbn;have hsz':=Tm.Ag t;have hlen:=zd Tm.full Tm.Aa t.args;have hv:=Tm.AQ bl t;refine M.F Tryz.func197 ?_;(repeat' first|refine M.gw ?_|refine M.cv (Yie _ _ _) [2] 0 ?_|refine M.cs ?_ ?_<;>intro h|fail);all_goals
  have hup:up t.kind bl<=bl+1:=by simp only[up];split<;>omega
  have hup0:0<=up t.kind bl:=by simp only[up];split<;>omega
  refine AW.range t.args.length (fun m=>True)
   (fun m=>([(1,.i (up t.kind bl)),(3,.ptr 1 0),(22,.s .tm t.args),(23,.i t.args.length),(24,.i m)],⟨4,[(0,.var [.fn (.func 146) [] [.ptr 2 0]]),(1,.var [.fn (.func 197) [] [.ptr 0 0,.ptr 1 0]]),(2,.var [.bool (ES b ((if t.kind=1 then [(t.index,bl)] else [])++(t.args.take m).flatMap (Tm.vars (up t.kind bl))))]),(3,.var t.view)]⟩))
   (by omega) (fun m=>rfl) (fun m=>rfl) rfl trivial ?_ ?_ ?_
  ·simp_all only[beq_iff_eq,beq_eq_false_iff_ne,ne_eq];exact(M.W [some 0,some 1,some 2,some 3] (hf:=(by(repeat'(first|exact trivial|refine And.intro ?_ ?_|refine⟨_,U,_,U,?_⟩|exact An.refl _|exact An.of_eq (by simp[Ao.Ax,up, *,Vc])));done)) (he:=(by(repeat'(first|exact trivial|refine And.intro ?_ ?_|refine⟨_,U,_,U,_,U,?_⟩|exact An.refl _|exact An.of_eq (by simp[Ao.Ax,up, *,Vc])));done)))
  ·intro m hm hP;have hs2:=zc Tm.full (List.getElem_mem hm);have hc:=ih t.args[m] (ES b ((if t.kind=1 then [(t.index,bl)] else [])++(t.args.take m).flatMap (Tm.vars (up t.kind bl)))) (up t.kind bl) (by omega) (by omega) hup0 (by omega);(repeat' first|refine M.gw ?_|refine M.cv (hc) [0,1,2] 0 ?_|fail);refine⟨rfl,trivial,?_⟩;exact(M.W [some 0,some 1,some 2,some 3] (he:=(by(repeat'(first|exact trivial|refine And.intro ?_ ?_|refine⟨_,U,_,U,_,U,?_⟩|exact An.refl _|exact An.of_eq (by simp[Ao.Ax,Znf,Ky _ _ _ hm])));done)))
  ·intro hP;skip
   (exact M.n2 [some 0,some 1,some 2] (h6:=(by(repeat'(first|exact trivial|refine And.intro ?_ ?_|refine⟨_,U,_,U,_,U,?_⟩|exact An.refl _|exact An.of_eq (by simp[Ao.Ax,hv])));done)) (h8:=(by simp[zj,V.wk,V.Ap,za,Ty.view,Tm.view,hv])))
theorem Ycj(t:Tm)(b:Bool)(ht:t.full<1099511627776):AC E 145 [.agg t.view,.fn (.func 146) [] [.ptr 0 0]] ⟨1,[(0,.var [.bool b])]⟩ (.Az []) ⟨1,[(0,.var [.bool (ES b (t.vars 0))])]⟩:=by
 have hc:=Zwj _ t b 0 (Nat.le_refl _) (by omega) (by omega) (by omega);refine M.F Tryz.func145 ?_;(repeat' first|refine M.gw ?_|refine M.cv (hc) [2,3,0] 0 ?_|fail)
 (exact M.n2 [some 0] (h8:=(by simp[zj,V.wk,V.Ap,za,Ty.view,Tm.view,ES])))
theorem M7(t:Tm)(ht:t.full<1099511627776):PC E 83 [.agg t.view] (.bool t.near):=by
 have hc:=Ycj t true ht;refine M.F Tryz.func83 ?_;(repeat' first|refine M.gw ?_|refine M.cb (hc) [1] 0 ?_|fail);simp[zj,V.wk,V.Ap,ES,Tm.near]
theorem Ygm(at_ c i bl:Int)(hc:0<=c/\c<1099511627776)(hi:0<=i/\i<9223372036854775808)(hb:0<=bl/\bl<1099511627776):AC E 150 [.i i,.i bl,.ptr 0 0,.ptr 1 0] ⟨2,[(0,.var [.i at_]),(1,.var [.i c])]⟩ (.Az []) ⟨2,[(0,.var [.i at_]),(1,.var [.i (c+cnt at_ [(i,bl)])])]⟩:=by
 refine M.F Tryz.func150 ?_;(repeat' first|refine M.gw ?_|refine M.cs ?_ ?_<;>intro h|fail)
 ·have:i-bl=at_:=by simpa using h
  (exact M.n2 [some 0,some 1] (h6:=(by(repeat'(first|exact trivial|refine And.intro ?_ ?_|refine⟨_,U,_,U,_,U,?_⟩|exact An.refl _|exact An.of_eq (by simp[Ao.Ax,HL,this])));done)) (h8:=(by simp[zj,V.wk,V.Ap,za,Ty.view,Tm.view,HL,this])))
 ·have:¬i-bl=at_:=by simpa using h
  (exact M.n2 [some 0,some 1] (h6:=(by(repeat'(first|exact trivial|refine And.intro ?_ ?_|refine⟨_,U,_,U,_,U,?_⟩|exact An.refl _|exact An.of_eq (by simp[Ao.Ax,HL,this])));done)) (h8:=(by simp[zj,V.wk,V.Ap,za,Ty.view,Tm.view,HL,this])))
theorem Zta(at_:Int):∀(n:Nat) (t:Tm) (c:Int) (bl:Int),t.full<=n->n<1099511627776->0<=bl->bl+n<1099511627776->0<=c->c+t.full<1099511627776->(∀p∈t.vars bl,0<=p.1/\p.1<9223372036854775808)->AC E 197 [.agg t.view,.i bl,.ptr 0 0,.ptr 1 0] ⟨4,[(0,.var [.fn (.func 150) [] [.ptr 2 0,.ptr 3 0]]),(1,.var [.fn (.func 197) [] [.ptr 0 0,.ptr 1 0]]),(2,.var [.i at_]),(3,.var [.i c])]⟩ (.Az [])
 ⟨4,[(0,.var [.fn (.func 150) [] [.ptr 2 0,.ptr 3 0]]),(1,.var [.fn (.func 197) [] [.ptr 0 0,.ptr 1 0]]),(2,.var [.i at_]),(3,.var [.i (c+cnt at_ (t.vars bl))])]⟩:=by
 intro n;induction n with
 |zero=>intro t b bl h;have:=t.Aa;omega
 |succ n ih=>
 intro t c bl hsz hb hbl hbn hc0 hcn hix;have hsz':=Tm.Ag t;have hlen:=zd Tm.full Tm.Aa t.args;have hv:=Tm.AQ bl t;have hi:t.kind=1->0<=t.index/\t.index<9223372036854775808:=fun h=>by simpa using hix (t.index,bl) (by rw[hv];simp[h])
 have hcb:t.kind=1->_:=fun h=>Ygm at_ c t.index bl (by omega) (hi h) (by omega);refine M.F Tryz.func197 ?_;(repeat' first|refine M.gw ?_|refine M.cv (hcb (by simpa using h)) [2,3] 0 ?_|refine M.cs ?_ ?_<;>intro h|fail);all_goals
  have hup:up t.kind bl<=bl+1:=by simp only[up];split<;>omega
  have hup0:0<=up t.kind bl:=by simp only[up];split<;>omega
  refine AW.range t.args.length (fun m=>True)
   (fun m=>([(1,.i (up t.kind bl)),(3,.ptr 1 0),(22,.s .tm t.args),(23,.i t.args.length),(24,.i m)],⟨5,[(0,.var [.fn (.func 150) [] [.ptr 2 0,.ptr 3 0]]),(1,.var [.fn (.func 197) [] [.ptr 0 0,.ptr 1 0]]),(2,.var [.i at_]),(3,.var [.i (c+cnt at_ ((if t.kind=1 then [(t.index,bl)] else [])++(t.args.take m).flatMap (Tm.vars (up t.kind bl))))]),(4,.var t.view)]⟩))
   (by omega) (fun m=>rfl) (fun m=>rfl) rfl trivial ?_ ?_ ?_
  ·simp_all only[beq_iff_eq,beq_eq_false_iff_ne,ne_eq];exact(M.W [some 0,some 1,some 2,some 3,some 4] (hf:=(by(repeat'(first|exact trivial|refine And.intro ?_ ?_|refine⟨_,U,_,U,?_⟩|exact An.refl _|exact An.of_eq (by simp[Ao.Ax,up, *,vk,cnt])));done)) (he:=(by(repeat'(first|exact trivial|refine And.intro ?_ ?_|refine⟨_,U,_,U,_,U,?_⟩|exact An.refl _|exact An.of_eq (by simp[Ao.Ax,up, *,vk,cnt])));done)))
  ·intro m hm hP;have hs2:=zc Tm.full (List.getElem_mem hm);have hs3:cnt at_ ((if t.kind=1 then [(t.index,bl)] else [])++(t.args.take m).flatMap (Tm.vars (up t.kind bl)))+t.args[m].full<=1+(t.args.map Tm.full).sum:=by
    have h1:=MV at_ ((if t.kind=1 then [(t.index,bl)] else [])++(t.args.take m).flatMap (Tm.vars (up t.kind bl)));have h2:=UX (t.args.take m) (Tm.vars (up t.kind bl)) fun x _=>x.CH _;have h3:((t.args.take m).map Tm.size).sum<=((t.args.take m).map Tm.full).sum:=y0 _ (fun x _=>x.Aj);have h4:=yl Tm.full t.args m hm;have h5:=zn Tm.full t.args (m+1);have h6:(if t.kind=1 then [(t.index,bl)] else []).length<=1:=by split<;>simp
    simp only[List.length_append] at h1;omega
   have hix':∀p∈(t.args[m]).vars (up t.kind bl),0<=p.1/\p.1<9223372036854775808:=fun p hp=>hix p (by rw[hv];exact List.mem_append_right _ (List.mem_flatMap.2 ⟨_,List.getElem_mem hm,hp⟩));have hc:=ih t.args[m] (c+cnt at_ ((if t.kind=1 then [(t.index,bl)] else [])++(t.args.take m).flatMap (Tm.vars (up t.kind bl)))) (up t.kind bl) (by omega) (by omega) hup0 (by omega) (by omega) (by omega) hix';(repeat' first|refine M.gw ?_|refine M.cv (hc) [0,1,2,3] 0 ?_|fail);refine⟨rfl,trivial,?_⟩;exact(M.W [some 0,some 1,some 2,some 3,some 4] (he:=(by(repeat'(first|exact trivial|refine And.intro ?_ ?_|refine⟨_,U,_,U,_,U,?_⟩|exact An.refl _|exact An.of_eq (by simp[Ao.Ax,vk,Ky _ _ _ hm,Int.add_assoc])));done)))
  ·intro hP;skip
   (exact M.n2 [some 0,some 1,some 2,some 3] (h6:=(by(repeat'(first|exact trivial|refine And.intro ?_ ?_|refine⟨_,U,_,U,_,U,?_⟩|exact An.refl _|exact An.of_eq (by simp[Ao.Ax,hv])));done)) (h8:=(by simp[zj,V.wk,V.Ap,za,Ty.view,Tm.view,hv])))
theorem Zxf(t:Tm)(at_:Int)(ht:t.full<549755813888)(hix:∀p∈t.vars 0,0<=p.1/\p.1<9223372036854775808):AC E 145 [.agg t.view,.fn (.func 150) [] [.ptr 0 0,.ptr 1 0]] ⟨2,[(0,.var [.i at_]),(1,.var [.i 0])]⟩ (.Az []) ⟨2,[(0,.var [.i at_]),(1,.var [.i (cnt at_ (t.vars 0))])]⟩:=by
 have hc:=Zta at_ _ t 0 0 (Nat.le_refl _) (by omega) (by omega) (by omega) (by omega) (by omega) hix;refine M.F Tryz.func145 ?_;(repeat' first|refine M.gw ?_|refine M.cv (hc) [3,4,0,1] 0 ?_|fail)
 (exact M.n2 [some 0,some 1] (h6:=(by(repeat'(first|exact trivial|refine And.intro ?_ ?_|refine⟨_,U,_,U,_,U,?_⟩|exact An.refl _|exact An.of_eq (by simp[Ao.Ax,cnt])));done)) (h8:=(by simp[zj,V.wk,V.Ap,za,Ty.view,Tm.view,cnt])))
theorem Yfe(t:Tm)(at_:Int)(ht:t.full<549755813888)(hix:∀p∈t.vars 0,0<=p.1/\p.1<9223372036854775808):PC E 88 [.agg t.view,.i at_] (.i (cnt at_ (t.vars 0))):=by
 have hc:=Zxf t at_ ht hix;refine M.F Tryz.func88 ?_;(repeat' first|refine M.gw ?_|refine M.cb (hc) [1,2] 0 ?_|fail);simp[zj,V.wk,V.Ap]
theorem Xd(t:Tm)(at_:Int)(ht:t.full<549755813888)(hix:∀p∈t.vars 0,0<=p.1/\p.1<1099511627776):PC E 88 [.agg t.view,.i at_] (.i (cnt at_ (t.vars 0))):=
 Yfe t at_ ht fun p hp=>by have:=hix p hp;omega
theorem Yg5(fr by_ i bl:Int)(hi:0<=i/\i<549755813888)(hb:0<=bl/\bl<1099511627776)(hy: -1099511627776<=by_/\by_<1099511627776):AC E 193 [.i i,.i bl,.ptr 0 0,.ptr 1 0] ⟨2,[(0,.var [.i fr]),(1,.var [.i by_])]⟩ (.agg (zl fr by_ i bl).view) ⟨2,[(0,.var [.i fr]),(1,.var [.i by_])]⟩:=by
 have hv:=Sx;refine M.F Tryz.func193 ?_;(repeat' first|refine M.gw ?_|refine M.c2 (hv _) ?_|refine M.cs ?_ ?_<;>intro h|fail)
 ·have h':fr<=i-bl:=by simpa using h
  (exact M.n2 [some 0,some 1] (h8:=(by simp[zj,V.wk,V.Ap,za,Ty.view,Tm.view,zl,h'])))
 ·have h':¬fr<=i-bl:=by simpa using h
  (exact M.n2 [some 0,some 1] (h8:=(by simp[zj,V.wk,V.Ap,za,Ty.view,Tm.view,zl,h'])))
theorem Yfn(fr by_:Int)(hy: -1099511627776<=by_/\by_<1099511627776):∀(n:Nat) (t:Tm) (bl:Int),t.full<=n->n<549755813888->0<=bl->bl+n<549755813888->(∀p∈t.vars bl,0<=p.1/\p.1<549755813888)->AC E 233 [.agg t.view,.i bl,.ptr 0 0,.ptr 1 0] ⟨4,[(0,.var [.fn (.func 193) [] [.ptr 2 0,.ptr 3 0]]),(1,.var [.fn (.func 233) [] [.ptr 0 0,.ptr 1 0]]),(2,.var [.i fr]),(3,.var [.i by_])]⟩ (.agg (t.re (zl fr by_) bl).view) ⟨4,[(0,.var [.fn (.func 193) [] [.ptr 2 0,.ptr 3 0]]),(1,.var [.fn (.func 233) [] [.ptr 0 0,.ptr 1 0]]),(2,.var [.i fr]),(3,.var [.i by_])]⟩:=by
 intro n;induction n with
 |zero=>intro t bl h;have:=t.Aa;omega
 |succ n ih=>
 intro t bl hsz hb hbl hbn hix;have hsz':=Tm.Ag t;have hlen:=zd Tm.full Tm.Aa t.args;have hv:=Tm.AQ bl t;have hre:=Tm.Bj (zl fr by_) bl t;have hi:t.kind=1->0<=t.index/\t.index<549755813888:=fun h=>by simpa using hix (t.index,bl) (by rw[hv];simp[h])
 have hcb:t.kind=1->_:=fun h=>Yg5 fr by_ t.index bl (hi h) (by omega) hy;have hown:=GB _ t.ty (Nat.le_refl _) (by omega);refine M.F Tryz.func233 ?_;(repeat' first|refine M.gw ?_|refine M.cv (hcb (by simpa using h)) [2,3] 0 ?_|refine M.c2 (hown) ?_|refine M.cs ?_ ?_<;>intro h|fail)
 ·have hk:t.kind=1:=by simpa using h
  (exact M.n2 [some 0,some 1,some 2,some 3] (h8:=(by simp[zj,V.wk,V.Ap,za,Ty.view,Tm.view,hre,hk])))
 all_goals
  rename_i hk1;have hup:up t.kind bl<=bl+1:=by simp only[up];split<;>omega
  have hup0:0<=up t.kind bl:=by simp only[up];split<;>omega
  have hk1':¬t.kind=1:=by simpa using hk1
  refine AW.range t.args.length (fun m=>True)
   (fun m=>([(1,.i (up t.kind bl)),(3,.ptr 1 0),(6,.ptr 5 0),(7,.ptr 6 0),(32,.s .tm t.args),(33,.i t.args.length),(34,.i m)],⟨8,[(0,.var [.fn (.func 193) [] [.ptr 2 0,.ptr 3 0]]),(1,.var [.fn (.func 233) [] [.ptr 0 0,.ptr 1 0]]),(2,.var [.i fr]),(3,.var [.i by_]),(4,.var t.view),(5,.var [.i 0,.i 0,.i 0,.slice .nil (.t .ty []),.slice .nil (.t .tm [])]),(6,.var [.i t.kind,.i t.index,.i t.ty.kind,.s .ty t.ty.args,.slice (.own 7) (.t .tm ((t.args.take m).map (Tm.re (zl fr by_) (up t.kind bl))))]),(7,.row)]⟩))
   (by omega) (fun m=>rfl) (fun m=>rfl) rfl trivial ?_ ?_ ?_
  ·simp_all only[beq_iff_eq,beq_eq_false_iff_ne,ne_eq];exact(M.W [some 0,some 1,some 2,some 3,some 4,some 5,some 6,none] (hf:=(by(repeat'(first|exact trivial|refine And.intro ?_ ?_|refine⟨_,U,_,U,?_⟩|exact An.refl _|exact An.of_eq (by simp[Ao.Ax,up, *])));done)))
  ·intro m hm hP;have hs2:=zc Tm.full (List.getElem_mem hm);have hix':∀p∈(t.args[m]).vars (up t.kind bl),0<=p.1/\p.1<549755813888:=fun p hp=>hix p (by rw[hv];exact List.mem_append_right _ (List.mem_flatMap.2 ⟨_,List.getElem_mem hm,hp⟩));have hc:=ih t.args[m] (up t.kind bl) (by omega) (by omega) hup0 (by omega) hix';(repeat' first|refine M.gw ?_|refine M.cv (hc) [0,1,2,3] 0 ?_|fail);refine⟨rfl,trivial,?_⟩;exact(M.W [some 0,some 1,some 2,some 3,some 4,some 5,some 6,some 9] (he:=(by(repeat'(first|exact trivial|exact Or.inr ⟨_,U,rfl⟩|refine And.intro ?_ ?_|refine⟨_,U,_,U,_,U,?_⟩|exact An.refl _|exact An.of_eq (by simp[Ao.Ax,z8 _ _ _ hm])));done)))
  ·intro hP;(repeat' first|refine M.gw ?_|fail)
   (exact M.n2 [some 0,some 1,some 2,some 3] (h8:=(by simp[zj,V.wk,V.Ap,za,Ty.view,Tm.view,hre,hk1'])))
theorem Yjr(fr by_:Int)(hy: -1099511627776<=by_/\by_<1099511627776)(t:Tm)(ht:t.full<274877906944)(hix:∀p∈t.vars 0,0<=p.1/\p.1<549755813888):AC E 192 [.agg t.view,.fn (.func 193) [] [.ptr 0 0,.ptr 1 0]] ⟨2,[(0,.var [.i fr]),(1,.var [.i by_])]⟩ (.agg (t.re (zl fr by_) 0).view) ⟨2,[(0,.var [.i fr]),(1,.var [.i by_])]⟩:=by
 have hc:=Yfn fr by_ hy _ t 0 (Nat.le_refl _) (by omega) (by omega) (by omega) hix;refine M.F Tryz.func192 ?_;(repeat' first|refine M.gw ?_|refine M.cv (hc) [3,5,0,1] 0 ?_|fail)
 (exact M.n2 [some 0,some 1] (h8:=(by simp[zj,V.wk,V.Ap,za,Ty.view,Tm.view,hc])))
theorem Wi(t:Tm)(fr by_:Int)(hy: -1099511627776<=by_/\by_<1099511627776)(ht:t.full<274877906944)(hix:∀p∈t.vars 0,0<=p.1/\p.1<549755813888):PC E 142 [.agg t.view,.i fr,.i by_] (.agg (t.re (zl fr by_) 0).view):=by
 have hc:=Yjr fr by_ hy t ht hix;refine M.F Tryz.func142 ?_;(repeat' first|refine M.gw ?_|refine M.cb (hc) [1,2] 0 ?_|fail);simp[zj,V.wk,V.Ap,za,Ty.view,Tm.view]
theorem Ylr(at_:Int)(s:Tm)(i bl:Int)(hat:0<=at_/\at_<549755813888)(hs:s.full<274877906944)(hsi:∀p∈s.vars 0,0<=p.1/\p.1<549755813888)(hi:0<=i/\i<9223372036854775808)(hb:0<=bl/\bl<549755813888):AC E 204 [.i i,.i bl,.ptr 0 0,.ptr 1 0] ⟨2,[(0,.var [.i at_]),(1,.var s.view)]⟩ (.agg (xd at_ s i bl).view) ⟨2,[(0,.var [.i at_]),(1,.var s.view)]⟩:=by
 have hv:=Sx;have hl:=Wi s 0 (at_+bl) (by omega) hs hsi;refine M.F Tryz.func204 ?_;(repeat' first|refine M.gw ?_|refine M.c2 (hv _) ?_|refine M.c2 (hl) ?_|refine M.bl ?_|refine M.cs ?_ ?_<;>intro h|fail)
 ·have h':i-bl=at_:=by simpa using h
  (exact M.n2 [some 0,some 1] (h8:=(by simp[zj,V.wk,V.Ap,za,Ty.view,Tm.view,xd,h'])))
 ·rename_i h0;have h0':¬i-bl=at_:=by simpa using h0
  have h':at_<i-bl:=by simpa using h
  (exact M.n2 [some 0,some 1] (h8:=(by simp[zj,V.wk,V.Ap,za,Ty.view,Tm.view,xd,h',h0'])))
 ·rename_i h0;have h0':¬i-bl=at_:=by simpa using h0
  have h':¬at_<i-bl:=by simpa using h
  (exact M.n2 [some 0,some 1] (h8:=(by simp[zj,V.wk,V.Ap,za,Ty.view,Tm.view,xd,h',h0'])))
theorem Yit(at_:Int)(s:Tm)(hat:0<=at_/\at_<549755813888)(hs:s.full<274877906944)(hsi:∀p∈s.vars 0,0<=p.1/\p.1<549755813888):∀(n:Nat) (t:Tm) (bl:Int),t.full<=n->n<549755813888->0<=bl->bl+n<549755813888->(∀p∈t.vars bl,0<=p.1/\p.1<9223372036854775808)->AC E 233 [.agg t.view,.i bl,.ptr 0 0,.ptr 1 0] ⟨4,[(0,.var [.fn (.func 204) [] [.ptr 2 0,.ptr 3 0]]),(1,.var [.fn (.func 233) [] [.ptr 0 0,.ptr 1 0]]),(2,.var [.i at_]),(3,.var s.view)]⟩ (.agg (t.re (xd at_ s) bl).view) ⟨4,[(0,.var [.fn (.func 204) [] [.ptr 2 0,.ptr 3 0]]),(1,.var [.fn (.func 233) [] [.ptr 0 0,.ptr 1 0]]),(2,.var [.i at_]),(3,.var s.view)]⟩:=by
 intro n;induction n with
 |zero=>intro t bl h;have:=t.Aa;omega
 |succ n ih=>
 intro t bl hsz hb hbl hbn hix;have hsz':=Tm.Ag t;have hlen:=zd Tm.full Tm.Aa t.args;have hv:=Tm.AQ bl t;have hre:=Tm.Bj (xd at_ s) bl t;have hi:t.kind=1->0<=t.index/\t.index<9223372036854775808:=fun h=>by simpa using hix (t.index,bl) (by rw[hv];simp[h])
 have hcb:t.kind=1->_:=fun h=>Ylr at_ s t.index bl hat hs hsi (hi h) (by omega);have hown:=GB _ t.ty (Nat.le_refl _) (by omega);refine M.F Tryz.func233 ?_;(repeat' first|refine M.gw ?_|refine M.cv (hcb (by simpa using h)) [2,3] 0 ?_|refine M.c2 (hown) ?_|refine M.cs ?_ ?_<;>intro h|fail)
 ·have hk:t.kind=1:=by simpa using h
  (exact M.n2 [some 0,some 1,some 2,some 3] (h8:=(by simp[zj,V.wk,V.Ap,za,Ty.view,Tm.view,hre,hk])))
 all_goals
  rename_i hk1;have hup:up t.kind bl<=bl+1:=by simp only[up];split<;>omega
  have hup0:0<=up t.kind bl:=by simp only[up];split<;>omega
  have hk1':¬t.kind=1:=by simpa using hk1
  refine AW.range t.args.length (fun m=>True)
   (fun m=>([(1,.i (up t.kind bl)),(3,.ptr 1 0),(6,.ptr 5 0),(7,.ptr 6 0),(32,.s .tm t.args),(33,.i t.args.length),(34,.i m)],⟨8,[(0,.var [.fn (.func 204) [] [.ptr 2 0,.ptr 3 0]]),(1,.var [.fn (.func 233) [] [.ptr 0 0,.ptr 1 0]]),(2,.var [.i at_]),(3,.var s.view),(4,.var t.view),(5,.var [.i 0,.i 0,.i 0,.slice .nil (.t .ty []),.slice .nil (.t .tm [])]),(6,.var [.i t.kind,.i t.index,.i t.ty.kind,.s .ty t.ty.args,.slice (.own 7) (.t .tm ((t.args.take m).map (Tm.re (xd at_ s) (up t.kind bl))))]),(7,.row)]⟩))
   (by omega) (fun m=>rfl) (fun m=>rfl) rfl trivial ?_ ?_ ?_
  ·simp_all only[beq_iff_eq,beq_eq_false_iff_ne,ne_eq];exact(M.W [some 0,some 1,some 2,some 3,some 4,some 5,some 6,none] (hf:=(by(repeat'(first|exact trivial|refine And.intro ?_ ?_|refine⟨_,U,_,U,?_⟩|exact An.refl _|exact An.of_eq (by simp[Ao.Ax,up, *])));done)))
  ·intro m hm hP;have hs2:=zc Tm.full (List.getElem_mem hm);have hix':∀p∈(t.args[m]).vars (up t.kind bl),0<=p.1/\p.1<9223372036854775808:=fun p hp=>hix p (by rw[hv];exact List.mem_append_right _ (List.mem_flatMap.2 ⟨_,List.getElem_mem hm,hp⟩));have hc:=ih t.args[m] (up t.kind bl) (by omega) (by omega) hup0 (by omega) hix';(repeat' first|refine M.gw ?_|refine M.cv (hc) [0,1,2,3] 0 ?_|fail);refine⟨rfl,trivial,?_⟩;exact(M.W [some 0,some 1,some 2,some 3,some 4,some 5,some 6,some 9] (he:=(by(repeat'(first|exact trivial|exact Or.inr ⟨_,U,rfl⟩|refine And.intro ?_ ?_|refine⟨_,U,_,U,_,U,?_⟩|exact An.refl _|exact An.of_eq (by simp[Ao.Ax,z8 _ _ _ hm])));done)))
  ·intro hP;(repeat' first|refine M.gw ?_|fail)
   (exact M.n2 [some 0,some 1,some 2,some 3] (h8:=(by simp[zj,V.wk,V.Ap,za,Ty.view,Tm.view,hre,hk1'])))
theorem Yk8(at_:Int)(s:Tm)(hat:0<=at_/\at_<549755813888)(hs:s.full<274877906944)(hsi:∀p∈s.vars 0,0<=p.1/\p.1<549755813888)(t:Tm)(ht:t.full<274877906944)(hix:∀p∈t.vars 0,0<=p.1/\p.1<9223372036854775808):AC E 192 [.agg t.view,.fn (.func 204) [] [.ptr 0 0,.ptr 1 0]] ⟨2,[(0,.var [.i at_]),(1,.var s.view)]⟩ (.agg (t.re (xd at_ s) 0).view) ⟨2,[(0,.var [.i at_]),(1,.var s.view)]⟩:=by
 have hc:=Yit at_ s hat hs hsi _ t 0 (Nat.le_refl _) (by omega) (by omega) (by omega) hix;refine M.F Tryz.func192 ?_;(repeat' first|refine M.gw ?_|refine M.cv (hc) [3,5,0,1] 0 ?_|fail)
 (exact M.n2 [some 0,some 1] (h8:=(by simp[zj,V.wk,V.Ap,za,Ty.view,Tm.view,hc])))
theorem Yk4(t:Tm)(at_:Int)(s:Tm)(hat:0<=at_/\at_<549755813888)(hs:s.full<274877906944)(hsi:∀p∈s.vars 0,0<=p.1/\p.1<549755813888)(ht:t.full<274877906944)(hix:∀p∈t.vars 0,0<=p.1/\p.1<9223372036854775808):PC E 155 [.agg t.view,.i at_,.agg s.view] (.agg (t.re (xd at_ s) 0).view):=by
 have hc:=Yk8 at_ s hat hs hsi t ht hix;refine M.F Tryz.func155 ?_;(repeat' first|refine M.gw ?_|refine M.cb (hc) [1,2] 0 ?_|fail);simp[zj,V.wk,V.Ap,za,Ty.view,Tm.view]
theorem VX(t:Tm)(at_:Int)(s:Tm)(hat:0<=at_/\at_<549755813888)(hs:s.full<274877906944)(hsi:∀p∈s.vars 0,0<=p.1/\p.1<549755813888)(ht:t.full<274877906944)(hix:∀p∈t.vars 0,0<=p.1/\p.1<549755813888):PC E 155 [.agg t.view,.i at_,.agg s.view] (.agg (t.re (xd at_ s) 0).view):=
 Yk4 t at_ s hat hs hsi ht fun p hp=>by have:=hix p hp;omega
end Go.Ab
namespace Go.Ab
open Go Go.Proofs
set_option maxRecDepth 100000
set_option maxHeartbeats 4000000
set_option linter.all false
theorem Ylb(n k:Int)(hk:0<k/\k<1099511627776):PC E 24 [.i n,.i k] (.i (Km n k)):=by
 have hb1:=Int.tmod_lt_of_pos n hk.1;have hb2:=Yt n k hk.1;refine M.F Tryz.func24 ?_;(repeat' first|refine M.gw ?_|fail)
 rfl
theorem uv(d:Dk)(n:Int)(hd:d.ok)(hn:n<1099511627776):AC E 33 [.ptr 0 0,.i n] ⟨1,[(0,.var d.cells)]⟩ (.i (d.next n).1) ⟨1,[(0,.var (d.next n).2.cells)]⟩:=by
 obtain⟨hd1,hd2⟩:=hd;have hm:¬n<1->∀x,PC E 24 [.i x,.i n] (.i (Km x n)):=fun h x=>Ylb x n ⟨by omega,hn⟩;refine M.F Tryz.func33 ?_;(repeat' first|refine M.gw ?_|refine M.c2 (hm (by simp_all) _) ?_|refine M.gs ?_ ?_<;>intro h|refine M.cs ?_ ?_<;>intro h|fail)
 ·have h':n<1:=by simpa using h
  have e:d.next n=(0,d):=dif_pos (.inl h')
  (exact M.n2 [some 0] (h6:=(by(repeat'(first|exact trivial|refine And.intro ?_ ?_|refine⟨_,U,_,U,_,U,?_⟩|exact An.of_eq (by simp[Ao.Ax,e,Dk.cells])));done)) (h8:=(by simp[zj,V.wk,V.Ap,za,Ty.view,Tm.view,e,Dk.cells])))
 ·have h':d.l.length<=d.at_:=by simp at h;omega
  have e:d.next n=(0,d):=dif_pos (.inr h')
  (exact M.n2 [some 0] (h6:=(by(repeat'(first|exact trivial|refine And.intro ?_ ?_|refine⟨_,U,_,U,_,U,?_⟩|exact An.of_eq (by simp[Ao.Ax,e,Dk.cells])));done)) (h8:=(by simp[zj,V.wk,V.Ap,za,Ty.view,Tm.view,e,Dk.cells])))
 ·rename_i h0;have h':¬(n<1\/d.l.length<=d.at_):=by simp at h h0;omega
  have e:d.next n=(Km (d.l[d.at_]'(by omega)) n,⟨d.l,d.at_+1⟩):=dif_neg h'
  (exact M.n2 [some 0] (h6:=(by(repeat'(first|exact trivial|refine And.intro ?_ ?_|refine⟨_,U,_,U,_,U,?_⟩|exact An.of_eq (by simp[Ao.Ax,e,Dk.cells])));done)) (h8:=(by simp[zj,V.wk,V.Ap,za,Ty.view,Tm.view,e,Dk.cells])))
theorem SU(l:List Int):PC E 8 [.s .int l] (.bool (decide (l.length<=500))):=by
 refine M.F Tryz.func8 ?_;(repeat' first|refine M.gw ?_|fail);simp[zj,V.wk,V.Ap];omega
theorem QX(l:List Int):AC E 9 [.s .int l] ⟨0,[]⟩ (.ptr 0 0) ⟨1,[(0,.var (Dk.mk l 0).cells)]⟩:=by
 refine M.F Tryz.func9 ?_;(repeat' first|refine M.gw ?_|fail)
 (exact M.n2 [some 0] (h8:=(by simp[zj,V.wk,V.Ap,za,Ty.view,Tm.view,Dk.cells])))
end Go.Ab
namespace Go.Ab
open Go Go.Proofs
set_option maxRecDepth 100000
set_option linter.all false
theorem Kr:∀(n:Nat) (k:Int) (d:Dk),k<=n->n<=20->-100<=k->d.ok->AC E 30 [.ptr 0 0,.i k] ⟨1,[(0,.var d.cells)]⟩ (.agg (d.type k.toNat).1.view) ⟨1,[(0,.var (d.type k.toNat).2.cells)]⟩:=by
 intro n;induction n with
 |zero=>
  intro k d hk hn hk' hd;have h1:=uv d 7 hd (by omega);have e:=Dk.Ep k d;refine AC.mk Tryz.func30 rfl rfl rfl rfl rfl (Nat.le_of_ble_eq_true rfl) ?_;repeat'(first|((with_reducible refine D.nil ?_);refine AX.Bd ?_)|((with_reducible refine D.move ?_);refine L.mv U U U ?_)|((with_reducible refine D.assign ?_);refine L.CW U U U ?_)|((with_reducible refine D.bin ?_);first|refine L.sb U U U U (by omega) ?_|refine L.bn U U U U U ?_)|((with_reducible refine D.call ?_);first|(apply L.Ld (h1) [0] 0 rfl;rfl;rfl;rfl;rfl;rfl;rfl;(focus((repeat'(first|exact trivial|refine And.intro ?_ ?_|refine⟨_,U,_,U,_,U,?_⟩|exact An.refl _));done));rfl;rfl;rfl;rfl)|refine L.c2 (v8) U U U U ?_|refine L.c2 (Fe) U U U U ?_|refine L.c2 (Rv) U U U U ?_)|((with_reducible refine D.alloc ?_);refine L.al U U U ?_)|((with_reducible refine D.store ?_);refine L.st U U U U U U U U U ?_)|((with_reducible refine D.aw ?_);first|((with_reducible refine D.blk ?_);refine AW.block ?_)|refine K.sq (AW.AU ?_)|refine K.sq (K.sq ?_)|refine AW.AU ?_|refine AW.BS U ?_|refine AW.Du U (fun h=> ?_) (fun h=> ?_)|refine AW.skip ?_|refine AW.ret ?_)|with_reducible refine K.tN ?_|with_reducible refine K.bN ?_|with_reducible refine K.tR ?_|with_reducible refine K.bR ?_)
  all_goals first
   |(exfalso;simp at*;omega)
   |(simp only[beq_iff_eq,beq_eq_false_iff_ne,ne_eq,decide_eq_true_eq,decide_eq_false_iff_not,gt_iff_lt] at*
     simp[*] at e
     (exact K.n2 [some 0] U U U U U (by(repeat'(first|exact trivial|refine And.intro ?_ ?_|refine⟨_,U,_,U,_,U,?_⟩|exact An.of_eq (by simp[Ao.Ax,e])));done) U (by simp[zj,V.wk,V.Ap,za,Ty.view,Tm.view,e])))
 |succ n ih=>
  intro k d hk hn hk' hd;have h1:=uv d 7 hd (by omega);have e:=Dk.Ep k d;have i1:k>0->_:=fun h=>ih (k-1) (d.next 7).2 (by omega) (by omega) (by omega) (Dk.AE hd 7);have i2:k>0->_:=fun h=>ih (k-1) ((d.next 7).2.type (k-1).toNat).2 (by omega) (by omega) (by omega) (Dk.Bw _ _ (Dk.AE hd 7));have i3:=TB ((d.next 7).2.type (k-1).toNat).1 ((((d.next 7).2.type (k-1).toNat).2).type (k-1).toNat).1 (Dk.Cz _ _ (by omega)) (Dk.Cz _ _ (by omega));have i4:=IW ((d.next 7).2.type (k-1).toNat).1 ((((d.next 7).2.type (k-1).toNat).2).type (k-1).toNat).1 (Dk.Cz _ _ (by omega)) (Dk.Cz _ _ (by omega));refine AC.mk Tryz.func30 rfl rfl rfl rfl rfl (Nat.le_of_ble_eq_true rfl) ?_;repeat'(first|((with_reducible refine D.nil ?_);refine AX.Bd ?_)|((with_reducible refine D.move ?_);refine L.mv U U U ?_)|((with_reducible refine D.assign ?_);refine L.CW U U U ?_)|((with_reducible refine D.bin ?_);first|refine L.sb U U U U (by omega) ?_|refine L.bn U U U U U ?_)|((with_reducible refine D.call ?_);first|(apply L.Ld (h1) [0] 0 rfl;rfl;rfl;rfl;rfl;rfl;rfl;(focus((repeat'(first|exact trivial|refine And.intro ?_ ?_|refine⟨_,U,_,U,_,U,?_⟩|exact An.refl _));done));rfl;rfl;rfl;rfl)|refine L.c2 (v8) U U U U ?_|refine L.c2 (Fe) U U U U ?_|refine L.c2 (Rv) U U U U ?_|(apply L.Ld (i1 (by simp_all)) [0] 0 rfl;rfl;rfl;rfl;rfl;rfl;rfl;(focus((repeat'(first|exact trivial|refine And.intro ?_ ?_|refine⟨_,U,_,U,_,U,?_⟩|exact An.refl _));done));rfl;rfl;rfl;rfl)|(apply L.Ld (i2 (by simp_all)) [0] 0 rfl;rfl;rfl;rfl;rfl;rfl;rfl;(focus((repeat'(first|exact trivial|refine And.intro ?_ ?_|refine⟨_,U,_,U,_,U,?_⟩|exact An.refl _));done));rfl;rfl;rfl;rfl)|refine L.c2 (i3) U U U U ?_|refine L.c2 (i4) U U U U ?_)|((with_reducible refine D.alloc ?_);refine L.al U U U ?_)|((with_reducible refine D.store ?_);refine L.st U U U U U U U U U ?_)|((with_reducible refine D.aw ?_);first|((with_reducible refine D.blk ?_);refine AW.block ?_)|refine K.sq (AW.AU ?_)|refine K.sq (K.sq ?_)|refine AW.AU ?_|refine AW.BS U ?_|refine AW.Du U (fun h=> ?_) (fun h=> ?_)|refine AW.skip ?_|refine AW.ret ?_)|with_reducible refine K.tN ?_|with_reducible refine K.bN ?_|with_reducible refine K.tR ?_|with_reducible refine K.bR ?_)
  all_goals
   simp only[beq_iff_eq,beq_eq_false_iff_ne,ne_eq,decide_eq_true_eq,decide_eq_false_iff_not,gt_iff_lt] at*;simp[*] at e
   (exact K.n2 [some 0] U U U U U (by(repeat'(first|exact trivial|refine And.intro ?_ ?_|refine⟨_,U,_,U,_,U,?_⟩|exact An.of_eq (by simp[Ao.Ax,e])));done) U (by simp[zj,V.wk,V.Ap,za,Ty.view,Tm.view,e]))
theorem Zuw(n:Nat)(hn:n<100000):PC E 121 [.i n] (.agg (Et n).view):=by
 have h1:=CJ 4 [] (by simp);refine M.F Tryz.func121 ?_;(repeat' first|refine M.gw ?_|refine M.c2 (h1) ?_|fail);refine K.sq (AW.down n (fun m=>m<=n)
  (fun m=>([(0,.i m),(2,.ptr 0 0),(3,.ptr 1 0)],⟨2,[(0,.var [.i 0,.i 0,.i 0,.slice .nil (.t .ty []),.slice .nil (.t .tm [])]),(1,.var (Et (n-m)).view)]⟩))
  (by omega) (fun m=>rfl) rfl (Nat.le_refl _) ?_ ?_ ?_)
 ·simp only[Nat.sub_self];exact(M.W [some 0,some 1])
 ·intro m hm hP;have e:Et (n-m)= .mk 5 0 (.mk 0 []) [Et (n-(m+1))]:=by rw[show n-m=(n-(m+1))+1 by omega];rfl
  (repeat' first|refine M.gw ?_|fail);refine⟨rfl,by omega,?_⟩;simp only[e];exact(M.W [some 0,some 1])
 ·intro _;(repeat' first|refine M.gw ?_|fail);simp[zj,V.wk,V.Ap,za,Ty.view,Tm.view]
theorem Ya4(n:Int):PC E 54 [.i n] (.Az [.agg (if 0<=n/\n<4096 then Et n.toNat else A0).view,.i (if n<0 then 1 else if n>=4096 then 4 else 0)]):=by
 have h1:¬n<0->¬n>=4096->PC E 121 [.i n] _:=fun h h'=>by
  have:=Zuw n.toNat (by omega);rw[show((n.toNat:Nat):Int)=n by omega] at this;exact this
 refine M.F Tryz.func54 ?_;(repeat' first|refine M.gw ?_|refine M.c2 (h1 (by simp_all) (by simp_all)) ?_|refine M.cs ?_ ?_<;>intro h|fail)
 ·have h':n<0:=by simpa using h
  have h2:¬(0<=n/\n<4096):=by omega
  simp[zj,V.wk,V.Ap,za,Ty.view,Tm.view,A0,h',h2]
 ·rename_i h0;have h':¬n<0:=by simpa using h0
  have h'':n>=4096:=by simpa using h
  have h2:¬(0<=n/\n<4096):=by omega
  simp[zj,V.wk,V.Ap,za,Ty.view,Tm.view,A0,h',h'',h2]
 ·rename_i h0;have h':¬n<0:=by simpa using h0
  have h'':¬n>=4096:=by simpa using h
  have h2:0<=n/\n<4096:=by omega
  simp[zj,V.wk,V.Ap,za,Ty.view,Tm.view,A0,h',h'',h2]
theorem Ii(g l:List Ty)(h:g.length+l.length<1000000):PC E 95 [.s .ty g,.s .ty l] (.s .ty (g++l)):=by
 refine M.F Tryz.func95 ?_;(repeat' first|refine M.gw ?_|fail);simp[zj,V.wk,V.Ap,za,Ty.view,Tm.view]
theorem G1(t:Tm)(ht:t.full<549755813888):PC E 158 [.agg t.view] (.agg (Tm.mk 2 0 (.mk 1 []) [t]).view):=by
 have h1:=FM 2 (.mk 1 []) [t] (by simp;omega) (by simp[Ty.size_eq]);refine M.F Tryz.func158 ?_;(repeat' first|refine M.gw ?_|refine M.c2 (v8) ?_|refine M.c2 (h1) ?_|fail);simp[zj,V.wk,V.Ap,za,Ty.view,Tm.view]
theorem GP(n:Int):PC E 17 [.i n] (.agg (xn n).view):=by
 have h1:=Ya4 n;refine M.F Tryz.func17 ?_;(repeat' first|refine M.gw ?_|refine M.c2 (h1) ?_|fail);simp[zj,V.wk,V.Ap,za,Ty.view,Tm.view,xn]
theorem Zvo(d:Dk)(hd:d.ok):AC E 35 [.ptr 0 0] ⟨1,[(0,.var d.cells)]⟩ (.s .ty d.ctx.1) ⟨1,[(0,.var d.ctx.2.cells)]⟩:=by
 have h1:=uv d 4 hd (by omega);have hb:=Dk.Bx d 4 (by omega);obtain⟨c,hc⟩:∃c:Nat,(d.next 4).1=c:=⟨(d.next 4).1.toNat,by omega⟩;rw[hc] at h1 hb;have hx:d.ctx=(d.next 4).2.types c:=by simp only[Dk.ctx,hc];rfl
 refine M.F Tryz.func35 ?_;(repeat' first|refine M.gw ?_|refine M.cb (h1) [0] 0 ?_|fail);refine AW.down c (fun m=>m<=c)
  (fun m=>([(0,.ptr 0 0),(3,.slice (.own 1) (.t .ty ((d.next 4).2.types (c-m)).1)),(4,.i m)],⟨2,[(0,.var ((d.next 4).2.types (c-m)).2.cells),(1,.row)]⟩))
  (by omega) (fun m=>rfl) rfl (Nat.le_refl _) ?_ ?_ ?_
 ·simp only[Nat.sub_self];exact(M.W [some 0,none])
 ·intro m hm hP;have e:=Dk.DO (c-(m+1)) (d.next 4).2;rw[show c-(m+1)+1=c-m by omega] at e;have h2:=Kr 1 1 ((d.next 4).2.types (c-(m+1))).2 (by omega) (by omega) (by omega) (Dk.DU _ _ (Dk.AE hd 4));have hl:=Dk.Dh (c-(m+1)) (d.next 4).2;(repeat' first|refine M.gw ?_|refine M.cb (h2) [0] 0 ?_|fail);refine⟨rfl,by omega,?_⟩;simp only[e];exact(M.W [some 0,some 2])
 ·intro _;(repeat' first|refine M.gw ?_|fail)
  (exact M.n2 [some 0] (h6:=(by(repeat'(first|exact trivial|refine And.intro ?_ ?_|refine⟨_,U,_,U,_,U,?_⟩|exact An.of_eq (by simp[Ao.Ax,hx])));done)) (h8:=(by simp[zj,V.wk,V.Ap,za,Ty.view,Tm.view,hx])))
theorem Qj(b f n:Tm)(h:b.full+f.full+n.full<549755813888):PC E 159 [.agg b.view,.agg f.view,.agg n.view] (.agg (Tm.mk 6 0 (.mk 1 []) [b,f,n]).view):=by
 have h1:=FM 6 (.mk 1 []) [b,f,n] (by simp;omega) (by simp[Ty.size_eq]);refine M.F Tryz.func159 ?_;(repeat' first|refine M.gw ?_|refine M.c2 (v8) ?_|refine M.c2 (h1) ?_|fail);simp[zj,V.wk,V.Ap,za,Ty.view,Tm.view]
theorem Ww:PC E 97 [] (.agg Cs.view):=by
 have h0:=Ex 0;have h1:=Ex 1;have h2:=CJ 5 [vT 0] (by simp[Tm.full,Tm.Au,Ty.size,Ty.sizes,vT]);have h3:=G1 (sT (vT 0)) (by simp[Tm.full,Tm.Au,Ty.size,Ty.sizes,vT,sT]);have h4:=G1 (CS (sT (vT 0))) (by simp[Tm.full,Tm.Au,Ty.size,Ty.sizes,vT,sT,CS]);have h5:=Qj (vT 1) H6 (vT 0) (by simp[Tm.full,Tm.Au,Ty.size,Ty.sizes,vT,sT,CS,H6]);have h6:=G1 (E0 (vT 1) H6 (vT 0)) (by simp[Tm.full,Tm.Au,Ty.size,Ty.sizes,vT,sT,CS,H6,E0]);have h7:=G1 (CS (E0 (vT 1) H6 (vT 0))) (by simp[Tm.full,Tm.Au,Ty.size,Ty.sizes,vT,sT,CS,H6,E0]);refine M.F Tryz.func97 ?_;(repeat' first|refine M.gw ?_|refine M.c2 (h0) ?_|refine M.c2 (h1) ?_|refine M.c2 (h2) ?_|refine M.c2 (h3) ?_|refine M.c2 (h4) ?_|refine M.c2 (h5) ?_|refine M.c2 (h6) ?_|refine M.c2 (h7) ?_|fail)
 rfl
theorem Yhm:PC E 160 [] (.agg Cj.view):=by
 have h0:=Ex 0;have h1:=Ex 1;have h2:=CJ 4 [] (by simp);have h3:=G1 (vT 1) (by simp[Tm.full,Tm.Au,Ty.size,Ty.sizes,vT,sT]);have h4:=G1 (CS (vT 1)) (by simp[Tm.full,Tm.Au,Ty.size,Ty.sizes,vT,sT,CS]);have h5:=Qj zT (CS (CS (vT 1))) (vT 0) (by simp[Tm.full,Tm.Au,Ty.size,Ty.sizes,vT,zT,CS,H6]);have h6:=G1 (E0 zT (CS (CS (vT 1))) (vT 0)) (by simp[Tm.full,Tm.Au,Ty.size,Ty.sizes,vT,zT,CS,H6,E0]);refine M.F Tryz.func160 ?_;(repeat' first|refine M.gw ?_|refine M.c2 (h0) ?_|refine M.c2 (h1) ?_|refine M.c2 (h2) ?_|refine M.c2 (h3) ?_|refine M.c2 (h4) ?_|refine M.c2 (h5) ?_|refine M.c2 (h6) ?_|fail)
 rfl
theorem Ylz:PC E 98 [] (.agg Eb.view):=by
 have h0:=Ex 0;have h1:=Ex 1;have hp:=Yhm;have h2:=CJ 3 [Cj,vT 0] (by simp[Tm.full,Tm.Au,Ty.size,Ty.sizes,vT,zT,CS,Cj,E0]);have h3:=G1 (AO Cj (vT 0)) (by simp[Tm.full,Tm.Au,Ty.size,Ty.sizes,vT,zT,CS,Cj,E0,AO]);have h4:=G1 (CS (AO Cj (vT 0))) (by simp[Tm.full,Tm.Au,Ty.size,Ty.sizes,vT,zT,CS,Cj,E0,AO]);have h5:=Qj (vT 1) I3 (vT 0) (by simp[Tm.full,Tm.Au,Ty.size,Ty.sizes,vT,zT,CS,Cj,E0,AO,I3]);have h6:=G1 (E0 (vT 1) I3 (vT 0)) (by simp[Tm.full,Tm.Au,Ty.size,Ty.sizes,vT,zT,CS,Cj,E0,AO,I3]);have h7:=G1 (CS (E0 (vT 1) I3 (vT 0))) (by simp[Tm.full,Tm.Au,Ty.size,Ty.sizes,vT,zT,CS,Cj,E0,AO,I3]);refine M.F Tryz.func98 ?_;(repeat' first|refine M.gw ?_|refine M.c2 (h0) ?_|refine M.c2 (h1) ?_|refine M.c2 (hp) ?_|refine M.c2 (h2) ?_|refine M.c2 (h3) ?_|refine M.c2 (h4) ?_|refine M.c2 (h5) ?_|refine M.c2 (h6) ?_|refine M.c2 (h7) ?_|fail)
 rfl
theorem Qz:∀(f:Tm) (l:List Tm),f.full+2*l.length+(l.map Tm.full).sum<274877906944->PC E 96 [.agg f.view,.s .tm l] (.agg (l.foldl AO f).view):=by
 intro f l hl;have hlen:=zd Tm.full Tm.Aa l;have hfull:∀m,m<=l.length->((l.take m).foldl AO f).full<=f.full+2*m+((l.take m).map Tm.full).sum:=by
  intro m;induction m with
  |zero=>intro _;simp
  |succ m ih=>
   intro hm;have h1:=ih (by omega);have h2:=yl Tm.full l m (by omega);rw[<-List.take_append_getElem (by omega:m<l.length),List.foldl_append,List.take_append_getElem (by omega:m<l.length),h2];simp only[List.foldl_cons,List.foldl_nil,AO,Tm.full,Tm.Au,Ty.size,Ty.sizes];omega
 refine M.F Tryz.func96 ?_;(repeat' first|refine M.gw ?_|fail);refine AW.range l.length (fun m=>True)
  (fun m=>([(2,.ptr 0 0),(4,.ptr 1 0),(7,.s .tm l),(8,.i l.length),(9,.i m)],⟨2,[(0,.var ((l.take m).foldl AO f).view),(1,.var [.i 0,.i 0,.i 0,.slice .nil (.t .ty []),.slice .nil (.t .tm [])])]⟩))
  (by omega) (fun m=>rfl) (fun m=>rfl) rfl trivial (M.W [some 0,some 1]) ?_ ?_
 ·intro m hm hP;have e:(l.take (m+1)).foldl AO f=AO ((l.take m).foldl AO f) l[m]:=by rw[<-List.take_append_getElem hm,List.foldl_append];rfl
  have h2:=zn Tm.full l (m+1);have h3:=yl Tm.full l m hm;have h4:=hfull m (by omega);have h1:=CJ 3 [(l.take m).foldl AO f,l[m]] (by simp only[List.map_cons,List.map_nil,List.sum_cons,List.sum_nil];omega);(repeat' first|refine M.gw ?_|refine M.c2 (h1) ?_|fail);refine⟨rfl,trivial,?_⟩;exact(M.W [some 0,some 1] (he:=(by(repeat'(first|exact trivial|refine And.intro ?_ ?_|refine⟨_,U,_,U,_,U,?_⟩|exact An.refl _|exact An.of_eq (by simp[Ao.Ax,e,AO])));done)))
 ·intro _;(repeat' first|refine M.gw ?_|fail);simp[zj,V.wk,V.Ap,za,Ty.view,Tm.view]
end Go.Ab
