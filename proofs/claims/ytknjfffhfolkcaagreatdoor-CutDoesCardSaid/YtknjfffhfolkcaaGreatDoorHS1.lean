/- A part of this seat's proofs. No conditions. -/
import Derived.Test.YtknjfffhfolkcaaGreatDoorRows
import Derived.Test.YtknjfffhfolkcaaGreatDoorHD1
namespace Go.Ab
open Go Go.Proofs
def Ku:List (TypeId×TI):=[
 (2,⟨1,[.int .i64 0],.int .i64⟩),
 (3,⟨1,[.int .i64 0],.int .i64⟩),
 (4,⟨1,[.bool false],.bool⟩),
 (5,⟨1,[.int .u8 0],.int .u8⟩),
 (9,⟨1,[.str ⟨#[]⟩],.str⟩),
 (12,⟨1,[.int .u64 0],.int .u64⟩),
 (13,⟨2,[.str ⟨#[]⟩,.int .u64 0],.strct [(0,1,false),(1,1,false)]⟩),
 (20,⟨1,[.raw .nilIface],.other⟩),
 (21,⟨1,[.int .i32 0],.int .i32⟩),
 (22,⟨1,[.slice .nil (.t .int [])],.slc (some .int) 1 8⟩),
 (23,⟨1,[.slice .nil (.t .ty [])],.slc (some .ty) 2 32⟩),
 (24,⟨2,[.int .i64 0,.slice .nil (.t .ty [])],.strct [(0,1,false),(1,1,false)]⟩),
 (25,⟨2,[.int .i64 0,.slice .nil (.t .ty [])],.strct [(0,1,false),(1,1,false)]⟩),
 (26,⟨1,[.slice .nil (.t .tm [])],.slc (some .tm) 5 72⟩),
 (27,⟨1,[.slice .nil (.t .fm [])],.slc (some .fm) 5 88⟩),
 (28,⟨1,[.slice .nil (.t .pf [])],.slc (some .pf) 7 120⟩),
 (29,⟨7,[.int .i64 0,.int .i64 0,.int .i64 0,.slice .nil (.t .ty []),.slice .nil (.t .tm []),.slice .nil (.t .fm []),.slice .nil (.t .pf [])],.strct [(0,1,false),(1,1,false),(2,2,true),(4,1,false),(5,1,false),(6,1,false)]⟩),
 (30,⟨7,[.int .i64 0,.int .i64 0,.int .i64 0,.slice .nil (.t .ty []),.slice .nil (.t .tm []),.slice .nil (.t .fm []),.slice .nil (.t .pf [])],.strct [(0,1,false),(1,1,false),(2,2,true),(4,1,false),(5,1,false),(6,1,false)]⟩),
 (34,⟨1,[.nilp],.other⟩),
 (37,⟨2,[.slice .nil (.t .ty []),.slice .nil (.t .fm [])],.strct [(0,1,false),(1,1,false)]⟩),
 (38,⟨2,[.slice .nil (.t .ty []),.slice .nil (.t .fm [])],.strct [(0,1,false),(1,1,false)]⟩),
 (42,⟨1,[.int .i64 0],.int .i64⟩),
 (53,⟨5,[.int .i64 0,.int .i64 0,.int .i64 0,.slice .nil (.t .ty []),.slice .nil (.t .tm [])],.strct [(0,1,false),(1,1,false),(2,2,true),(4,1,false)]⟩),
 (54,⟨5,[.int .i64 0,.int .i64 0,.int .i64 0,.slice .nil (.t .ty []),.slice .nil (.t .tm [])],.strct [(0,1,false),(1,1,false),(2,2,true),(4,1,false)]⟩),
 (58,⟨2,[.slice .nil (.t .int []),.int .i64 0],.strct [(0,1,false),(1,1,false)]⟩),
 (59,⟨2,[.slice .nil (.t .int []),.int .i64 0],.strct [(0,1,false),(1,1,false)]⟩),
 (61,⟨5,[.int .i64 0,.int .i64 0,.slice .nil (.t .ty []),.slice .nil (.t .tm []),.slice .nil (.t .fm [])],.strct [(0,1,false),(1,2,true),(3,1,false),(4,1,false)]⟩),
 (62,⟨5,[.int .i64 0,.int .i64 0,.slice .nil (.t .ty []),.slice .nil (.t .tm []),.slice .nil (.t .fm [])],.strct [(0,1,false),(1,2,true),(3,1,false),(4,1,false)]⟩),
 (68,⟨6,[.int .i64 0,.int .i64 0,.slice .nil (.t .ty []),.slice .nil (.t .tm []),.slice .nil (.t .fm []),.slice .nil (.t .int [])],.strct [(0,5,true),(5,1,false)]⟩),
 (69,⟨6,[.int .i64 0,.int .i64 0,.slice .nil (.t .ty []),.slice .nil (.t .tm []),.slice .nil (.t .fm []),.slice .nil (.t .int [])],.strct [(0,5,true),(5,1,false)]⟩),
 (104,⟨3,[.slice .nil (.t .fm []),.slice .nil (.t .ty []),.slice .nil (.t .fm [])],.strct [(0,1,false),(1,1,false),(2,1,false)]⟩),
 (105,⟨3,[.slice .nil (.t .fm []),.slice .nil (.t .ty []),.slice .nil (.t .fm [])],.strct [(0,1,false),(1,1,false),(2,1,false)]⟩),
 (119,⟨2,[.int .i64 0,.int .i64 0],.strct [(0,1,false),(1,1,false)]⟩),
 (120,⟨2,[.int .i64 0,.int .i64 0],.strct [(0,1,false),(1,1,false)]⟩),
 (122,⟨1,[.slice .nil (.u 2 [])],.slc none 2 16⟩),
 (125,⟨2,[.int .i64 0,.int .i64 0],.strct [(0,1,false),(1,1,false)]⟩),
 (126,⟨2,[.int .i64 0,.int .i64 0],.strct [(0,1,false),(1,1,false)]⟩),
 (127,⟨1,[.nilf],.other⟩),
 (128,⟨1,[.nilf],.other⟩),
 (129,⟨1,[.nilf],.other⟩),
 (131,⟨3,[.nilf,.nilf,.nilf],.strct [(0,1,false),(1,1,false),(2,1,false)]⟩),
 (133,⟨1,[.nilf],.other⟩),
 (134,⟨1,[.nilf],.other⟩),
 (135,⟨1,[.nilf],.other⟩),
 (137,⟨3,[.nilf,.nilf,.nilf],.strct [(0,1,false),(1,1,false),(2,1,false)]⟩),
 (154,⟨1,[.nilp],.other⟩),
 (155,⟨2,[.int .i64 0,.bool false],.strct [(0,1,false),(1,1,false)]⟩),
 (156,⟨2,[.int .i64 0,.bool false],.strct [(0,1,false),(1,1,false)]⟩),
 (157,⟨5,[.int .i64 0,.int .i64 0,.int .i64 0,.bool false,.bool false],.strct [(0,1,false),(1,1,false),(2,1,false),(3,1,false),(4,1,false)]⟩),
 (158,⟨5,[.int .i64 0,.int .i64 0,.int .i64 0,.bool false,.bool false],.strct [(0,1,false),(1,1,false),(2,1,false),(3,1,false),(4,1,false)]⟩),
 (165,⟨8,[.bool false,.bool false,.int .i64 0,.int .i64 0,.int .i64 0,.int .i64 0,.int .i64 0,.int .i64 0],.strct [(0,1,false),(1,1,false),(2,1,false),(3,1,false),(4,1,false),(5,1,false),(6,1,false),(7,1,false)]⟩),
 (166,⟨8,[.bool false,.bool false,.int .i64 0,.int .i64 0,.int .i64 0,.int .i64 0,.int .i64 0,.int .i64 0],.strct [(0,1,false),(1,1,false),(2,1,false),(3,1,false),(4,1,false),(5,1,false),(6,1,false),(7,1,false)]⟩),
 (185,⟨1,[.nilf],.other⟩),
 (187,⟨168,[.bool false,.bool false,.int .i64 0,.int .i64 0,.int .i64 0,.int .i64 0,.int .i64 0,.int .i64 0,.bool false,.bool false,.int .i64 0,.int .i64 0,.int .i64 0,.int .i64 0,.int .i64 0,.int .i64 0,.bool false,.bool false,.int .i64 0,.int .i64 0,.int .i64 0,.int .i64 0,.int .i64 0,.int .i64 0,.bool false,.bool false,.int .i64 0,.int .i64 0,.int .i64 0,.int .i64 0,.int .i64 0,.int .i64 0,.bool false,.bool false,.int .i64 0,.int .i64 0,.int .i64 0,.int .i64 0,.int .i64 0,.int .i64 0,.bool false,.bool false,.int .i64 0,.int .i64 0,.int .i64 0,.int .i64 0,.int .i64 0,.int .i64 0,.bool false,.bool false,.int .i64 0,.int .i64 0,.int .i64 0,.int .i64 0,.int .i64 0,.int .i64 0,.bool false,.bool false,.int .i64 0,.int .i64 0,.int .i64 0,.int .i64 0,.int .i64 0,.int .i64 0,.bool false,.bool false,.int .i64 0,.int .i64 0,.int .i64 0,.int .i64 0,.int .i64 0,.int .i64 0,.bool false,.bool false,.int .i64 0,.int .i64 0,.int .i64 0,.int .i64 0,.int .i64 0,.int .i64 0,.bool false,.bool false,.int .i64 0,.int .i64 0,.int .i64 0,.int .i64 0,.int .i64 0,.int .i64 0,.bool false,.bool false,.int .i64 0,.int .i64 0,.int .i64 0,.int .i64 0,.int .i64 0,.int .i64 0,.bool false,.bool false,.int .i64 0,.int .i64 0,.int .i64 0,.int .i64 0,.int .i64 0,.int .i64 0,.bool false,.bool false,.int .i64 0,.int .i64 0,.int .i64 0,.int .i64 0,.int .i64 0,.int .i64 0,.bool false,.bool false,.int .i64 0,.int .i64 0,.int .i64 0,.int .i64 0,.int .i64 0,.int .i64 0,.bool false,.bool false,.int .i64 0,.int .i64 0,.int .i64 0,.int .i64 0,.int .i64 0,.int .i64 0,.bool false,.bool false,.int .i64 0,.int .i64 0,.int .i64 0,.int .i64 0,.int .i64 0,.int .i64 0,.bool false,.bool false,.int .i64 0,.int .i64 0,.int .i64 0,.int .i64 0,.int .i64 0,.int .i64 0,.bool false,.bool false,.int .i64 0,.int .i64 0,.int .i64 0,.int .i64 0,.int .i64 0,.int .i64 0,.bool false,.bool false,.int .i64 0,.int .i64 0,.int .i64 0,.int .i64 0,.int .i64 0,.int .i64 0,.bool false,.bool false,.int .i64 0,.int .i64 0,.int .i64 0,.int .i64 0,.int .i64 0,.int .i64 0],.arr 21 8 true⟩),
 (194,⟨1,[.raw (.map none)],.other⟩),
 (212,⟨1,[.nilp],.other⟩),
 (213,⟨2,[.int .i64 0,.bool false],.strct [(0,1,false),(1,1,false)]⟩),
 (214,⟨2,[.int .i64 0,.bool false],.strct [(0,1,false),(1,1,false)]⟩),
 (229,⟨1,[.nilf],.other⟩),
 (235,⟨14,[.int .i64 0,.int .i64 0,.int .i64 0,.int .i64 0,.int .i64 0,.int .i64 0,.int .i64 0,.int .i64 0,.int .i64 0,.int .i64 0,.int .i64 0,.int .i64 0,.int .i64 0,.int .i64 0],.arr 14 1 false⟩),
 (236,⟨1,[.nilf],.other⟩),
 (245,⟨1,[.int .u32 0],.int .u32⟩)]
set_option maxRecDepth 100000
theorem Ygj:Ku.all (fun p=>Kl Tryz.prog p.1 p.2)=true:=by kernel_rfl
def Mm:List V:=[.bool false,.bool false,.i 0,.i 0,.i 0,.i 0,.i 0,.i 0,.bool true,.bool false,.i 0,.i 0,.i 0,.i 0,.i 0,.i 0,.bool true,.bool false,.i 0,.i 0,.i 0,.i 0,.i 0,.i 0,.bool false,.bool false,.i 0,.i 0,.i 2,.i 0,.i 0,.i 0,.bool false,.bool false,.i 0,.i 0,.i 1,.i 0,.i 0,.i 0,.bool false,.bool false,.i 0,.i 0,.i 1,.i 0,.i 0,.i 0,.bool false,.bool false,.i 0,.i 1,.i 1,.i 0,.i 0,.i 1,.bool false,.bool false,.i 0,.i 0,.i 2,.i 0,.i 0,.i 0,.bool false,.bool true,.i 0,.i 0,.i 1,.i 0,.i 1,.i 0,.bool false,.bool false,.i 1,.i 0,.i 1,.i 0,.i 0,.i 0,.bool false,.bool false,.i 1,.i 1,.i 1,.i 0,.i 0,.i 0,.bool false,.bool false,.i 0,.i 0,.i 2,.i 0,.i 1,.i 1,.bool false,.bool true,.i 0,.i 0,.i 1,.i 0,.i 1,.i 0,.bool false,.bool false,.i 1,.i 0,.i 1,.i 0,.i 0,.i 0,.bool false,.bool false,.i 1,.i 1,.i 1,.i 0,.i 0,.i 0,.bool false,.bool false,.i 0,.i 0,.i 2,.i 0,.i 1,.i 1,.bool false,.bool false,.i 1,.i 1,.i 2,.i 1,.i 1,.i 1,.bool false,.bool false,.i 1,.i 1,.i 2,.i 1,.i 2,.i 1,.bool false,.bool false,.i 1,.i 0,.i 0,.i 0,.i 0,.i 0,.bool false,.bool false,.i 0,.i 1,.i 2,.i 1,.i 0,.i 0,.bool false,.bool false,.i 0,.i 0,.i 1,.i 0,.i 0,.i 0]
def LX:List V:=[.i 0,.i 0,.i 1,.i 2,.i 0,.i 1,.i 3,.i 0,.i 2,.i 3,.i 2,.i 1,.i 1,.i 0]
noncomputable def E:Env:=⟨Tryz.prog,[(1,LX),(0,Mm)],Ku,Ygj⟩
end Go.Ab
namespace Go.Ab
open Go Go.Proofs
set_option maxRecDepth 100000
set_option linter.all false
theorem mixed:E.P.follows .mixedOrders=true:=Tryz.checked.mixed
theorem wh:∀(b:Nat) (t:Ty),t.size<=b->b<1099511627776->PC E 78 [.agg t.view] (.agg t.view):=by
 intro b;induction b with
 |zero=>intro t h;have:=t.size_pos;omega
 |succ b ih=>
 intro t hsz hb;have hsz':=Ty.size_eq t;have hlen:=zd Ty.size Ty.size_pos t.args;refine M.F Tryz.func78 ?_;(repeat' first|refine M.gw ?_|fail);refine AW.range t.args.length (fun m=>True)
  (fun m=>([(1,.ptr 0 0),(2,.ptr 1 0),(3,.slice (.own 2) (.t .ty (t.args.take m))),(7,.s .ty t.args),(8,.i t.args.length),(9,.i m)],⟨3,[(0,.var t.view),(1,.var [.i 0,.slice .nil (.t .ty [])]),(2,.row)]⟩))
  (by omega) (fun m=>rfl) (fun m=>rfl) rfl trivial (M.W [some 0,some 1,none]) ?_ ?_
 .intro m hm hP;have hs2:=za Ty.size (Wi hm);(repeat' first|refine M.gw ?_|refine M.c2 (ih _ ?_ ?_) ?_|exact M.le|exact M.lt|fail);exact⟨rfl,trivial,(M.W [some 0,some 1,some 4] (hf:=(by(repeat'(first|exact trivial|refine And.intro ?_ ?_|refine⟨_,U,_,U,?_⟩|exact Ao.refl _|exact Ao.of_eq (by simp[Aq.Ay,Wv])));done)))⟩
 .intro hP;(repeat' first|refine M.gw ?_|fail);simp[zk,V.wk,V.Ap,zc,Ty.view,Tm.view]
theorem uk:∀(b:Nat) (t:Ty),t.size<=b->b<1099511627776->PC E 133 [.agg t.view] (.agg t.view):=by
 intro b;induction b with
 |zero=>intro t h;have:=t.size_pos;omega
 |succ b ih=>
 intro t hsz hb;have hsz':=Ty.size_eq t;have hlen:=zd Ty.size Ty.size_pos t.args;refine M.F Tryz.func133 ?_;(repeat' first|refine M.gw ?_|fail);refine AW.range t.args.length (fun m=>True)
  (fun m=>([(1,.ptr 0 0),(2,.ptr 1 0),(3,.ptr 2 0),(10,.s .ty t.args),(11,.i t.args.length),(12,.i m)],⟨4,[(0,.var t.view),(1,.var [.i 0,.slice .nil (.t .ty [])]),(2,.var [.i t.kind,.slice (.own 3) (.t .ty (t.args.take m))]),(3,.row)]⟩))
  (by omega) (fun m=>rfl) (fun m=>rfl) rfl trivial (M.W [some 0,some 1,some 2,none]) ?_ ?_
 .intro m hm hP;have hs2:=za Ty.size (Wi hm);(repeat' first|refine M.gw ?_|refine M.c2 (ih _ ?_ ?_) ?_|exact M.le|exact M.lt|fail);exact⟨rfl,trivial,(M.W [some 0,some 1,some 2,some 5] (he:=(by(repeat'(first|exact trivial|exact Or.inr ⟨_,U,rfl⟩|refine And.intro ?_ ?_|refine⟨_,U,_,U,_,U,?_⟩|exact Ao.refl _|exact Ao.of_eq (by simp[Aq.Ay,Wv])));done)))⟩
 .intro hP;(repeat' first|refine M.gw ?_|fail);simp[zk,V.wk,V.Ap,zc,Ty.view,Tm.view]
theorem Zop:∀(b:Nat) (t:Ty),t.size<=b->b<1099511627776->PC E 191 [.agg t.view] (Ko t):=by
 intro b;induction b with
 |zero=>intro t h;have:=t.size_pos;omega
 |succ b ih=>
 intro t hsz hb;have hsz':=Ty.size_eq t;have hlen:=zd Ty.size Ty.size_pos t.args;have hsh:=Ty.Al t;refine M.F Tryz.func191 ?_;(repeat' first|refine M.gw ?_|fail);refine AW.Gz (ι:={n:Nat // DE t.kind=some n}) (fun n=>([(1,.ptr 0 0),(4,.i n.1)],⟨1,[(0,.var t.view)]⟩)) ?_ ?_
 .refine AW.block ?_;(repeat' first|refine M.gw ?_|refine M.cs ?_ ?_<;>intro h|fail)
  .exact ⟨⟨0,by simp at h;simp[DE,h]⟩,(M.W [some 0])⟩
  .exact ⟨⟨0,by simp at h;simp[DE,h]⟩,(M.W [some 0])⟩
  .exact ⟨⟨0,by simp at h;simp[DE,h]⟩,(M.W [some 0])⟩
  .exact ⟨⟨2,by simp at h;simp[DE,h]⟩,(M.W [some 0])⟩
  .exact ⟨⟨2,by simp at h;simp[DE,h]⟩,(M.W [some 0])⟩
  .have:t.shape=false:=by simp at*;simp[hsh,DE, *]
   simp[Ko,Ty.nodes,this,zk,zc,V.wk,V.Ap]
 rintro⟨n,hn⟩;(repeat' first|refine M.gw ?_|refine M.cs ?_ ?_<;>intro h|fail)
 .have h1:¬t.args.length=n:=by simp at h;omega
  have:t.shape=false:=by simp[hsh,hn,h1]
  simp[Ko,Ty.nodes,this,zk,zc,V.wk,V.Ap]
 have hn':t.args.length=n:=by simp at h;omega
 refine AW.range t.args.length (fun m=>∀j (hj:j<t.args.length),j<m->(t.args[j]).shape=true)
  (fun m=>([(1,.ptr 0 0),(5,.i (1+((t.args.take m).map Ty.size).sum)),(25,.s .ty t.args),(26,.i t.args.length),(27,.i m)],⟨1,[(0,.var t.view)]⟩))
  (by omega) (fun m=>rfl) (fun m=>rfl) rfl (by intro j hj h;omega) (M.W [some 0]) ?_ ?_
 .intro m hm hP;have hs1:=yk Ty.size t.args m hm;have hs2:=za Ty.size (Wi hm);have hs3:=zm Ty.size t.args (m+1);have hs4:=Ty.DC t.args[m];(repeat' first|refine M.gw ?_|refine M.c2 (ih _ ?_ ?_) ?_|refine M.cs ?_ ?_<;>intro h|exact M.le|exact M.lt|fail)
  .have h1:(t.args[m]).shape=false:=by simpa using h
   have:t.shape=false:=by rw[hsh,xn Ty.shape hm h1,YP]
   simp[Ko,Ty.nodes,this,zk,zc,V.wk,V.Ap]
  .have hh:(t.args[m]).shape=true:=by simpa using h
   refine⟨rfl,ya (p:=fun t=>Ty.shape t=true) hm hP hh,?_⟩;have e:(1+((((t.args.take (m+1)).map Ty.size).sum:Nat):Int))=1+(((t.args.take m).map Ty.size).sum:Nat)+t.args[m].nodes:=by simp only[Ty.nodes,hh,hs1];simp;omega
   simp only[e];exact(M.W [some 0])
 .intro hP;have:t.shape=true:=by simp only[hsh,hn,hn',w4 Ty.shape t.args fun j hj=>hP j hj hj];simp
  (repeat' first|refine M.gw ?_|fail);simp[Ko,Ty.nodes,this,zk,zc,hsz',V.wk,V.Ap]
theorem Ek(i:Int):PC E 39 [.i i] (.agg (Tm.mk 1 i (.mk 0 []) []).view):=by
 refine M.F Tryz.func39 ?_;(repeat' first|refine M.gw ?_|fail);simp[zk,V.wk,V.Ap,zc,Ty.view,Tm.view]
theorem PJ(i:Int):PC E 236 [.i i] (.agg (Tm.mk 1 i (.mk 0 []) []).view):=by
 refine M.F Tryz.func236 ?_;(repeat' first|refine M.gw ?_|fail);simp[zk,V.wk,V.Ap,zc,Ty.view,Tm.view]
theorem vk:PC E 27 [] (.agg (Ty.mk 1 []).view):=by
 refine M.F Tryz.func27 ?_;(repeat' first|refine M.gw ?_|fail);simp[zk,V.wk,V.Ap,zc,Ty.view,Tm.view]
theorem ul:PC E 45 [] (.agg (Ty.mk 2 []).view):=by
 refine M.F Tryz.func45 ?_;(repeat' first|refine M.gw ?_|fail);simp[zk,V.wk,V.Ap,zc,Ty.view,Tm.view]
theorem Ra:PC E 75 [] (.agg (Ty.mk 5 []).view):=by
 refine M.F Tryz.func75 ?_;(repeat' first|refine M.gw ?_|fail);simp[zk,V.wk,V.Ap,zc,Ty.view,Tm.view]
theorem SS(x y:Ty)(hx:x.size<1099511627776)(hy:y.size<1099511627776):PC E 76 [.agg x.view,.agg y.view] (.agg (Ty.mk 3 [x,y]).view):=by
 have h1:=wh _ x (Wj _) hx;have h2:=wh _ y (Wj _) hy;refine M.F Tryz.func76 ?_;(repeat' first|refine M.gw ?_|refine M.c2 (h1) ?_|refine M.c2 (h2) ?_|fail);simp[zk,V.wk,V.Ap,zc,Ty.view,Tm.view]
theorem IJ(x y:Ty)(hx:x.size<1099511627776)(hy:y.size<1099511627776):PC E 77 [.agg x.view,.agg y.view] (.agg (Ty.mk 4 [x,y]).view):=by
 have h1:=wh _ x (Wj _) hx;have h2:=wh _ y (Wj _) hy;refine M.F Tryz.func77 ?_;(repeat' first|refine M.gw ?_|refine M.c2 (h1) ?_|refine M.c2 (h2) ?_|fail);simp[zk,V.wk,V.Ap,zc,Ty.view,Tm.view]
theorem PD(t:Ty):PC E 158 [.agg t.view] (.bool t.BL):=by
 refine M.F Tryz.func158 ?_;(repeat' first|refine M.gw ?_|refine M.gs ?_ ?_<;>intro h|fail);all_goals simp_all[zk,V.wk,V.Ap,zc,Ty.BL]
 rw[Xm];simp
theorem Yc2(k:Int):PC E 221 [.i k] (.bool (xx k)):=by
 refine M.F Tryz.func221 ?_;(repeat' first|refine M.gw ?_|refine M.gs ?_ ?_<;>intro h|fail);all_goals simp_all[zk,V.wk,V.Ap,zc,xx]
theorem Rq(n:Int):PC E 208 [.i n] (.bool (decide (0<=n/\n<=4096))):=by
 refine M.F Tryz.func208 ?_;(repeat' first|refine M.gw ?_|refine M.gs ?_ ?_<;>intro h|fail);all_goals simp_all[zk,V.wk,V.Ap,zc]
 omega
theorem OG(t:Ty)(ht:t.size<1099511627776):PC E 157 [.agg t.view] (.AD [.i t.num,.i t.err]):=by
 have h1:=Zop _ t (Wj _) ht;refine M.F Tryz.func157 ?_;(repeat' first|refine M.gw ?_|refine M.c2 (h1) ?_|refine M.zb ?_|refine M.cs ?_ ?_<;>intro h|fail);all_goals simp_all[zk,V.wk,V.Ap,zc,Ty.num,Ty.err,Ty.nodes]
 all_goals(first|omega|(split<;>first|omega|simp_all))
theorem Yep(k:Int):PC E 220 [.i k] (.AD [.i ((CX k).getD 0),.bool (CX k).isSome]):=by
 refine M.F Tryz.func220 ?_;(repeat' first|refine M.gw ?_|refine M.gs ?_ ?_<;>intro h|refine M.cs ?_ ?_<;>intro h|fail)
 .have:CX k=none:=by simp at h;simp only[CX];(repeat' rw[if_neg (by omega)])
  simp[this,zk,V.wk,V.Ap,zc]
 .have:CX k=none:=by simp at h;simp only[CX];(repeat' rw[if_neg (by omega)])
  simp[this,zk,V.wk,V.Ap,zc]
 .rename_i h0;simp at h h0;have:k=1\/k=2\/k=3\/k=4\/k=5\/k=6\/k=7\/k=8\/k=9\/k=10\/k=11\/k=12\/k=13:=by omega
  rcases this with rfl|rfl|rfl|rfl|rfl|rfl|rfl|rfl|rfl|rfl|rfl|rfl|rfl
  .refine L.CT 1 rfl rfl rfl rfl rfl ?_ ?_ rfl ?_
   .decide
   .decide
   (repeat' first|refine M.gw ?_|fail)
   rfl
  .refine L.CT 2 rfl rfl rfl rfl rfl ?_ ?_ rfl ?_
   .decide
   .decide
   (repeat' first|refine M.gw ?_|fail)
   rfl
  .refine L.CT 3 rfl rfl rfl rfl rfl ?_ ?_ rfl ?_
   .decide
   .decide
   (repeat' first|refine M.gw ?_|fail)
   rfl
  .refine L.CT 4 rfl rfl rfl rfl rfl ?_ ?_ rfl ?_
   .decide
   .decide
   (repeat' first|refine M.gw ?_|fail)
   rfl
  .refine L.CT 5 rfl rfl rfl rfl rfl ?_ ?_ rfl ?_
   .decide
   .decide
   (repeat' first|refine M.gw ?_|fail)
   rfl
  .refine L.CT 6 rfl rfl rfl rfl rfl ?_ ?_ rfl ?_
   .decide
   .decide
   (repeat' first|refine M.gw ?_|fail)
   rfl
  .refine L.CT 7 rfl rfl rfl rfl rfl ?_ ?_ rfl ?_
   .decide
   .decide
   (repeat' first|refine M.gw ?_|fail)
   rfl
  .refine L.CT 8 rfl rfl rfl rfl rfl ?_ ?_ rfl ?_
   .decide
   .decide
   (repeat' first|refine M.gw ?_|fail)
   rfl
  .refine L.CT 9 rfl rfl rfl rfl rfl ?_ ?_ rfl ?_
   .decide
   .decide
   (repeat' first|refine M.gw ?_|fail)
   rfl
  .refine L.CT 10 rfl rfl rfl rfl rfl ?_ ?_ rfl ?_
   .decide
   .decide
   (repeat' first|refine M.gw ?_|fail)
   rfl
  .refine L.CT 11 rfl rfl rfl rfl rfl ?_ ?_ rfl ?_
   .decide
   .decide
   (repeat' first|refine M.gw ?_|fail)
   rfl
  .refine L.CT 12 rfl rfl rfl rfl rfl ?_ ?_ rfl ?_
   .decide
   .decide
   (repeat' first|refine M.gw ?_|fail)
   rfl
  .refine L.CT 13 rfl rfl rfl rfl rfl ?_ ?_ rfl ?_
   .decide
   .decide
   (repeat' first|refine M.gw ?_|fail)
   rfl
end Go.Ab
namespace Go.Ab
open Go Go.Proofs
set_option maxRecDepth 100000
set_option maxHeartbeats 4000000
set_option linter.all false
theorem ut:∀(b:Nat) (t:Tm),t.full<=b->b<1099511627776->PC E 65 [.agg t.view] (.agg t.view):=by
 intro b;induction b with
 |zero=>intro t h;have:=t.Aa;omega
 |succ b ih=>
 intro t hsz hb;have hsz':=Tm.Af t;have hlen:=zd Tm.full Tm.Aa t.args;have hty:=wh _ t.ty (Wj _) (by omega);refine M.F Tryz.func65 ?_;(repeat' first|refine M.gw ?_|fail);refine AW.range t.args.length (fun m=>True)
  (fun m=>([(1,.ptr 0 0),(2,.ptr 1 0),(3,.slice (.own 2) (.t .tm (t.args.take m))),(7,.s .tm t.args),(8,.i t.args.length),(9,.i m)],⟨3,[(0,.var t.view),(1,.var [.i 0,.i 0,.i 0,.slice .nil (.t .ty []),.slice .nil (.t .tm [])]),(2,.row)]⟩))
  (by omega) (fun m=>rfl) (fun m=>rfl) rfl trivial (M.W [some 0,some 1,none]) ?_ ?_
 .intro m hm hP;have hs2:=za Tm.full (Wi hm);(repeat' first|refine M.gw ?_|refine M.c2 (ih _ ?_ ?_) ?_|exact M.le|exact M.lt|fail);exact⟨rfl,trivial,(M.W [some 0,some 1,some 4] (hf:=(by(repeat'(first|exact trivial|refine And.intro ?_ ?_|refine⟨_,U,_,U,?_⟩|exact Ao.refl _|exact Ao.of_eq (by simp[Aq.Ay,Wv])));done)))⟩
 .intro hP;(repeat' first|refine M.gw ?_|refine M.c2 (hty) ?_|fail);simp[zk,V.wk,V.Ap,zc,Ty.view,Tm.view]
theorem CH(k:Int)(l:List Tm)(hl:(l.map Tm.full).sum<1099511627776):PC E 50 [.i k,.s .tm l] (.agg (Tm.mk k 0 (.mk 0 []) l).view):=by
 have hlen:=zd Tm.full Tm.Aa l;refine M.F Tryz.func50 ?_;(repeat' first|refine M.gw ?_|fail);refine AW.range l.length (fun m=>True)
  (fun m=>([(0,.i k),(4,.ptr 0 0),(5,.slice (.own 1) (.t .tm (l.take m))),(8,.s .tm l),(9,.i l.length),(10,.i m)],⟨2,[(0,.var [.i 0,.i 0,.i 0,.slice .nil (.t .ty []),.slice .nil (.t .tm [])]),(1,.row)]⟩))
  (by omega) (fun m=>rfl) (fun m=>rfl) rfl trivial (M.W [some 0,none]) ?_ ?_
 .intro m hm hP;have hs2:=za Tm.full (Wi hm);(repeat' first|refine M.gw ?_|refine M.c2 (ut _ _ (Wj _) ?_) ?_|exact M.lt|fail);exact⟨rfl,trivial,(M.W [some 0,some 3] (hf:=(by(repeat'(first|exact trivial|refine And.intro ?_ ?_|refine⟨_,U,_,U,?_⟩|exact Ao.refl _|exact Ao.of_eq (by simp[Aq.Ay,Wv])));done)))⟩
 .intro hP;(repeat' first|refine M.gw ?_|fail);simp[zk,V.wk,V.Ap,zc,Ty.view,Tm.view]
theorem Ft(k:Int)(s:Ty)(l:List Tm)(hl:(l.map Tm.full).sum<1099511627776)(hs:s.size<1099511627776):PC E 80 [.i k,.agg s.view,.s .tm l] (.agg (Tm.mk k 0 s l).view):=by
 have h1:=CH k l hl;have h2:=wh _ s (Wj _) hs;refine M.F Tryz.func80 ?_;(repeat' first|refine M.gw ?_|refine M.c2 (h1) ?_|refine M.c2 (h2) ?_|fail);simp[zk,V.wk,V.Ap,zc,Ty.view,Tm.view]
theorem Ty.Eo(t:Ty):t.ok=(t.err==0):=by
 simp only[Ty.ok,Ty.err];cases t.shape
 .simp
 .by_cases h:t.size<=64
  .have:¬t.size>64:=by omega
   simp[h,this]
  .have:t.size>64:=by omega
   simp[h,this]
theorem Tm.FD(t:Tm):t.head=(!(!(CX t.kind).isSome)&& !((t.args.length:Int) !=(((CX t.kind).getD 0:Nat):Int))&& !decide (t.index<0)&&(!(t.index !=0)|| !(t.kind !=1))&&(bif xx t.kind then !(t.ty.err !=0) else !(!t.ty.BL))):=by
 simp only[Tm.head,Ty.Eo];cases hk:CX t.kind with
 |none=>simp
 |some n=>
  have h1:(t.args.length==n)= !((t.args.length:Int) !=((n:Nat):Int)):=by rw[Xm];simp;omega
  have h2:decide (0<=t.index)= !decide (t.index<0):=by rw[Xm];simp
  simp[h1,h2,bne]
theorem VA:∀(b:Nat) (t:Tm),t.full<=b->b<1099511627776->PC E 192 [.agg t.view] (Ij t):=by
 intro b;induction b with
 |zero=>intro t h;have:=t.Aa;omega
 |succ b ih=>
 intro t hsz hb;have hsz':=Tm.Af t;have hszz:=Tm.size_eq t;have hle:=Tm.Aj t;have hlen:=zd Tm.full Tm.Aa t.args;have hsh:=Tm.Al t;have h1:=Yep t.kind;have h2:=Yc2 t.kind;have h3:=PD t.ty;have h4:=OG t.ty (by omega);have bad:t.shape=false->(V.AD [.i 0,.bool false])=Ij t:=fun h=>by simp[Ij,Tm.nodes,h]
 refine M.F Tryz.func192 ?_;(repeat' first|refine M.gw ?_|refine M.c2 (h1) ?_|refine M.c2 (h2) ?_|refine M.c2 (h3) ?_|refine M.c2 (h4) ?_|refine M.gs ?_ ?_<;>intro h|refine M.cs ?_ ?_<;>intro h|fail);all_goals first
  |(have hd:t.head=false:=by rw[t.FD];simp_all
    have:t.shape=false:=by rw[hsh,hd,Xo]
    simp[Tm.nodes,this,zk,zc,V.wk,V.Ap];done)
  |(have hd:t.head=true:=by rw[t.FD];simp_all
    refine AW.range t.args.length (fun m=>∀j (hj:j<t.args.length),j<m->(t.args[j]).shape=true)
     (fun m=>([(1,.ptr 0 0),(8,.i (1+((t.args.take m).map Tm.size).sum)),(59,.s .tm t.args),(60,.i t.args.length),(61,.i m)],⟨1,[(0,.var t.view)]⟩))
     (by omega) (fun m=>rfl) (fun m=>rfl) rfl (by intro j hj h;omega) (M.W [some 0]) ?_ ?_
    .intro m hm hP;have hs1:=yk Tm.size t.args m hm;have hs2:=za Tm.full (Wi hm);have hs3:=zm Tm.size t.args (m+1);have hs4:=Tm.DC t.args[m];have hs5:=Tm.Aj t.args[m];(repeat' first|refine M.gw ?_|refine M.c2 (ih _ ?_ ?_) ?_|refine M.cs ?_ ?_<;>intro h|exact M.le|exact M.lt|fail)
     .have h1:(t.args[m]).shape=false:=by simpa using h
      have:t.shape=false:=by rw[hsh,xn Tm.shape hm h1,YP]
      simp[Tm.nodes,this,zk,zc,V.wk,V.Ap]
     .have hh:(t.args[m]).shape=true:=by simpa using h
      refine⟨rfl,ya (p:=fun t=>Tm.shape t=true) hm hP hh,?_⟩;have e:(1+((((t.args.take (m+1)).map Tm.size).sum:Nat):Int))=1+(((t.args.take m).map Tm.size).sum:Nat)+t.args[m].nodes:=by simp only[Tm.nodes,hh,hs1];simp;omega
      simp only[e];exact(M.W [some 0])
    .intro hP;have:t.shape=true:=by simp only[hsh,hd,w4 Tm.shape t.args fun j hj=>hP j hj hj];simp
     (repeat' first|refine M.gw ?_|fail);simp[Tm.nodes,this,zk,zc,hszz,V.wk,V.Ap])
theorem Kf(t:Tm)(ht:t.full<1099511627776):PC E 160 [.agg t.view] (.AD [.i t.num,.i t.err]):=by
 have h1:=VA _ t (Wj _) ht;refine M.F Tryz.func160 ?_;(repeat' first|refine M.gw ?_|refine M.c2 (h1) ?_|refine M.zb ?_|refine M.cs ?_ ?_<;>intro h|fail);all_goals simp_all[zk,V.wk,V.Ap,zc,Tm.num,Tm.err,Tm.nodes]
 all_goals(first|omega|(split<;>first|omega|simp_all))
theorem Yib(t:Tm)(ht:t.full<1099511627776):PC E 200 [.agg t.view] (.AD [.i t.num,.i t.err]):=by
 have h1:=Kf t ht;refine M.F Tryz.func200 ?_;(repeat' first|refine M.gw ?_|refine M.c2 (h1) ?_|fail);simp[zk,V.wk,V.Ap,zc,Ty.view,Tm.view]
theorem Yc6(t:Tm)(ht:t.full<1099511627776):PC E 207 [.agg t.view] (.i t.err):=by
 have h1:=Kf t ht;refine M.F Tryz.func207 ?_;(repeat' first|refine M.gw ?_|refine M.c2 (h1) ?_|fail);simp[zk,V.wk,V.Ap,zc,Ty.view,Tm.view]
end Go.Ab
namespace Go.Ab
open Go Go.Proofs
set_option maxRecDepth 100000
set_option linter.all false
theorem xh:∀(n:Nat) (x y:Ty),x.size<=n->n<1099511627776->PC E 61 [.agg x.view,.agg y.view] (.bool (decide (x=y))):=by
 intro n;induction n with
 |zero=>intro x y h;have:=x.size_pos;omega
 |succ n ih=>
 intro x y hsz hb;have hsz':=Ty.size_eq x;have hlen:=zd Ty.size Ty.size_pos x.args;have heq:=Ty.eq_iff x y;refine M.F Tryz.func61 ?_;(repeat' first|refine M.gw ?_|refine M.gs ?_ ?_<;>intro h|refine M.cs ?_ ?_<;>intro h|fail)
 .have:¬x=y:=by rw[heq];simp_all
  simp[this,zk,zc,V.wk,V.Ap]
 .have:¬x=y:=by rintro rfl;simp at h
  simp[this,zk,zc,V.wk,V.Ap]
 .rename_i hk;simp at h hk;have hl:x.args.length=y.args.length:=by omega
  refine AW.range x.args.length (fun m=>∀j (hj:j<x.args.length),j<m->x.args[j]=y.args[j]'(by omega))
   (fun m=>([(2,.ptr 0 0),(3,.ptr 1 0),(22,.i x.args.length),(23,.i m)],⟨2,[(0,.var x.view),(1,.var y.view)]⟩))
   (by omega) (fun m=>rfl) (fun m=>rfl) rfl (by intro j hj h;omega) (M.W [some 0,some 1]) ?_ ?_
  .intro m hm hP;have hm':m<y.args.length:=by omega
   have hs2:=za Ty.size (Wi hm);(repeat' first|refine M.gw ?_|refine M.c2 (ih _ _ ?_ ?_) ?_|refine M.cs ?_ ?_<;>intro h|exact M.le|exact M.lt|fail)
   .have:¬x=y:=by rw[heq];exact fun hc=>Sm hm hm' (by simpa using h) hc.2
    simp[this,zk,zc,V.wk,V.Ap]
   .exact ⟨rfl,UF hl hm hP (by simpa using h),(M.W [some 0,some 1])⟩
  .intro hP;have:x=y:=heq.2 ⟨hk,S0 hl hP⟩;(repeat' first|refine M.gw ?_|fail);simp[this,zk,zc,V.wk,V.Ap]
theorem Rf:∀(n:Nat) (x y:Tm),x.full<=n->n<1099511627776->PC E 101 [.agg x.view,.agg y.view] (.bool (decide (x=y))):=by
 intro n;induction n with
 |zero=>intro x y h;have:=x.Aa;omega
 |succ n ih=>
 intro x y hsz hb;have hsz':=Tm.Af x;have hlen:=zd Tm.full Tm.Aa x.args;have heq:=Tm.eq_iff x y;have hty:=xh _ x.ty y.ty (Wj _) (by omega);refine M.F Tryz.func101 ?_;(repeat' first|refine M.gw ?_|refine M.c2 (hty) ?_|refine M.gs ?_ ?_<;>intro h|refine M.cs ?_ ?_<;>intro h|fail)
 .have:¬x=y:=by rw[heq];simp_all
  simp[this,zk,zc,V.wk,V.Ap]
 .have:¬x=y:=by rw[heq];simp_all
  simp[this,zk,zc,V.wk,V.Ap]
 .have:¬x=y:=by rw[heq];simp_all
  simp[this,zk,zc,V.wk,V.Ap]
 .have:¬x=y:=by rintro rfl;simp at h
  simp[this,zk,zc,V.wk,V.Ap]
 .rename_i h1 h2 h3;simp at h h1 h2 h3;have hl:x.args.length=y.args.length:=by omega
  refine AW.range x.args.length (fun m=>∀j (hj:j<x.args.length),j<m->x.args[j]=y.args[j]'(by omega))
   (fun m=>([(2,.ptr 0 0),(3,.ptr 1 0),(37,.i x.args.length),(38,.i m)],⟨2,[(0,.var x.view),(1,.var y.view)]⟩))
   (by omega) (fun m=>rfl) (fun m=>rfl) rfl (by intro j hj h;omega) (M.W [some 0,some 1]) ?_ ?_
  .intro m hm hP;have hm':m<y.args.length:=by omega
   have hs2:=za Tm.full (Wi hm);(repeat' first|refine M.gw ?_|refine M.c2 (ih _ _ ?_ ?_) ?_|refine M.cs ?_ ?_<;>intro h|exact M.le|exact M.lt|fail)
   .have:¬x=y:=by rw[heq];exact fun hc=>Sm hm hm' (by simpa using h) hc.2.2.2
    simp[this,zk,zc,V.wk,V.Ap]
   .exact ⟨rfl,UF hl hm hP (by simpa using h),(M.W [some 0,some 1])⟩
  .intro hP;have:x=y:=heq.2 ⟨h1,h2,h3,S0 hl hP⟩;(repeat' first|refine M.gw ?_|fail);simp[this,zk,zc,V.wk,V.Ap]
def EU(b:Bool)(l:List (Int×Int)):Bool:=b&&l.all fun p=>decide (p.1<=536870912)
theorem Zmy(b:Bool)(l l':List (Int×Int)):EU (EU b l) l'=EU b (l++l'):=by simp[EU,YO]
theorem U6(b:Bool):EU b []=b:=by simp[EU]
theorem Yf9(b:Bool)(i bl:Int):AC E 167 [.i i,.i bl,.ptr 0 0] ⟨1,[(0,.var [.bool b])]⟩ (.AD []) ⟨1,[(0,.var [.bool (EU b [(i,bl)])])]⟩:=by
 refine M.F Tryz.func167 ?_;(repeat' first|refine M.gw ?_|refine M.gs ?_ ?_<;>intro h|fail)
 ·(exact M.n2 [some 0] (h6:=(by(repeat'(first|exact trivial|refine And.intro ?_ ?_|refine⟨_,U,_,U,_,U,?_⟩|exact Ao.of_eq (by simp[Aq.Ay,EU,h])));done)) (h8:=(by simp[zk,V.wk,V.Ap,zc,Ty.view,Tm.view,EU,h])))
 ·(exact M.n2 [some 0] (h6:=(by(repeat'(first|exact trivial|refine And.intro ?_ ?_|refine⟨_,U,_,U,_,U,?_⟩|exact Ao.of_eq (by simp[Aq.Ay,EU,h])));done)) (h8:=(by simp[zk,V.wk,V.Ap,zc,Ty.view,Tm.view,EU,h])))
theorem Zw8:∀(n:Nat) (t:Tm) (b:Bool) (bl:Int),t.full<=n->n<1099511627776->0<=bl->bl+n<1099511627776->AC E 194 [.agg t.view,.i bl,.ptr 0 0,.ptr 1 0] ⟨3,[(0,.var [.fn (.func 167) [] [.ptr 2 0]]),(1,.var [.fn (.func 194) [] [.ptr 0 0,.ptr 1 0]]),(2,.var [.bool b])]⟩ (.AD [])
 ⟨3,[(0,.var [.fn (.func 167) [] [.ptr 2 0]]),(1,.var [.fn (.func 194) [] [.ptr 0 0,.ptr 1 0]]),(2,.var [.bool (EU b (t.vars bl))])]⟩:=by
 intro n;induction n with
 |zero=>intro t b bl h;have:=t.Aa;omega
 |succ n ih=>
 intro t b bl hsz hb hbl hbn;have hsz':=Tm.Af t;have hlen:=zd Tm.full Tm.Aa t.args;have hv:=Tm.AP bl t;refine M.F Tryz.func194 ?_;(repeat' first|refine M.gw ?_|refine M.cv (Yf9 _ _ _) [2] 0 ?_|refine M.cs ?_ ?_<;>intro h|fail);all_goals
  have hup:up t.kind bl<=bl+1:=by simp only[up];split<;>omega
  have hup0:0<=up t.kind bl:=by simp only[up];split<;>omega
  refine AW.range t.args.length (fun m=>True)
   (fun m=>([(1,.i (up t.kind bl)),(3,.ptr 1 0),(22,.s .tm t.args),(23,.i t.args.length),(24,.i m)],⟨4,[(0,.var [.fn (.func 167) [] [.ptr 2 0]]),(1,.var [.fn (.func 194) [] [.ptr 0 0,.ptr 1 0]]),(2,.var [.bool (EU b ((if t.kind=1 then [(t.index,bl)] else [])++(t.args.take m).flatMap (Tm.vars (up t.kind bl))))]),(3,.var t.view)]⟩))
   (by omega) (fun m=>rfl) (fun m=>rfl) rfl trivial ?_ ?_ ?_
  .simp_all only[beq_iff_eq,beq_eq_false_iff_ne,ne_eq];exact(M.W [some 0,some 1,some 2,some 3] (hf:=(by(repeat'(first|exact trivial|refine And.intro ?_ ?_|refine⟨_,U,_,U,?_⟩|exact Ao.refl _|exact Ao.of_eq (by simp[Aq.Ay,up, *,U6])));done)) (he:=(by(repeat'(first|exact trivial|refine And.intro ?_ ?_|refine⟨_,U,_,U,_,U,?_⟩|exact Ao.refl _|exact Ao.of_eq (by simp[Aq.Ay,up, *,U6])));done)))
  .intro m hm hP;have hs2:=za Tm.full (Wi hm);have hc:=ih t.args[m] (EU b ((if t.kind=1 then [(t.index,bl)] else [])++(t.args.take m).flatMap (Tm.vars (up t.kind bl)))) (up t.kind bl) (by omega) (by omega) hup0 (by omega);(repeat' first|refine M.gw ?_|refine M.cv (hc) [0,1,2] 0 ?_|fail);refine⟨rfl,trivial,?_⟩;exact(M.W [some 0,some 1,some 2,some 3] (he:=(by(repeat'(first|exact trivial|refine And.intro ?_ ?_|refine⟨_,U,_,U,_,U,?_⟩|exact Ao.refl _|exact Ao.of_eq (by simp[Aq.Ay,Zmy,JN _ _ _ hm])));done)))
  .intro hP;skip
   (exact M.n2 [some 0,some 1,some 2] (h6:=(by(repeat'(first|exact trivial|refine And.intro ?_ ?_|refine⟨_,U,_,U,_,U,?_⟩|exact Ao.refl _|exact Ao.of_eq (by simp[Aq.Ay,hv])));done)) (h8:=(by simp[zk,V.wk,V.Ap,zc,Ty.view,Tm.view,hv])))
theorem Zym(t:Tm)(b:Bool)(ht:t.full<1099511627776):AC E 166 [.agg t.view,.fn (.func 167) [] [.ptr 0 0]] ⟨1,[(0,.var [.bool b])]⟩ (.AD []) ⟨1,[(0,.var [.bool (EU b (t.vars 0))])]⟩:=by
 have hc:=Zw8 _ t b 0 (Wj _) (by omega) (by omega) (by omega);refine M.F Tryz.func166 ?_;(repeat' first|refine M.gw ?_|refine M.cv (hc) [2,3,0] 0 ?_|fail)
 (exact M.n2 [some 0] (h8:=(by simp[zk,V.wk,V.Ap,zc,Ty.view,Tm.view,EU])))
theorem Mb(t:Tm)(ht:t.full<1099511627776):PC E 126 [.agg t.view] (.bool t.near):=by
 have hc:=Zym t true ht;refine M.F Tryz.func126 ?_;(repeat' first|refine M.gw ?_|refine M.cb (hc) [1] 0 ?_|fail);simp[zk,V.wk,V.Ap,EU,Tm.near]
end Go.Ab
