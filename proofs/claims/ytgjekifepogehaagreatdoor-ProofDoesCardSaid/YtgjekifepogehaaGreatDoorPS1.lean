/- A part of this seat's proofs. No conditions. -/
import Derived.Test.YtgjekifepogehaaGreatDoorRows
import Derived.Test.YtgjekifepogehaaGreatDoorPD1
namespace Go.Ab
open Go Go.Proofs
def MH:List (TypeId×TI):=[
 (2,⟨1,[.int .i64 0],.int .i64⟩),
 (3,⟨1,[.int .i64 0],.int .i64⟩),
 (4,⟨1,[.bool false],.bool⟩),
 (5,⟨1,[.int .u8 0],.int .u8⟩),
 (9,⟨1,[.str ⟨#[]⟩],.str⟩),
 (12,⟨1,[.int .u64 0],.int .u64⟩),
 (13,⟨2,[.str ⟨#[]⟩,.int .u64 0],.strct [(0,1,false),(1,1,false)]⟩),
 (20,⟨1,[.raw .nilIface],.other⟩),
 (21,⟨1,[.int .i32 0],.int .i32⟩),
 (22,⟨1,[.slice .nil (.t .int [])],.slc (some .int) 1 8⟩),
 (23,⟨1,[.slice .nil (.t .ty [])],.slc (some .ty) 2 32⟩),
 (24,⟨2,[.int .i64 0,.slice .nil (.t .ty [])],.strct [(0,1,false),(1,1,false)]⟩),
 (25,⟨2,[.int .i64 0,.slice .nil (.t .ty [])],.strct [(0,1,false),(1,1,false)]⟩),
 (26,⟨1,[.slice .nil (.t .tm [])],.slc (some .tm) 5 72⟩),
 (27,⟨1,[.slice .nil (.t .fm [])],.slc (some .fm) 5 88⟩),
 (28,⟨1,[.slice .nil (.t .pf [])],.slc (some .pf) 7 120⟩),
 (29,⟨7,[.int .i64 0,.int .i64 0,.int .i64 0,.slice .nil (.t .ty []),.slice .nil (.t .tm []),.slice .nil (.t .fm []),.slice .nil (.t .pf [])],.strct [(0,1,false),(1,1,false),(2,2,true),(4,1,false),(5,1,false),(6,1,false)]⟩),
 (30,⟨7,[.int .i64 0,.int .i64 0,.int .i64 0,.slice .nil (.t .ty []),.slice .nil (.t .tm []),.slice .nil (.t .fm []),.slice .nil (.t .pf [])],.strct [(0,1,false),(1,1,false),(2,2,true),(4,1,false),(5,1,false),(6,1,false)]⟩),
 (31,⟨5,[.int .i64 0,.int .i64 0,.int .i64 0,.slice .nil (.t .ty []),.slice .nil (.t .tm [])],.strct [(0,1,false),(1,1,false),(2,2,true),(4,1,false)]⟩),
 (32,⟨5,[.int .i64 0,.int .i64 0,.int .i64 0,.slice .nil (.t .ty []),.slice .nil (.t .tm [])],.strct [(0,1,false),(1,1,false),(2,2,true),(4,1,false)]⟩),
 (37,⟨1,[.nilp],.other⟩),
 (40,⟨2,[.slice .nil (.t .ty []),.slice .nil (.t .fm [])],.strct [(0,1,false),(1,1,false)]⟩),
 (41,⟨2,[.slice .nil (.t .ty []),.slice .nil (.t .fm [])],.strct [(0,1,false),(1,1,false)]⟩),
 (47,⟨1,[.int .i64 0],.int .i64⟩),
 (55,⟨2,[.int .i64 0,.int .i64 0],.arr 2 1 false⟩),
 (57,⟨1,[.slice .nil (.u 2 [])],.slc none 2 16⟩),
 (64,⟨5,[.int .i64 0,.int .i64 0,.slice .nil (.t .ty []),.slice .nil (.t .tm []),.slice .nil (.t .fm [])],.strct [(0,1,false),(1,2,true),(3,1,false),(4,1,false)]⟩),
 (65,⟨5,[.int .i64 0,.int .i64 0,.slice .nil (.t .ty []),.slice .nil (.t .tm []),.slice .nil (.t .fm [])],.strct [(0,1,false),(1,2,true),(3,1,false),(4,1,false)]⟩),
 (70,⟨2,[.slice .nil (.t .int []),.int .i64 0],.strct [(0,1,false),(1,1,false)]⟩),
 (71,⟨2,[.slice .nil (.t .int []),.int .i64 0],.strct [(0,1,false),(1,1,false)]⟩),
 (78,⟨6,[.int .i64 0,.int .i64 0,.slice .nil (.t .ty []),.slice .nil (.t .tm []),.slice .nil (.t .fm []),.slice .nil (.t .int [])],.strct [(0,5,true),(5,1,false)]⟩),
 (79,⟨6,[.int .i64 0,.int .i64 0,.slice .nil (.t .ty []),.slice .nil (.t .tm []),.slice .nil (.t .fm []),.slice .nil (.t .int [])],.strct [(0,5,true),(5,1,false)]⟩),
 (104,⟨1,[.nilp],.other⟩),
 (106,⟨1,[.raw (.map none)],.other⟩),
 (107,⟨1,[.raw (.map none)],.other⟩),
 (108,⟨1,[.nilf],.other⟩),
 (109,⟨1,[.nilf],.other⟩),
 (110,⟨1,[.nilf],.other⟩),
 (112,⟨3,[.nilf,.nilf,.nilf],.strct [(0,1,false),(1,1,false),(2,1,false)]⟩),
 (115,⟨1,[.nilf],.other⟩),
 (117,⟨1,[.nilf],.other⟩),
 (120,⟨2,[.int .i64 0,.int .i64 0],.strct [(0,1,false),(1,1,false)]⟩),
 (121,⟨2,[.int .i64 0,.int .i64 0],.strct [(0,1,false),(1,1,false)]⟩),
 (132,⟨1,[.nilp],.other⟩),
 (133,⟨2,[.int .i64 0,.bool false],.strct [(0,1,false),(1,1,false)]⟩),
 (134,⟨2,[.int .i64 0,.bool false],.strct [(0,1,false),(1,1,false)]⟩),
 (149,⟨3,[.slice .nil (.t .fm []),.slice .nil (.t .ty []),.slice .nil (.t .fm [])],.strct [(0,1,false),(1,1,false),(2,1,false)]⟩),
 (150,⟨3,[.slice .nil (.t .fm []),.slice .nil (.t .ty []),.slice .nil (.t .fm [])],.strct [(0,1,false),(1,1,false),(2,1,false)]⟩),
 (159,⟨1,[.nilp],.other⟩),
 (160,⟨2,[.int .i64 0,.bool false],.strct [(0,1,false),(1,1,false)]⟩),
 (161,⟨2,[.int .i64 0,.bool false],.strct [(0,1,false),(1,1,false)]⟩),
 (163,⟨1,[.nilf],.other⟩),
 (166,⟨5,[.int .i64 0,.int .i64 0,.int .i64 0,.bool false,.bool false],.strct [(0,1,false),(1,1,false),(2,1,false),(3,1,false),(4,1,false)]⟩),
 (167,⟨5,[.int .i64 0,.int .i64 0,.int .i64 0,.bool false,.bool false],.strct [(0,1,false),(1,1,false),(2,1,false),(3,1,false),(4,1,false)]⟩),
 (176,⟨1,[.nilf],.other⟩),
 (177,⟨1,[.nilf],.other⟩),
 (178,⟨1,[.nilf],.other⟩),
 (180,⟨3,[.nilf,.nilf,.nilf],.strct [(0,1,false),(1,1,false),(2,1,false)]⟩),
 (182,⟨8,[.bool false,.bool false,.int .i64 0,.int .i64 0,.int .i64 0,.int .i64 0,.int .i64 0,.int .i64 0],.strct [(0,1,false),(1,1,false),(2,1,false),(3,1,false),(4,1,false),(5,1,false),(6,1,false),(7,1,false)]⟩),
 (183,⟨8,[.bool false,.bool false,.int .i64 0,.int .i64 0,.int .i64 0,.int .i64 0,.int .i64 0,.int .i64 0],.strct [(0,1,false),(1,1,false),(2,1,false),(3,1,false),(4,1,false),(5,1,false),(6,1,false),(7,1,false)]⟩),
 (207,⟨1,[.nilf],.other⟩),
 (208,⟨1,[.nilf],.other⟩),
 (212,⟨1,[.nilf],.other⟩),
 (214,⟨168,[.bool false,.bool false,.int .i64 0,.int .i64 0,.int .i64 0,.int .i64 0,.int .i64 0,.int .i64 0,.bool false,.bool false,.int .i64 0,.int .i64 0,.int .i64 0,.int .i64 0,.int .i64 0,.int .i64 0,.bool false,.bool false,.int .i64 0,.int .i64 0,.int .i64 0,.int .i64 0,.int .i64 0,.int .i64 0,.bool false,.bool false,.int .i64 0,.int .i64 0,.int .i64 0,.int .i64 0,.int .i64 0,.int .i64 0,.bool false,.bool false,.int .i64 0,.int .i64 0,.int .i64 0,.int .i64 0,.int .i64 0,.int .i64 0,.bool false,.bool false,.int .i64 0,.int .i64 0,.int .i64 0,.int .i64 0,.int .i64 0,.int .i64 0,.bool false,.bool false,.int .i64 0,.int .i64 0,.int .i64 0,.int .i64 0,.int .i64 0,.int .i64 0,.bool false,.bool false,.int .i64 0,.int .i64 0,.int .i64 0,.int .i64 0,.int .i64 0,.int .i64 0,.bool false,.bool false,.int .i64 0,.int .i64 0,.int .i64 0,.int .i64 0,.int .i64 0,.int .i64 0,.bool false,.bool false,.int .i64 0,.int .i64 0,.int .i64 0,.int .i64 0,.int .i64 0,.int .i64 0,.bool false,.bool false,.int .i64 0,.int .i64 0,.int .i64 0,.int .i64 0,.int .i64 0,.int .i64 0,.bool false,.bool false,.int .i64 0,.int .i64 0,.int .i64 0,.int .i64 0,.int .i64 0,.int .i64 0,.bool false,.bool false,.int .i64 0,.int .i64 0,.int .i64 0,.int .i64 0,.int .i64 0,.int .i64 0,.bool false,.bool false,.int .i64 0,.int .i64 0,.int .i64 0,.int .i64 0,.int .i64 0,.int .i64 0,.bool false,.bool false,.int .i64 0,.int .i64 0,.int .i64 0,.int .i64 0,.int .i64 0,.int .i64 0,.bool false,.bool false,.int .i64 0,.int .i64 0,.int .i64 0,.int .i64 0,.int .i64 0,.int .i64 0,.bool false,.bool false,.int .i64 0,.int .i64 0,.int .i64 0,.int .i64 0,.int .i64 0,.int .i64 0,.bool false,.bool false,.int .i64 0,.int .i64 0,.int .i64 0,.int .i64 0,.int .i64 0,.int .i64 0,.bool false,.bool false,.int .i64 0,.int .i64 0,.int .i64 0,.int .i64 0,.int .i64 0,.int .i64 0,.bool false,.bool false,.int .i64 0,.int .i64 0,.int .i64 0,.int .i64 0,.int .i64 0,.int .i64 0,.bool false,.bool false,.int .i64 0,.int .i64 0,.int .i64 0,.int .i64 0,.int .i64 0,.int .i64 0],.arr 21 8 true⟩),
 (223,⟨1,[.nilf],.other⟩),
 (224,⟨14,[.int .i64 0,.int .i64 0,.int .i64 0,.int .i64 0,.int .i64 0,.int .i64 0,.int .i64 0,.int .i64 0,.int .i64 0,.int .i64 0,.int .i64 0,.int .i64 0,.int .i64 0,.int .i64 0],.arr 14 1 false⟩),
 (237,⟨1,[.int .u64 0],.int .u64⟩),
 (244,⟨1,[.int .i64 0],.int .i64⟩),
 (251,⟨1,[.int .u32 0],.int .u32⟩),
 (253,⟨1,[.int .u64 0],.int .u64⟩),
 (256,⟨1,[.int .u64 0],.int .u64⟩),
 (260,⟨1,[.nilp],.other⟩),
 (263,⟨1,[.nilp],.other⟩)]
set_option maxRecDepth 100000
theorem Yka:MH.all (fun p=>MI Tryz.prog p.1 p.2)=true:=ew
def PE:List V:=[.bool false,.bool false,.i 0,.i 0,.i 0,.i 0,.i 0,.i 0,.bool true,.bool false,.i 0,.i 0,.i 0,.i 0,.i 0,.i 0,.bool true,.bool false,.i 0,.i 0,.i 0,.i 0,.i 0,.i 0,.bool false,.bool false,.i 0,.i 0,.i 2,.i 0,.i 0,.i 0,.bool false,.bool false,.i 0,.i 0,.i 1,.i 0,.i 0,.i 0,.bool false,.bool false,.i 0,.i 0,.i 1,.i 0,.i 0,.i 0,.bool false,.bool false,.i 0,.i 1,.i 1,.i 0,.i 0,.i 1,.bool false,.bool false,.i 0,.i 0,.i 2,.i 0,.i 0,.i 0,.bool false,.bool true,.i 0,.i 0,.i 1,.i 0,.i 1,.i 0,.bool false,.bool false,.i 1,.i 0,.i 1,.i 0,.i 0,.i 0,.bool false,.bool false,.i 1,.i 1,.i 1,.i 0,.i 0,.i 0,.bool false,.bool false,.i 0,.i 0,.i 2,.i 0,.i 1,.i 1,.bool false,.bool true,.i 0,.i 0,.i 1,.i 0,.i 1,.i 0,.bool false,.bool false,.i 1,.i 0,.i 1,.i 0,.i 0,.i 0,.bool false,.bool false,.i 1,.i 1,.i 1,.i 0,.i 0,.i 0,.bool false,.bool false,.i 0,.i 0,.i 2,.i 0,.i 1,.i 1,.bool false,.bool false,.i 1,.i 1,.i 2,.i 1,.i 1,.i 1,.bool false,.bool false,.i 1,.i 1,.i 2,.i 1,.i 2,.i 1,.bool false,.bool false,.i 1,.i 0,.i 0,.i 0,.i 0,.i 0,.bool false,.bool false,.i 0,.i 1,.i 2,.i 1,.i 0,.i 0,.bool false,.bool false,.i 0,.i 0,.i 1,.i 0,.i 0,.i 0]
def Nx:List V:=[.i 0,.i 0,.i 1,.i 2,.i 0,.i 1,.i 3,.i 0,.i 2,.i 3,.i 2,.i 1,.i 1,.i 0]
noncomputable def E:Env:=⟨Tryz.prog,[(1,Nx),(0,PE)],MH,Yka,[]⟩
end Go.Ab
namespace Go.Ab
open Go Go.Proofs
set_option maxRecDepth 100000
set_option linter.all false
theorem mixed:E.P.follows .mixedOrders=true:=Tryz.checked.mixed
theorem wn:∀(b:Nat) (t:Ty),t.size<=b->b<1099511627776->PC E 136 [.agg t.view] (.agg t.view):=by
 intro b;induction b with
 |zero=>intro t h;have:=t.size_pos;omega
 |succ b ih=>
 intro t hsz hb;have hsz':=Ty.size_eq t;have hlen:=zd Ty.size Ty.size_pos t.args;refine M.F Tryz.func136 ?_;refine M.w0 ?_;refine M.rt t.args.length
  (fun m=>([(1,.ptr 0 0),(2,.ptr 1 0),(3,.slice (.own 2) (.t .ty (t.args.take m))),(7,.s .ty t.args),(8,.i t.args.length),(9,.i m)],⟨3,[(0,.var t.view),(1,.var [.i 0,.slice .nil (.t .ty [])]),(2,.row)]⟩))
  (M.W OP) ?_ ?_
 .intro m hm hP;have hs2:=zc Ty.size (ZA hm);(repeat' first|refine M.w0 ?_|refine M.c2 (ih _ ?_ ?_) ?_|exact M.le|exact M.lt|fail);exact⟨rfl,trivial,(M.W [some 0,some 1,some 4] (hf:=(by(repeat'(first|exact trivial|refine And.intro ?_ ?_|refine⟨_,U,_,U,?_⟩|exact Ai.refl _|exact Ai.of_eq eO));done)))⟩
 .exact lC
theorem IC:∀(b:Nat) (t:Ty),t.size<=b->b<1099511627776->PC E 214 [.agg t.view] (.agg t.view):=by
 intro b;induction b with
 |zero=>intro t h;have:=t.size_pos;omega
 |succ b ih=>
 intro t hsz hb;have hsz':=Ty.size_eq t;have hlen:=zd Ty.size Ty.size_pos t.args;refine M.F Tryz.func214 ?_;refine M.w0 ?_;refine M.rt t.args.length
  (fun m=>([(1,.ptr 0 0),(2,.ptr 1 0),(3,.ptr 2 0),(10,.s .ty t.args),(11,.i t.args.length),(12,.i m)],⟨4,[(0,.var t.view),(1,.var [.i 0,.slice .nil (.t .ty [])]),(2,.var [.i t.kind,.slice (.own 3) (.t .ty (t.args.take m))]),(3,.row)]⟩))
  (M.W HU) ?_ ?_
 .intro m hm hP;have hs2:=zc Ty.size (ZA hm);(repeat' first|refine M.w0 ?_|refine M.c2 (ih _ ?_ ?_) ?_|exact M.le|exact M.lt|fail);exact⟨rfl,trivial,(M.W [some 0,some 1,some 2,some 5] (he:=(by(repeat'(first|exact trivial|exact Or.inr ⟨_,U,rfl⟩|refine And.intro ?_ ?_|refine⟨_,U,_,U,_,U,?_⟩|exact Ai.refl _|exact Ai.of_eq eO));done)))⟩
 .exact lC
theorem Zp6:∀(b:Nat) (t:Ty),t.size<=b->b<1099511627776->PC E 243 [.agg t.view] (NQ t):=by
 intro b;induction b with
 |zero=>intro t h;have:=t.size_pos;omega
 |succ b ih=>
 intro t hsz hb;have hsz':=Ty.size_eq t;have hlen:=zd Ty.size Ty.size_pos t.args;have hsh:=Ty.Ak t;refine M.F Tryz.func243 ?_;refine M.w0 ?_;refine AW.GA (ι:={n:Nat // Ex t.kind=some n}) (fun n=>([(1,.ptr 0 0),(4,.i n.1)],⟨1,[(0,.var t.view)]⟩)) ?_ ?_
 .refine AW.block ?_;(repeat' first|refine M.w0 ?_|refine M.cs ?_ ?_<;>intro h|fail)
  .exact lX
  .exact lX
  .exact lX
  .exact mX
  .exact mX
  .have:t.shape=false:=by simp at*;simp[hsh,Ex, *]
   simp[NQ,Ty.nodes,this,zh,za,V.wk,V.An]
 rintro⟨n,hn⟩;(repeat' first|refine M.w0 ?_|refine M.cs ?_ ?_<;>intro h|fail)
 .have h1:¬t.args.length=n:=eU
  have:t.shape=false:=by simp[hsh,hn,h1]
  simp[NQ,Ty.nodes,this,zh,za,V.wk,V.An]
 have hn':t.args.length=n:=eU
 refine M.rp t.args.length (fun m=>∀j (hj:j<t.args.length),j<m->(t.args[j]).shape=true)
  (fun m=>([(1,.ptr 0 0),(5,.i (1+((t.args.take m).map Ty.size).sum)),(25,.s .ty t.args),(26,.i t.args.length),(27,.i m)],⟨1,[(0,.var t.view)]⟩))
  eR (M.W Ay) ?_ ?_
 .intro m hm hP;have hs1:=yq Ty.size t.args m hm;have hs2:=zc Ty.size (ZA hm);have hs3:=zl Ty.size t.args (m+1);have hs4:=Ty.Ew t.args[m];(repeat' first|refine M.w0 ?_|refine M.c2 (ih _ ?_ ?_) ?_|refine M.cs ?_ ?_<;>intro h|exact M.le|exact M.lt|fail)
  .have h1:(t.args[m]).shape=false:=ek
   have:t.shape=false:=by rw[hsh,wb Ty.shape hm h1,cY]
   simp[NQ,Ty.nodes,this,zh,za,V.wk,V.An]
  .have hh:(t.args[m]).shape=true:=ek
   refine⟨rfl,ya (p:=fun t=>Ty.shape t=true) hm hP hh,?_⟩;have e:(1+((((t.args.take (m+1)).map Ty.size).sum:Nat):Int))=1+(((t.args.take m).map Ty.size).sum:Nat)+t.args[m].nodes:=by simp only[Ty.nodes,hh,hs1];simp;omega
   simp only[e];exact(M.W Ay)
 .intro hP;have:t.shape=true:=jo
  refine M.w0 ?_;simp[NQ,Ty.nodes,this,zh,za,hsz',V.wk,V.An]
theorem E7(i:Int):PC E 55 [.i i] (.agg (Tm.mk 1 i (.mk 0 []) []).view):=by
 refine M.F Tryz.func55 ?_;refine M.w0 ?_;simp[zh,V.wk,V.An,za,Ty.view,Tm.view]
theorem Uc(i:Int):PC E 219 [.i i] (.agg (Tm.mk 1 i (.mk 0 []) []).view):=by
 refine M.F Tryz.func219 ?_;refine M.w0 ?_;simp[zh,V.wk,V.An,za,Ty.view,Tm.view]
theorem uq:PC E 45 [] (.agg (Ty.mk 1 []).view):=by
 refine M.F Tryz.func45 ?_;refine M.w0 ?_;simp[zh,V.wk,V.An,za,Ty.view,Tm.view]
theorem Ga:PC E 61 [] (.agg (Ty.mk 2 []).view):=by
 refine M.F Tryz.func61 ?_;refine M.w0 ?_;simp[zh,V.wk,V.An,za,Ty.view,Tm.view]
theorem QZ:PC E 74 [] (.agg (Ty.mk 5 []).view):=by
 refine M.F Tryz.func74 ?_;refine M.w0 ?_;simp[zh,V.wk,V.An,za,Ty.view,Tm.view]
theorem V1(x y:Ty)(hx:x.size<1099511627776)(hy:y.size<1099511627776):PC E 75 [.agg x.view,.agg y.view] (.agg (Ty.mk 3 [x,y]).view):=by
 have h1:=wn _ x (ZB _) hx;have h2:=wn _ y (ZB _) hy;refine M.F Tryz.func75 ?_;refine M.w2 @h1 @h2 ?_;simp[zh,V.wk,V.An,za,Ty.view,Tm.view]
theorem KY(x y:Ty)(hx:x.size<1099511627776)(hy:y.size<1099511627776):PC E 76 [.agg x.view,.agg y.view] (.agg (Ty.mk 4 [x,y]).view):=by
 have h1:=wn _ x (ZB _) hx;have h2:=wn _ y (ZB _) hy;refine M.F Tryz.func76 ?_;refine M.w2 @h1 @h2 ?_;simp[zh,V.wk,V.An,za,Ty.view,Tm.view]
theorem Rz(t:Ty):PC E 206 [.agg t.view] (.bool t.B3):=by
 refine M.F Tryz.func206 ?_;(repeat' first|refine M.w0 ?_|refine M.gs ?_ ?_<;>intro h|fail);all_goals simp_all[zh,V.wk,V.An,za,Ty.B3]
 rw[aS];simp
theorem Yg1(k:Int):PC E 223 [.i k] (.bool (wl k)):=by
 refine M.F Tryz.func223 ?_;(repeat' first|refine M.w0 ?_|refine M.gs ?_ ?_<;>intro h|fail);all_goals simp_all[zh,V.wk,V.An,za,wl]
theorem RP(t:Ty)(ht:t.size<1099511627776):PC E 205 [.agg t.view] (.AM [.i t.num,.i t.err]):=by
 have h1:=Zp6 _ t (ZB _) ht;refine M.F Tryz.func205 ?_;(repeat' first|refine M.w1 @h1 ?_|refine M.zb ?_|refine M.cs ?_ ?_<;>intro h|fail);all_goals simp_all[zh,V.wk,V.An,za,Ty.num,Ty.err,Ty.nodes]
 all_goals(first|omega|(split<;>first|omega|simp_all))
theorem Yfq(k:Int):PC E 222 [.i k] (.AM [.i ((DL k).getD 0),.bool (DL k).isSome]):=by
 refine M.F Tryz.func222 ?_;(repeat' first|refine M.w0 ?_|refine M.gs ?_ ?_<;>intro h|refine M.cs ?_ ?_<;>intro h|fail)
 .exact mC
 .exact mC
 .rename_i h0;simp at h h0;have:k=1\/k=2\/k=3\/k=4\/k=5\/k=6\/k=7\/k=8\/k=9\/k=10\/k=11\/k=12\/k=13:=dY
  rcases this with rfl|rfl|rfl|rfl|rfl|rfl|rfl|rfl|rfl|rfl|rfl|rfl|rfl
  .refine L.Dx 1 rfl rfl rfl rfl rfl ?_ ?_ rfl ?_
   .decide
   .decide
   refine M.w0 ?_
   rfl
  .refine L.Dx 2 rfl rfl rfl rfl rfl ?_ ?_ rfl ?_
   .decide
   .decide
   refine M.w0 ?_
   rfl
  .refine L.Dx 3 rfl rfl rfl rfl rfl ?_ ?_ rfl ?_
   .decide
   .decide
   refine M.w0 ?_
   rfl
  .refine L.Dx 4 rfl rfl rfl rfl rfl ?_ ?_ rfl ?_
   .decide
   .decide
   refine M.w0 ?_
   rfl
  .refine L.Dx 5 rfl rfl rfl rfl rfl ?_ ?_ rfl ?_
   .decide
   .decide
   refine M.w0 ?_
   rfl
  .refine L.Dx 6 rfl rfl rfl rfl rfl ?_ ?_ rfl ?_
   .decide
   .decide
   refine M.w0 ?_
   rfl
  .refine L.Dx 7 rfl rfl rfl rfl rfl ?_ ?_ rfl ?_
   .decide
   .decide
   refine M.w0 ?_
   rfl
  .refine L.Dx 8 rfl rfl rfl rfl rfl ?_ ?_ rfl ?_
   .decide
   .decide
   refine M.w0 ?_
   rfl
  .refine L.Dx 9 rfl rfl rfl rfl rfl ?_ ?_ rfl ?_
   .decide
   .decide
   refine M.w0 ?_
   rfl
  .refine L.Dx 10 rfl rfl rfl rfl rfl ?_ ?_ rfl ?_
   .decide
   .decide
   refine M.w0 ?_
   rfl
  .refine L.Dx 11 rfl rfl rfl rfl rfl ?_ ?_ rfl ?_
   .decide
   .decide
   refine M.w0 ?_
   rfl
  .refine L.Dx 12 rfl rfl rfl rfl rfl ?_ ?_ rfl ?_
   .decide
   .decide
   refine M.w0 ?_
   rfl
  .refine L.Dx 13 rfl rfl rfl rfl rfl ?_ ?_ rfl ?_
   .decide
   .decide
   refine M.w0 ?_
   rfl
end Go.Ab
namespace Go.Ab
open Go Go.Proofs
set_option maxRecDepth 100000
set_option maxHeartbeats 4000000
set_option linter.all false
theorem IU:∀(b:Nat) (t:Tm),t.full<=b->b<1099511627776->PC E 137 [.agg t.view] (.agg t.view):=by
 intro b;induction b with
 |zero=>intro t h;have:=t.Ac;omega
 |succ b ih=>
 intro t hsz hb;have hsz':=Tm.Af t;have hlen:=zd Tm.full Tm.Ac t.args;have hty:=wn _ t.ty (ZB _) dY;refine M.F Tryz.func137 ?_;refine M.w0 ?_;refine M.rt t.args.length
  (fun m=>([(1,.ptr 0 0),(2,.ptr 1 0),(3,.slice (.own 2) (.t .tm (t.args.take m))),(7,.s .tm t.args),(8,.i t.args.length),(9,.i m)],⟨3,[(0,.var t.view),(1,.var [.i 0,.i 0,.i 0,.slice .nil (.t .ty []),.slice .nil (.t .tm [])]),(2,.row)]⟩))
  (M.W OP) ?_ ?_
 .intro m hm hP;have hs2:=zc Tm.full (ZA hm);(repeat' first|refine M.w0 ?_|refine M.c2 (ih _ ?_ ?_) ?_|exact M.le|exact M.lt|fail);exact⟨rfl,trivial,(M.W [some 0,some 1,some 4] (hf:=(by(repeat'(first|exact trivial|refine And.intro ?_ ?_|refine⟨_,U,_,U,?_⟩|exact Ai.refl _|exact Ai.of_eq eO));done)))⟩
 .intro hP;refine M.w1 @hty ?_;simp[zh,V.wk,V.An,za,Ty.view,Tm.view]
theorem Dh(k:Int)(l:List Tm)(hl:(l.map Tm.full).sum<1099511627776):PC E 66 [.i k,.s .tm l] (.agg (Tm.mk k 0 (.mk 0 []) l).view):=by
 have hlen:=zd Tm.full Tm.Ac l;refine M.F Tryz.func66 ?_;refine M.w0 ?_;refine M.rt l.length
  (fun m=>([(0,.i k),(4,.ptr 0 0),(5,.slice (.own 1) (.t .tm (l.take m))),(8,.s .tm l),(9,.i l.length),(10,.i m)],⟨2,[(0,.var [.i 0,.i 0,.i 0,.slice .nil (.t .ty []),.slice .nil (.t .tm [])]),(1,.row)]⟩))
  (M.W PM) ?_ ?_
 .intro m hm hP;have hs2:=zc Tm.full (ZA hm);(repeat' first|refine M.w0 ?_|refine M.c2 (IU _ _ (ZB _) ?_) ?_|exact M.lt|fail);exact⟨rfl,trivial,(M.W [some 0,some 3] (hf:=(by(repeat'(first|exact trivial|refine And.intro ?_ ?_|refine⟨_,U,_,U,?_⟩|exact Ai.refl _|exact Ai.of_eq eO));done)))⟩
 .exact lC
theorem GX(k:Int)(s:Ty)(l:List Tm)(hl:(l.map Tm.full).sum<1099511627776)(hs:s.size<1099511627776):PC E 67 [.i k,.agg s.view,.s .tm l] (.agg (Tm.mk k 0 s l).view):=by
 have h1:=Dh k l hl;have h2:=wn _ s (ZB _) hs;refine M.F Tryz.func67 ?_;refine M.w2 @h1 @h2 ?_;simp[zh,V.wk,V.An,za,Ty.view,Tm.view]
theorem Ty.Fo(t:Ty):t.ok=(t.err==0):=by
 simp only[Ty.ok,Ty.err];cases t.shape
 .simp
 .by_cases h:t.size<=64
  .have:¬t.size>64:=dY
   simp[h,this]
  .have:t.size>64:=dY
   simp[h,this]
theorem Tm.head_eq(t:Tm):t.head=(!(!(DL t.kind).isSome)&& !((t.args.length:Int) !=(((DL t.kind).getD 0:Nat):Int))&& !decide (t.index<0)&&(!(t.index !=0)|| !(t.kind !=1))&&(bif wl t.kind then !(t.ty.err !=0) else !(!t.ty.B3))):=by
 simp only[Tm.head,Ty.Fo];cases hk:DL t.kind with
 |none=>simp
 |some n=>
  have h1:(t.args.length==n)= !((t.args.length:Int) !=((n:Nat):Int)):=iq
  have h2:decide (0<=t.index)= !decide (t.index<0):=by rw[aS];simp
  simp[h1,h2,bne]
theorem YT:∀(b:Nat) (t:Tm),t.full<=b->b<1099511627776->PC E 181 [.agg t.view] (Lh t):=by
 intro b;induction b with
 |zero=>intro t h;have:=t.Ac;omega
 |succ b ih=>
 intro t hsz hb;have hsz':=Tm.Af t;have hszz:=Tm.size_eq t;have hle:=Tm.Ah t;have hlen:=zd Tm.full Tm.Ac t.args;have hsh:=Tm.Ak t;have h1:=Yfq t.kind;have h2:=Yg1 t.kind;have h3:=Rz t.ty;have h4:=RP t.ty dY;have bad:t.shape=false->(V.AM [.i 0,.bool false])=Lh t:=fun h=>by simp[Lh,Tm.nodes,h]
 refine M.F Tryz.func181 ?_;(repeat' first|refine M.w4 @h1 @h2 @h3 @h4 ?_|refine M.gs ?_ ?_<;>intro h|refine M.cs ?_ ?_<;>intro h|fail);all_goals first
  |(have hd:t.head=false:=by rw[t.head_eq];simp_all
    have:t.shape=false:=by rw[hsh,hd,bE]
    simp[Tm.nodes,this,zh,za,V.wk,V.An];done)
  |(have hd:t.head=true:=by rw[t.head_eq];simp_all
    refine M.rp t.args.length (fun m=>∀j (hj:j<t.args.length),j<m->(t.args[j]).shape=true)
     (fun m=>([(1,.ptr 0 0),(8,.i (1+((t.args.take m).map Tm.size).sum)),(59,.s .tm t.args),(60,.i t.args.length),(61,.i m)],⟨1,[(0,.var t.view)]⟩))
     eR (M.W Ay) ?_ ?_
    .intro m hm hP;have hs1:=yq Tm.size t.args m hm;have hs2:=zc Tm.full (ZA hm);have hs3:=zl Tm.size t.args (m+1);have hs4:=Tm.Ew t.args[m];have hs5:=Tm.Ah t.args[m];(repeat' first|refine M.w0 ?_|refine M.c2 (ih _ ?_ ?_) ?_|refine M.cs ?_ ?_<;>intro h|exact M.le|exact M.lt|fail)
     .have h1:(t.args[m]).shape=false:=ek
      have:t.shape=false:=by rw[hsh,wb Tm.shape hm h1,cY]
      simp[Tm.nodes,this,zh,za,V.wk,V.An]
     .have hh:(t.args[m]).shape=true:=ek
      refine⟨rfl,ya (p:=fun t=>Tm.shape t=true) hm hP hh,?_⟩;have e:(1+((((t.args.take (m+1)).map Tm.size).sum:Nat):Int))=1+(((t.args.take m).map Tm.size).sum:Nat)+t.args[m].nodes:=by simp only[Tm.nodes,hh,hs1];simp;omega
      simp only[e];exact(M.W Ay)
    .intro hP;have:t.shape=true:=jq
     refine M.w0 ?_;simp[Tm.nodes,this,zh,za,hszz,V.wk,V.An])
theorem PV(t:Tm)(ht:t.full<1099511627776):PC E 114 [.agg t.view] (.AM [.i t.num,.i t.err]):=by
 have h1:=YT _ t (ZB _) ht;refine M.F Tryz.func114 ?_;(repeat' first|refine M.w1 @h1 ?_|refine M.zb ?_|refine M.cs ?_ ?_<;>intro h|fail);all_goals simp_all[zh,V.wk,V.An,za,Tm.num,Tm.err,Tm.nodes]
 all_goals(first|omega|(split<;>first|omega|simp_all))
theorem Yi7(t:Tm)(ht:t.full<1099511627776):PC E 110 [.agg t.view] (.AM [.i t.num,.i t.err]):=by
 have h1:=PV t ht;refine M.F Tryz.func110 ?_;refine M.w1 @h1 ?_;simp[zh,V.wk,V.An,za,Ty.view,Tm.view]
end Go.Ab
namespace Go.Ab
open Go Go.Proofs
set_option maxRecDepth 100000
set_option linter.all false
theorem xp:∀(n:Nat) (x y:Ty),x.size<=n->n<1099511627776->PC E 70 [.agg x.view,.agg y.view] (.bool (decide (x=y))):=by
 intro n;induction n with
 |zero=>intro x y h;have:=x.size_pos;omega
 |succ n ih=>
 intro x y hsz hb;have hsz':=Ty.size_eq x;have hlen:=zd Ty.size Ty.size_pos x.args;have heq:=Ty.eq_iff x y;refine M.F Tryz.func70 ?_;(repeat' first|refine M.w0 ?_|refine M.gs ?_ ?_<;>intro h|refine M.cs ?_ ?_<;>intro h|fail)
 .exact kH
 .exact lB
 .rename_i hk;simp at h hk;have hl:x.args.length=y.args.length:=dY
  refine M.rp x.args.length (fun m=>∀j (hj:j<x.args.length),j<m->x.args[j]=y.args[j]' dY)
   (fun m=>([(2,.ptr 0 0),(3,.ptr 1 0),(22,.i x.args.length),(23,.i m)],⟨2,[(0,.var x.view),(1,.var y.view)]⟩))
   eR (M.W AQ) ?_ ?_
  .exact kF
  .exact mJ
theorem QV:∀(n:Nat) (x y:Ty),x.size<=n->n<1099511627776->PC E 161 [.agg x.view,.agg y.view] (.bool (decide (x=y))):=by
 intro n;induction n with
 |zero=>intro x y h;have:=x.size_pos;omega
 |succ n ih=>
 intro x y hsz hb;have hsz':=Ty.size_eq x;have hlen:=zd Ty.size Ty.size_pos x.args;have heq:=Ty.eq_iff x y;refine M.F Tryz.func161 ?_;(repeat' first|refine M.w0 ?_|refine M.gs ?_ ?_<;>intro h|refine M.cs ?_ ?_<;>intro h|fail)
 .exact kH
 .exact lB
 .rename_i hk;simp at h hk;have hl:x.args.length=y.args.length:=dY
  refine M.rp x.args.length (fun m=>∀j (hj:j<x.args.length),j<m->x.args[j]=y.args[j]' dY)
   (fun m=>([(2,.ptr 0 0),(3,.ptr 1 0),(22,.s .ty x.args),(23,.i x.args.length),(24,.i m)],⟨2,[(0,.var x.view),(1,.var y.view)]⟩))
   eR (M.W AQ) ?_ ?_
  .exact kF
  .exact mJ
theorem OG:∀(n:Nat) (x y:Tm),x.full<=n->n<1099511627776->PC E 164 [.agg x.view,.agg y.view] (.bool (decide (x=y))):=by
 intro n;induction n with
 |zero=>intro x y h;have:=x.Ac;omega
 |succ n ih=>
 intro x y hsz hb;have hsz':=Tm.Af x;have hlen:=zd Tm.full Tm.Ac x.args;have heq:=Tm.eq_iff x y;have hty:=xp _ x.ty y.ty (ZB _) dY;refine M.F Tryz.func164 ?_;(repeat' first|refine M.w1 @hty ?_|refine M.gs ?_ ?_<;>intro h|refine M.cs ?_ ?_<;>intro h|fail)
 .exact kH
 .exact kH
 .exact kH
 .exact lB
 .rename_i h1 h2 h3;simp at h h1 h2 h3;have hl:x.args.length=y.args.length:=dY
  refine M.rp x.args.length (fun m=>∀j (hj:j<x.args.length),j<m->x.args[j]=y.args[j]' dY)
   (fun m=>([(2,.ptr 0 0),(3,.ptr 1 0),(37,.i x.args.length),(38,.i m)],⟨2,[(0,.var x.view),(1,.var y.view)]⟩))
   eR (M.W AQ) ?_ ?_
  .exact kE
  .exact mE
theorem UT:∀(n:Nat) (x y:Tm),x.full<=n->n<1099511627776->PC E 162 [.agg x.view,.agg y.view] (.bool (decide (x=y))):=by
 intro n;induction n with
 |zero=>intro x y h;have:=x.Ac;omega
 |succ n ih=>
 intro x y hsz hb;have hsz':=Tm.Af x;have hlen:=zd Tm.full Tm.Ac x.args;have heq:=Tm.eq_iff x y;have hty:=QV _ x.ty y.ty (ZB _) dY;refine M.F Tryz.func162 ?_;(repeat' first|refine M.w1 @hty ?_|refine M.gs ?_ ?_<;>intro h|refine M.cs ?_ ?_<;>intro h|fail)
 .exact kH
 .exact kH
 .exact kH
 .exact lB
 .rename_i h1 h2 h3;simp at h h1 h2 h3;have hl:x.args.length=y.args.length:=dY
  refine M.rp x.args.length (fun m=>∀j (hj:j<x.args.length),j<m->x.args[j]=y.args[j]' dY)
   (fun m=>([(2,.ptr 0 0),(3,.ptr 1 0),(37,.s .tm x.args),(38,.i x.args.length),(39,.i m)],⟨2,[(0,.var x.view),(1,.var y.view)]⟩))
   eR (M.W AQ) ?_ ?_
  .exact kE
  .exact mE
def FE(b:Bool)(l:List (Int×Int)):Bool:=b&&l.all fun p=>decide (p.1<=536870912)
theorem Znh(b:Bool)(l l':List (Int×Int)):FE (FE b l) l'=FE b (l++l'):=by simp[FE,Bool.and_assoc]
theorem VU(b:Bool):FE b []=b:=by simp[FE]
theorem Yh4(b:Bool)(i bl:Int):AC E 178 [.i i,.i bl,.ptr 0 0] ⟨1,[(0,.var [.bool b])]⟩ (.AM []) ⟨1,[(0,.var [.bool (FE b [(i,bl)])])]⟩:=by
 refine M.F Tryz.func178 ?_;(repeat' first|refine M.w0 ?_|refine M.gs ?_ ?_<;>intro h|fail)
 ·exact lI
 ·exact lI
theorem Zu4:∀(n:Nat) (t:Tm) (b:Bool) (bl:Int),t.full<=n->n<1099511627776->0<=bl->bl+n<1099511627776->AC E 148 [.agg t.view,.i bl,.ptr 0 0,.ptr 1 0] ⟨3,[(0,.var [.fn (.func 178) [] [.ptr 2 0]]),(1,.var [.fn (.func 148) [] [.ptr 0 0,.ptr 1 0]]),(2,.var [.bool b])]⟩ (.AM [])
 ⟨3,[(0,.var [.fn (.func 178) [] [.ptr 2 0]]),(1,.var [.fn (.func 148) [] [.ptr 0 0,.ptr 1 0]]),(2,.var [.bool (FE b (t.vars bl))])]⟩:=by
 intro n;induction n with
 |zero=>intro t b bl h;have:=t.Ac;omega
 |succ n ih=>
 intro t b bl hsz hb hbl hbn;have hsz':=Tm.Af t;have hlen:=zd Tm.full Tm.Ac t.args;have hv:=Tm.AU bl t;refine M.F Tryz.func148 ?_;(repeat' first|refine M.w0 ?_|refine M.cv (Yh4 _ _ _) [2] 0 ?_|refine M.cs ?_ ?_<;>intro h|fail);all_goals
  have hup:up t.kind bl<=bl+1:=eP
  have hup0:0<=up t.kind bl:=eP
  refine M.rt t.args.length
   (fun m=>([(1,.i (up t.kind bl)),(3,.ptr 1 0),(22,.s .tm t.args),(23,.i t.args.length),(24,.i m)],⟨4,[(0,.var [.fn (.func 178) [] [.ptr 2 0]]),(1,.var [.fn (.func 148) [] [.ptr 0 0,.ptr 1 0]]),(2,.var [.bool (FE b ((if t.kind=1 then [(t.index,bl)] else [])++(t.args.take m).flatMap (Tm.vars (up t.kind bl))))]),(3,.var t.view)]⟩))
   ?_ ?_ ?_
  .simp_all only[beq_iff_eq,beq_eq_false_iff_ne,ne_eq];exact(M.W EV (hf:=(by(repeat'(first|exact trivial|refine And.intro ?_ ?_|refine⟨_,U,_,U,?_⟩|exact Ai.refl _|exact Ai.of_eq (by simp[Aj.Aw,up, *,VU])));done)) (he:=(by(repeat'(first|exact trivial|refine And.intro ?_ ?_|refine⟨_,U,_,U,_,U,?_⟩|exact Ai.refl _|exact Ai.of_eq (by simp[Aj.Aw,up, *,VU])));done)))
  .intro m hm hP;have hs2:=zc Tm.full (ZA hm);have hc:=ih t.args[m] (FE b ((if t.kind=1 then [(t.index,bl)] else [])++(t.args.take m).flatMap (Tm.vars (up t.kind bl)))) (up t.kind bl) dY dY hup0 dY;(repeat' first|refine M.w0 ?_|refine M.cv (hc) [0,1,2] 0 ?_|fail);refine⟨rfl,trivial,?_⟩;exact(M.W EV (he:=(by(repeat'(first|exact trivial|refine And.intro ?_ ?_|refine⟨_,U,_,U,_,U,?_⟩|exact Ai.refl _|exact Ai.of_eq (by simp[Aj.Aw,Znh,wg _ _ _ hm])));done)))
  .intro hP;skip
   (exact M.n2 CI (h6:=(by(repeat'(first|exact trivial|refine And.intro ?_ ?_|refine⟨_,U,_,U,_,U,?_⟩|exact Ai.refl _|exact Ai.of_eq (by simp[Aj.Aw,hv])));done)) (h8:=iU))
theorem Ybp(t:Tm)(b:Bool)(ht:t.full<1099511627776):AC E 83 [.agg t.view,.fn (.func 178) [] [.ptr 0 0]] ⟨1,[(0,.var [.bool b])]⟩ (.AM []) ⟨1,[(0,.var [.bool (FE b (t.vars 0))])]⟩:=by
 have hc:=Zu4 _ t b 0 (ZB _) dY dY dY;refine M.F Tryz.func83 ?_;(repeat' first|refine M.w0 ?_|refine M.cv (hc) [2,3,0] 0 ?_|fail)
 (exact M.n2 Ay (h8:=(by simp[zh,V.wk,V.An,za,Ty.view,Tm.view,FE])))
theorem TP(t:Tm)(ht:t.full<1099511627776):PC E 111 [.agg t.view] (.bool t.near):=by
 have hc:=Ybp t true ht;refine M.F Tryz.func111 ?_;(repeat' first|refine M.w0 ?_|refine M.cb (hc) [1] 0 ?_|fail);simp[zh,V.wk,V.An,FE,Tm.near]
theorem Yff(at_ c i bl:Int)(hc:0<=c/\c<1099511627776)(hi:0<=i/\i<9223372036854775808)(hb:0<=bl/\bl<1099511627776):AC E 182 [.i i,.i bl,.ptr 0 0,.ptr 1 0] ⟨2,[(0,.var [.i at_]),(1,.var [.i c])]⟩ (.AM []) ⟨2,[(0,.var [.i at_]),(1,.var [.i (c+cnt at_ [(i,bl)])])]⟩:=by
 refine M.F Tryz.func182 ?_;(repeat' first|refine M.w0 ?_|refine M.cs ?_ ?_<;>intro h|fail)
 .have:i-bl=at_:=ek
  (exact M.n2 AQ (h6:=(by(repeat'(first|exact trivial|refine And.intro ?_ ?_|refine⟨_,U,_,U,_,U,?_⟩|exact Ai.refl _|exact Ai.of_eq (by simp[Aj.Aw,J2,this])));done)) (h8:=jB))
 .have:¬i-bl=at_:=ek
  (exact M.n2 AQ (h6:=(by(repeat'(first|exact trivial|refine And.intro ?_ ?_|refine⟨_,U,_,U,_,U,?_⟩|exact Ai.refl _|exact Ai.of_eq (by simp[Aj.Aw,J2,this])));done)) (h8:=jB))
theorem Zs5(at_:Int):∀(n:Nat) (t:Tm) (c:Int) (bl:Int),t.full<=n->n<1099511627776->0<=bl->bl+n<1099511627776->0<=c->c+t.full<1099511627776->(∀p∈t.vars bl,0<=p.1/\p.1<9223372036854775808)->AC E 148 [.agg t.view,.i bl,.ptr 0 0,.ptr 1 0] ⟨4,[(0,.var [.fn (.func 182) [] [.ptr 2 0,.ptr 3 0]]),(1,.var [.fn (.func 148) [] [.ptr 0 0,.ptr 1 0]]),(2,.var [.i at_]),(3,.var [.i c])]⟩ (.AM [])
 ⟨4,[(0,.var [.fn (.func 182) [] [.ptr 2 0,.ptr 3 0]]),(1,.var [.fn (.func 148) [] [.ptr 0 0,.ptr 1 0]]),(2,.var [.i at_]),(3,.var [.i (c+cnt at_ (t.vars bl))])]⟩:=by
 intro n;induction n with
 |zero=>intro t b bl h;have:=t.Ac;omega
 |succ n ih=>
 intro t c bl hsz hb hbl hbn hc0 hcn hix;have hsz':=Tm.Af t;have hlen:=zd Tm.full Tm.Ac t.args;have hv:=Tm.AU bl t;have hi:t.kind=1->0<=t.index/\t.index<9223372036854775808:=fun h=>gN
 have hcb:t.kind=1->_:=fun h=>Yff at_ c t.index bl dY (hi h) dY;refine M.F Tryz.func148 ?_;(repeat' first|refine M.w0 ?_|refine M.cv (hcb ek) [2,3] 0 ?_|refine M.cs ?_ ?_<;>intro h|fail);all_goals
  have hup:up t.kind bl<=bl+1:=eP
  have hup0:0<=up t.kind bl:=eP
  refine M.rt t.args.length
   (fun m=>([(1,.i (up t.kind bl)),(3,.ptr 1 0),(22,.s .tm t.args),(23,.i t.args.length),(24,.i m)],⟨5,[(0,.var [.fn (.func 182) [] [.ptr 2 0,.ptr 3 0]]),(1,.var [.fn (.func 148) [] [.ptr 0 0,.ptr 1 0]]),(2,.var [.i at_]),(3,.var [.i (c+cnt at_ ((if t.kind=1 then [(t.index,bl)] else [])++(t.args.take m).flatMap (Tm.vars (up t.kind bl))))]),(4,.var t.view)]⟩))
   ?_ ?_ ?_
  .simp_all only[beq_iff_eq,beq_eq_false_iff_ne,ne_eq];exact(M.W DT (hf:=(by(repeat'(first|exact trivial|refine And.intro ?_ ?_|refine⟨_,U,_,U,?_⟩|exact Ai.refl _|exact Ai.of_eq (by simp[Aj.Aw,up, *,u3,cnt])));done)) (he:=(by(repeat'(first|exact trivial|refine And.intro ?_ ?_|refine⟨_,U,_,U,_,U,?_⟩|exact Ai.refl _|exact Ai.of_eq (by simp[Aj.Aw,up, *,u3,cnt])));done)))
  .intro m hm hP;have hs2:=zc Tm.full (ZA hm);have hs3:cnt at_ ((if t.kind=1 then [(t.index,bl)] else [])++(t.args.take m).flatMap (Tm.vars (up t.kind bl)))+t.args[m].full<=1+(t.args.map Tm.full).sum:=by
    have h1:=LW at_ ((if t.kind=1 then [(t.index,bl)] else [])++(t.args.take m).flatMap (Tm.vars (up t.kind bl)));have h2:=W9 (t.args.take m) (Tm.vars (up t.kind bl)) fun x _=>x.Cn _;have h3:((t.args.take m).map Tm.size).sum<=((t.args.take m).map Tm.full).sum:=xh _ (fun x _=>x.Ah);have h4:=yq Tm.full t.args m hm;have h5:=zl Tm.full t.args (m+1);have h6:(if t.kind=1 then [(t.index,bl)] else []).length<=1:=by split<;>simp
    simp only[ZR] at h1;omega
   have hix':∀p∈(t.args[m]).vars (up t.kind bl),0<=p.1/\p.1<9223372036854775808:=fun p hp=>hix p gD;have hc:=ih t.args[m] (c+cnt at_ ((if t.kind=1 then [(t.index,bl)] else [])++(t.args.take m).flatMap (Tm.vars (up t.kind bl)))) (up t.kind bl) dY dY hup0 dY dY dY hix';(repeat' first|refine M.w0 ?_|refine M.cv (hc) [0,1,2,3] 0 ?_|fail);refine⟨rfl,trivial,?_⟩;exact(M.W DT (he:=(by(repeat'(first|exact trivial|refine And.intro ?_ ?_|refine⟨_,U,_,U,_,U,?_⟩|exact Ai.refl _|exact Ai.of_eq (by simp[Aj.Aw,u3,wg _ _ _ hm,aY])));done)))
  .intro hP;skip
   (exact M.n2 EV (h6:=(by(repeat'(first|exact trivial|refine And.intro ?_ ?_|refine⟨_,U,_,U,_,U,?_⟩|exact Ai.refl _|exact Ai.of_eq (by simp[Aj.Aw,hv])));done)) (h8:=iU))
theorem Zvs(t:Tm)(at_:Int)(ht:t.full<549755813888)(hix:∀p∈t.vars 0,0<=p.1/\p.1<9223372036854775808):AC E 83 [.agg t.view,.fn (.func 182) [] [.ptr 0 0,.ptr 1 0]] ⟨2,[(0,.var [.i at_]),(1,.var [.i 0])]⟩ (.AM []) ⟨2,[(0,.var [.i at_]),(1,.var [.i (cnt at_ (t.vars 0))])]⟩:=by
 have hc:=Zs5 at_ _ t 0 0 (ZB _) dY dY dY dY dY hix;refine M.F Tryz.func83 ?_;(repeat' first|refine M.w0 ?_|refine M.cv (hc) [3,4,0,1] 0 ?_|fail)
 (exact M.n2 AQ (h6:=(by(repeat'(first|exact trivial|refine And.intro ?_ ?_|refine⟨_,U,_,U,_,U,?_⟩|exact Ai.refl _|exact Ai.of_eq (by simp[Aj.Aw,cnt])));done)) (h8:=(by simp[zh,V.wk,V.An,za,Ty.view,Tm.view,cnt])))
theorem Yfv(t:Tm)(at_:Int)(ht:t.full<549755813888)(hix:∀p∈t.vars 0,0<=p.1/\p.1<9223372036854775808):PC E 116 [.agg t.view,.i at_] (.i (cnt at_ (t.vars 0))):=by
 have hc:=Zvs t at_ ht hix;refine M.F Tryz.func116 ?_;(repeat' first|refine M.w0 ?_|refine M.cb (hc) [1,2] 0 ?_|fail);simp[zh,V.wk,V.An]
theorem VH(t:Tm)(at_:Int)(ht:t.full<549755813888)(hix:∀p∈t.vars 0,0<=p.1/\p.1<1099511627776):PC E 116 [.agg t.view,.i at_] (.i (cnt at_ (t.vars 0))):=
 Yfv t at_ ht fun p hp=>by have:=hix p hp;omega
theorem Yjp(fr by_ i bl:Int)(hi:0<=i/\i<549755813888)(hb:0<=bl/\bl<1099511627776)(hy: -1099511627776<=by_/\by_<1099511627776):AC E 218 [.i i,.i bl,.ptr 0 0,.ptr 1 0] ⟨2,[(0,.var [.i fr]),(1,.var [.i by_])]⟩ (.agg (z8 fr by_ i bl).view) ⟨2,[(0,.var [.i fr]),(1,.var [.i by_])]⟩:=by
 have hv:=Uc;refine M.F Tryz.func218 ?_;(repeat' first|refine M.w0 ?_|refine M.c2 (hv _) ?_|refine M.cs ?_ ?_<;>intro h|fail)
 .have h':fr<=i-bl:=ek
  (exact M.n2 AQ (h8:=jF))
 .have h':¬fr<=i-bl:=ek
  (exact M.n2 AQ (h8:=jF))
theorem Yex(fr by_:Int)(hy: -1099511627776<=by_/\by_<1099511627776):∀(n:Nat) (t:Tm) (bl:Int),t.full<=n->n<549755813888->0<=bl->bl+n<549755813888->(∀p∈t.vars bl,0<=p.1/\p.1<549755813888)->AC E 248 [.agg t.view,.i bl,.ptr 0 0,.ptr 1 0] ⟨4,[(0,.var [.fn (.func 218) [] [.ptr 2 0,.ptr 3 0]]),(1,.var [.fn (.func 248) [] [.ptr 0 0,.ptr 1 0]]),(2,.var [.i fr]),(3,.var [.i by_])]⟩ (.agg (t.re (z8 fr by_) bl).view) ⟨4,[(0,.var [.fn (.func 218) [] [.ptr 2 0,.ptr 3 0]]),(1,.var [.fn (.func 248) [] [.ptr 0 0,.ptr 1 0]]),(2,.var [.i fr]),(3,.var [.i by_])]⟩:=by
 intro n;induction n with
 |zero=>intro t bl h;have:=t.Ac;omega
 |succ n ih=>
 intro t bl hsz hb hbl hbn hix;have hsz':=Tm.Af t;have hlen:=zd Tm.full Tm.Ac t.args;have hv:=Tm.AU bl t;have hre:=Tm.BJ (z8 fr by_) bl t;have hi:t.kind=1->0<=t.index/\t.index<549755813888:=fun h=>gN
 have hcb:t.kind=1->_:=fun h=>Yjp fr by_ t.index bl (hi h) dY hy;have hown:=IC _ t.ty (ZB _) dY;refine M.F Tryz.func248 ?_;(repeat' first|refine M.w0 ?_|refine M.cv (hcb ek) [2,3] 0 ?_|refine M.c2 (hown) ?_|refine M.cs ?_ ?_<;>intro h|fail)
 .exact mS
 all_goals
  rename_i hk1;have hup:up t.kind bl<=bl+1:=eP
  have hup0:0<=up t.kind bl:=eP
  have hk1':¬t.kind=1:=by simpa using hk1
  refine M.rt t.args.length
   (fun m=>([(1,.i (up t.kind bl)),(3,.ptr 1 0),(6,.ptr 5 0),(7,.ptr 6 0),(32,.s .tm t.args),(33,.i t.args.length),(34,.i m)],⟨8,[(0,.var [.fn (.func 218) [] [.ptr 2 0,.ptr 3 0]]),(1,.var [.fn (.func 248) [] [.ptr 0 0,.ptr 1 0]]),(2,.var [.i fr]),(3,.var [.i by_]),(4,.var t.view),(5,.var [.i 0,.i 0,.i 0,.slice .nil (.t .ty []),.slice .nil (.t .tm [])]),(6,.var [.i t.kind,.i t.index,.i t.ty.kind,.s .ty t.ty.args,.slice (.own 7) (.t .tm ((t.args.take m).map (Tm.re (z8 fr by_) (up t.kind bl))))]),(7,.row)]⟩))
   ?_ ?_ ?_
  .exact kn
  .intro m hm hP;have hs2:=zc Tm.full (ZA hm);have hix':∀p∈(t.args[m]).vars (up t.kind bl),0<=p.1/\p.1<549755813888:=fun p hp=>hix p gD;have hc:=ih t.args[m] (up t.kind bl) dY dY hup0 dY hix';(repeat' first|refine M.w0 ?_|refine M.cv (hc) [0,1,2,3] 0 ?_|fail);refine⟨rfl,trivial,?_⟩;exact(M.W [some 0,some 1,some 2,some 3,some 4,some 5,some 6,some 9] (he:=(by(repeat'(first|exact trivial|exact Or.inr ⟨_,U,rfl⟩|refine And.intro ?_ ?_|refine⟨_,U,_,U,_,U,?_⟩|exact Ai.refl _|exact Ai.of_eq eL));done)))
  .exact mG
theorem Yj7(fr by_:Int)(hy: -1099511627776<=by_/\by_<1099511627776)(t:Tm)(ht:t.full<274877906944)(hix:∀p∈t.vars 0,0<=p.1/\p.1<549755813888):AC E 217 [.agg t.view,.fn (.func 218) [] [.ptr 0 0,.ptr 1 0]] ⟨2,[(0,.var [.i fr]),(1,.var [.i by_])]⟩ (.agg (t.re (z8 fr by_) 0).view) ⟨2,[(0,.var [.i fr]),(1,.var [.i by_])]⟩:=by
 have hc:=Yex fr by_ hy _ t 0 (ZB _) dY dY dY hix;refine M.F Tryz.func217 ?_;(repeat' first|refine M.w0 ?_|refine M.cv (hc) [3,5,0,1] 0 ?_|fail)
 (exact M.n2 AQ (h8:=fB))
theorem Yhp(t:Tm)(fr by_:Int)(hy: -1099511627776<=by_/\by_<1099511627776)(ht:t.full<274877906944)(hix:∀p∈t.vars 0,0<=p.1/\p.1<549755813888):PC E 171 [.agg t.view,.i fr,.i by_] (.agg (t.re (z8 fr by_) 0).view):=by
 have hc:=Yj7 fr by_ hy t ht hix;refine M.F Tryz.func171 ?_;(repeat' first|refine M.w0 ?_|refine M.cb (hc) [1,2] 0 ?_|fail);simp[zh,V.wk,V.An,za,Ty.view,Tm.view]
theorem Yk4(at_:Int)(s:Tm)(i bl:Int)(hat:0<=at_/\at_<549755813888)(hs:s.full<274877906944)(hsi:∀p∈s.vars 0,0<=p.1/\p.1<549755813888)(hi:0<=i/\i<9223372036854775808)(hb:0<=bl/\bl<549755813888):AC E 225 [.i i,.i bl,.ptr 0 0,.ptr 1 0] ⟨2,[(0,.var [.i at_]),(1,.var s.view)]⟩ (.agg (xt at_ s i bl).view) ⟨2,[(0,.var [.i at_]),(1,.var s.view)]⟩:=by
 have hv:=Uc;have hl:=Yhp s 0 (at_+bl) dY hs hsi;refine M.F Tryz.func225 ?_;(repeat' first|refine M.w0 ?_|refine M.c2 (hv _) ?_|refine M.c2 (hl) ?_|refine M.bl ?_|refine M.cs ?_ ?_<;>intro h|fail)
 .have h':i-bl=at_:=ek
  (exact M.n2 AQ (h8:=(by simp[zh,V.wk,V.An,za,Ty.view,Tm.view,xt,h'])))
 .rename_i h0;have h0':¬i-bl=at_:=fV
  have h':at_<i-bl:=ek
  (exact M.n2 AQ (h8:=jy))
 .rename_i h0;have h0':¬i-bl=at_:=fV
  have h':¬at_<i-bl:=ek
  (exact M.n2 AQ (h8:=jy))
theorem Yju(at_:Int)(s:Tm)(hat:0<=at_/\at_<549755813888)(hs:s.full<274877906944)(hsi:∀p∈s.vars 0,0<=p.1/\p.1<549755813888):∀(n:Nat) (t:Tm) (bl:Int),t.full<=n->n<549755813888->0<=bl->bl+n<549755813888->(∀p∈t.vars bl,0<=p.1/\p.1<9223372036854775808)->AC E 248 [.agg t.view,.i bl,.ptr 0 0,.ptr 1 0] ⟨4,[(0,.var [.fn (.func 225) [] [.ptr 2 0,.ptr 3 0]]),(1,.var [.fn (.func 248) [] [.ptr 0 0,.ptr 1 0]]),(2,.var [.i at_]),(3,.var s.view)]⟩ (.agg (t.re (xt at_ s) bl).view) ⟨4,[(0,.var [.fn (.func 225) [] [.ptr 2 0,.ptr 3 0]]),(1,.var [.fn (.func 248) [] [.ptr 0 0,.ptr 1 0]]),(2,.var [.i at_]),(3,.var s.view)]⟩:=by
 intro n;induction n with
 |zero=>intro t bl h;have:=t.Ac;omega
 |succ n ih=>
 intro t bl hsz hb hbl hbn hix;have hsz':=Tm.Af t;have hlen:=zd Tm.full Tm.Ac t.args;have hv:=Tm.AU bl t;have hre:=Tm.BJ (xt at_ s) bl t;have hi:t.kind=1->0<=t.index/\t.index<9223372036854775808:=fun h=>gN
 have hcb:t.kind=1->_:=fun h=>Yk4 at_ s t.index bl hat hs hsi (hi h) dY;have hown:=IC _ t.ty (ZB _) dY;refine M.F Tryz.func248 ?_;(repeat' first|refine M.w0 ?_|refine M.cv (hcb ek) [2,3] 0 ?_|refine M.c2 (hown) ?_|refine M.cs ?_ ?_<;>intro h|fail)
 .exact mS
 all_goals
  rename_i hk1;have hup:up t.kind bl<=bl+1:=eP
  have hup0:0<=up t.kind bl:=eP
  have hk1':¬t.kind=1:=by simpa using hk1
  refine M.rt t.args.length
   (fun m=>([(1,.i (up t.kind bl)),(3,.ptr 1 0),(6,.ptr 5 0),(7,.ptr 6 0),(32,.s .tm t.args),(33,.i t.args.length),(34,.i m)],⟨8,[(0,.var [.fn (.func 225) [] [.ptr 2 0,.ptr 3 0]]),(1,.var [.fn (.func 248) [] [.ptr 0 0,.ptr 1 0]]),(2,.var [.i at_]),(3,.var s.view),(4,.var t.view),(5,.var [.i 0,.i 0,.i 0,.slice .nil (.t .ty []),.slice .nil (.t .tm [])]),(6,.var [.i t.kind,.i t.index,.i t.ty.kind,.s .ty t.ty.args,.slice (.own 7) (.t .tm ((t.args.take m).map (Tm.re (xt at_ s) (up t.kind bl))))]),(7,.row)]⟩))
   ?_ ?_ ?_
  .exact kn
  .intro m hm hP;have hs2:=zc Tm.full (ZA hm);have hix':∀p∈(t.args[m]).vars (up t.kind bl),0<=p.1/\p.1<9223372036854775808:=fun p hp=>hix p gD;have hc:=ih t.args[m] (up t.kind bl) dY dY hup0 dY hix';(repeat' first|refine M.w0 ?_|refine M.cv (hc) [0,1,2,3] 0 ?_|fail);refine⟨rfl,trivial,?_⟩;exact(M.W [some 0,some 1,some 2,some 3,some 4,some 5,some 6,some 9] (he:=(by(repeat'(first|exact trivial|exact Or.inr ⟨_,U,rfl⟩|refine And.intro ?_ ?_|refine⟨_,U,_,U,_,U,?_⟩|exact Ai.refl _|exact Ai.of_eq eL));done)))
  .exact mG
theorem Yky(at_:Int)(s:Tm)(hat:0<=at_/\at_<549755813888)(hs:s.full<274877906944)(hsi:∀p∈s.vars 0,0<=p.1/\p.1<549755813888)(t:Tm)(ht:t.full<274877906944)(hix:∀p∈t.vars 0,0<=p.1/\p.1<9223372036854775808):AC E 217 [.agg t.view,.fn (.func 225) [] [.ptr 0 0,.ptr 1 0]] ⟨2,[(0,.var [.i at_]),(1,.var s.view)]⟩ (.agg (t.re (xt at_ s) 0).view) ⟨2,[(0,.var [.i at_]),(1,.var s.view)]⟩:=by
 have hc:=Yju at_ s hat hs hsi _ t 0 (ZB _) dY dY dY hix;refine M.F Tryz.func217 ?_;(repeat' first|refine M.w0 ?_|refine M.cv (hc) [3,5,0,1] 0 ?_|fail)
 (exact M.n2 AQ (h8:=fB))
theorem Yk2(t:Tm)(at_:Int)(s:Tm)(hat:0<=at_/\at_<549755813888)(hs:s.full<274877906944)(hsi:∀p∈s.vars 0,0<=p.1/\p.1<549755813888)(ht:t.full<274877906944)(hix:∀p∈t.vars 0,0<=p.1/\p.1<9223372036854775808):PC E 186 [.agg t.view,.i at_,.agg s.view] (.agg (t.re (xt at_ s) 0).view):=by
 have hc:=Yky at_ s hat hs hsi t ht hix;refine M.F Tryz.func186 ?_;(repeat' first|refine M.w0 ?_|refine M.cb (hc) [1,2] 0 ?_|fail);simp[zh,V.wk,V.An,za,Ty.view,Tm.view]
theorem Zo(t:Tm)(at_:Int)(s:Tm)(hat:0<=at_/\at_<549755813888)(hs:s.full<274877906944)(hsi:∀p∈s.vars 0,0<=p.1/\p.1<549755813888)(ht:t.full<274877906944)(hix:∀p∈t.vars 0,0<=p.1/\p.1<549755813888):PC E 186 [.agg t.view,.i at_,.agg s.view] (.agg (t.re (xt at_ s) 0).view):=
 Yk2 t at_ s hat hs hsi ht fun p hp=>by have:=hix p hp;omega
end Go.Ab
