/- A part of the proofs of this seat. No conditions. -/
import Derived.Test.YtdhoaohcgpcfcaaGreatDoorDT1
import Derived.Test.YtdhoaohcgpcfcaaGreatDoorS4
namespace Go.Ab
open Go Go.Proofs
set_option maxRecDepth 100000
set_option maxHeartbeats 4000000
set_option linter.all false
def EvC(C:Nat)(most:Int)(n:Nat):Prop:=∀(g:List Ty) (t:Tm) (env:List Rs) (cs:List Tm) (u Eb:Int) (T:Ty),t.shape=true→t.inf g=(T,0)→EnvOk C Eb g env cs→g.length+t.size≤C→0≤Eb→0≤u→u≤most→Eb+(most-u)≤1000000→most-u≤n→
 AC E 56 [.ptr 0 0,.agg t.view,.s .rs env] ⟨1,[(0,.var [.i u,.i most,.bool false])]⟩ (.agg (evalE most n t env u).1.view) ⟨1,[(0,.var [.i (evalE most n t env u).2.1,.i most,.bool (evalE most n t env u).2.2])]⟩
def ClC(C:Nat)(most:Int)(n:Nat):Prop:=∀(a b:Ty) (f x:Rs) (cf cx:Tm) (u Eb:Int),Rep C Eb (funT a b) f cf→Rep C Eb a x cx→0≤Eb→0≤u→u≤most→Eb+(most-u)≤1000000→most-u≤n→
 AC E 57 [.ptr 0 0,.agg f.view,.agg x.view] ⟨1,[(0,.var [.i u,.i most,.bool false])]⟩ (.agg (callE (evalE most n) f x u).1.view) ⟨1,[(0,.var [.i (callE (evalE most n) f x u).2.1,.i most,.bool (callE (evalE most n) f x u).2.2])]⟩
theorem clC{C:Nat}{most:Int}{n:Nat}(hC:C≤1000000)(h:EvC C most n):ClC C most n:=by
 intro a b f x cf cx u Eb hf hx hE hu0 hu hb hn
 obtain⟨gs,cs,he,hi,hs,hz,_⟩:=fn_inv hf rfl
 have h1:=h (gs++[a]) f.body (f.env++[x]) (cs++[cx]) u Eb b hs hi (he.push hx) (by simp;omega) hE hu0 hu hb hn
 have hl:=he.l1
 obtain⟨fn,fl,fp,⟨bk,bi,⟨bh,bg⟩,ba⟩,fe⟩:=f
 obtain⟨xn,xl,xp,⟨xk,xi,⟨xh,xg⟩,xa⟩,xe⟩:=x
 simp only[Rs.env,Rs.body,Rs.num,Rs.list,Rs.pair] at h1 hl hi hz
 have hle:(Rs.mk fn fl fp (Tm.mk bk bi (Ty.mk bh bg) ba) fe).env.length=gs.length:=hl
 unfold callE
 simp only[Rs.env,Rs.body]
 generalize evalE most n (Tm.mk bk bi (.mk bh bg) ba) (fe++[Rs.mk xn xl xp (.mk xk xi (.mk xh xg) xa) xe]) u=R at*
 refine M.F Tryz.func57 ?_
 repeat'(first|refine M.gw ?_|refine M.cb (h1) [0] 0 ?_|refine L.aptF9 U U U U (by first|assumption|simp) U U U (by first|omega|(simp;omega)) ?_|fail)
 all_goals first
  |(exact M.n2 [some 0] (h8:=(by simp[tupV,V.wk,V.wks,constV,Ty.view,Tm.view,Rs.view,Rs.num,Rs.list,Rs.pair,Rs.body,Rs.env,Tm.view,Tm.kind,Tm.index,Tm.ty,Tm.args,Ty.kind,Ty.args,EC.view,noRs,noTm,V.wk,V.wks])))
  |trace_state
theorem evVar_c{most:Int}(i:Int)(tk:Int)(ta:List Ty)(env:List Rs)(u:Int)(hi:0≤i)(hl:i<env.length)(hle:env.length≤1000000)(hu0:0≤u)(hu:u<most)(hm:most≤1000000):
 AC E 56 [.ptr 0 0,.agg (Tm.mk 1 i (.mk tk ta) []).view,.s .rs env] ⟨1,[(0,.var [.i u,.i most,.bool false])]⟩ (.agg (env.getD (env.length-1-i.toNat) noRs).view) ⟨1,[(0,.var [.i (u+1),.i most,.bool false])]⟩:=by
 obtain⟨j,hj,hjl⟩:∃j:Nat,(env.length:Int)-1-i=j∧j<env.length:=⟨((env.length:Int)-1-i).toNat,by omega,by omega⟩
 have e:env.getD (env.length-1-i.toNat) noRs=env[j]:=by
  rw[show env.length-1-i.toNat=j by omega,List.getD_eq_getElem?_getD,List.getElem?_eq_getElem hjl];rfl
 rw[e]
 have hix:(Tm.mk 1 i (Ty.mk tk ta) []).index=i:=rfl
 refine M.F Tryz.func56 ?_
 repeat'(first|refine M.gw ?_|refine M.cs ?_ ?_<;>intro h|fail)
 all_goals first
  |(exfalso;simp at h;omega)
  |skip
 refine L.ixt j rfl rfl rfl rfl hj rfl rfl hjl ?_
 repeat'(first|refine M.gw ?_|fail)
 all_goals first
  |(exact M.n2 [some 0] (h8:=(by simp[tupV,V.wk,V.wks,constV,Ty.view,Tm.view,Rs.view,Rs.num,Rs.list,Rs.pair,Rs.body,Rs.env,Tm.view,Tm.kind,Tm.index,Tm.ty,Tm.args,Ty.kind,Ty.args,EC.view,noRs,noTm,V.wk,V.wks])))
  |trace_state
theorem evLam_c{most:Int}(th:Ty)(b:Tm)(env:List Rs)(u:Int)(hu0:0≤u)(hu:u<most)(hm:most≤1000000):
 AC E 56 [.ptr 0 0,.agg (Tm.mk 2 0 th [b]).view,.s .rs env] ⟨1,[(0,.var [.i u,.i most,.bool false])]⟩ (.agg (Rs.mk 0 [] [] b env).view) ⟨1,[(0,.var [.i (u+1),.i most,.bool false])]⟩:=by
 obtain⟨tk,ta⟩:=th
 obtain⟨bk,bi,⟨bh,bg⟩,ba⟩:=b
 refine M.F Tryz.func56 ?_
 repeat'(first|refine M.gw ?_|refine M.cs ?_ ?_<;>intro h|fail)
 all_goals first
  |(exfalso;simp at h;omega)
  |(exact M.n2 [some 0] (h8:=(by simp[tupV,V.wk,V.wks,constV,Ty.view,Tm.view,Rs.view,Rs.num,Rs.list,Rs.pair,Rs.body,Rs.env,Tm.view,Tm.kind,Tm.index,Tm.ty,Tm.args,Ty.kind,Ty.args,EC.view,noRs,noTm,V.wk,V.wks])))
  |trace_state
theorem evOut_c{most:Int}(t:Tm)(env:List Rs):
 AC E 56 [.ptr 0 0,.agg t.view,.s .rs env] ⟨1,[(0,.var [.i most,.i most,.bool false])]⟩ (.agg noRs.view) ⟨1,[(0,.var [.i most,.i most,.bool true])]⟩:=by
 obtain⟨tk,ti,⟨th,tg⟩,ta⟩:=t
 refine M.F Tryz.func56 ?_
 repeat'(first|refine M.go ?_|refine M.z1 4 ?_|refine M.cs ?_ ?_<;>intro h|refine M.gk ?_|fail)
 all_goals first
  |(exfalso;simp at h;done)
  |(exact M.n2 [some 0] (h8:=(by simp[tupV,V.wk,V.wks,constV,Ty.view,Tm.view,Rs.view,Rs.num,Rs.list,Rs.pair,Rs.body,Rs.env,Tm.view,Tm.kind,Tm.index,Tm.ty,Tm.args,Ty.kind,Ty.args,EC.view,noRs,noTm,V.wk,V.wks])))
  |trace_state
theorem ev3_c{C:Nat}{most:Int}{n:Nat}(hC:C≤1000000)(hm0:0≤most∧most≤1000000)(ih:EvC C most n)(g:List Ty)(th:Ty)(x y:Tm)(env:List Rs)(cs:List Tm)(u Eb:Int)(T:Ty)
 (hi:(Tm.mk 3 0 th [x,y]).inf g=(T,0)) (he:EnvOk C Eb g env cs) (hx:∀w∈([x,y]:List Tm),w.shape=true∧(w.inf g).2=0∧g.length+w.size≤C) (hE:0≤Eb) (hu0:0≤u) (hu:u<most) (hb:Eb+(most-u)≤1000000) (hn:most-u≤n+1) (S:Rs×Int×Bool)
 (hS:S=if(argsE (evalE most n) env [x,y] (u+1)).2.2=true then(noRs,(argsE (evalE most n) env [x,y] (u+1)).2.1,true) else headE (callE (evalE most n)) 3 (argsE (evalE most n) env [x,y] (u+1)).1 (argsE (evalE most n) env [x,y] (u+1)).2.1):
 AC E 56 [.ptr 0 0,.agg (Tm.mk 3 0 th [x,y]).view,.s .rs env] ⟨1,[(0,.var [.i u,.i most,.bool false])]⟩ (.agg S.1.view) ⟨1,[(0,.var [.i S.2.1,.i most,.bool S.2.2])]⟩:=by
 have hcl:=clC hC ih
 have hev:=evalE_ok C most n
 have hC2:=callE_ok hev
 have hgl:=he.l1
 obtain⟨A,hA⟩:∃A:Nat→List Rs×Int×Bool,∀m,A m=argsE (evalE most n) env (([x,y]:List Tm).take m) (u+1):=⟨_,fun _=>rfl⟩
 have hA0:A 0=([],u+1,false):=by rw[hA];rfl
 have hAe:argsE (evalE most n) env [x,y] (u+1)=A 2:=by rw[hA];rfl
 rw[hAe] at hS
 have hAo:=fun m=>argsE_ok hev he hE (([x,y]:List Tm).take m) (u+1) (fun w hw=>hx w (List.mem_of_mem_take hw)) (by omega)
 have hAs:∀m (h:m<2),(A m).2.2=false→A (m+1)=((A m).1++[(evalE most n ([x,y]:List Tm)[m] env (A m).2.1).1],(evalE most n ([x,y]:List Tm)[m] env (A m).2.1).2.1,(evalE most n ([x,y]:List Tm)[m] env (A m).2.1).2.2):=fun m h ho=>by
  rw[hA (m+1),←List.take_append_getElem (show m<([x,y]:List Tm).length from h),argsE_snoc _ _ _ (by rw[←hA];exact ho),←hA]
 have hAl:∀m,m≤2→(A m).2.2=true→(A 2).2=(A m).2:=fun m h ho=>by
  have:=argsE_out (([x,y]:List Tm).drop m) (([x,y]:List Tm).take m) (u+1) (by rw[←hA];exact ho)
  rw[List.take_append_drop,←hA] at this
  rw[←hAe];exact this
 simp only[←hA] at hAo
 obtain⟨tk,ta⟩:=th
 refine M.F Tryz.func56 ?_
 repeat'(first|refine M.gw ?_|refine M.cs ?_ ?_<;>intro h|fail)
 all_goals first
  |(exfalso;simp at h;omega)
  |skip
 refine AW.range ([x,y]:List Tm).length (fun m=>(A m).2.2=false) (fun m=>([(0,.ptr 0 0),(2,.s .rs env),(4,.ptr 1 0),(6,.ptr 2 0),(7,.slice (.own 3) (.t .rs (A m).1)),(64,.s .tm [x,y]),(65,.i ([x,y]:List Tm).length),(66,.i m)],⟨4,[(0,.var [.i (A m).2.1,.i most,.bool false]),(1,.var [.i 3,.i 0,.i tk,.s .ty ta,.s .tm [x,y]]),(2,.var noRs.view),(3,.row)]⟩))
  (by simp) (fun m=>rfl) (fun m=>rfl) rfl (by rw[hA0]) ?_ ?_ ?_
 ·simp only[hA0]
  exact(M.W [some 0,some 1,some 2,none])
 ·intro m hm hP
  have hmx:=hx _ (List.getElem_mem hm)
  obtain⟨o1,o2,o3⟩:=hAo m
  have hc:=ih g ([x,y]:List Tm)[m] env cs (A m).2.1 Eb (([x,y]:List Tm)[m].inf g).1 hmx.1 (by rw[←hmx.2.1]) he hmx.2.2 hE (by omega) o2 (by omega) (by omega)
  have hsn:=hAs m hm hP
  have hlm:=(o3 hP).1
  have hll:(([x,y]:List Tm).take m).length≤3:=by simp only[List.length_take,List.length_cons,List.length_nil];omega
  have hlast:=hAl (m+1) hm
  generalize evalE most n ([x,y]:List Tm)[m] env (A m).2.1=R at*
  obtain⟨r,v,o⟩:=R
  simp only at hc hsn
  cases o with
  |true=>
   have e2:=hlast (by rw[hsn])
   rw[hsn] at e2
   have e3:S=(noRs,v,true):=by rw[hS,if_pos (by rw[e2]),e2]
   subst e3
   repeat'(first|refine M.gw ?_|refine M.cb (hc) [0] 0 ?_|refine L.apt9 U U U U U U (by first|exact trivial|exact⟨rfl,trivial⟩) U U (by first|omega|(simp;omega)) ?_|fail)
   all_goals first
    |(exact M.n2 [some 0] (h8:=(by simp[tupV,V.wk,V.wks,constV,Ty.view,Tm.view,Rs.view,Rs.num,Rs.list,Rs.pair,Rs.body,Rs.env,Tm.view,Tm.kind,Tm.index,Tm.ty,Tm.args,Ty.kind,Ty.args,EC.view,noRs,noTm,V.wk,V.wks])))
    |trace_state
  |false=>
   repeat'(first|refine M.gw ?_|refine M.cb (hc) [0] 0 ?_|refine L.apt9 U U U U U U (by first|exact trivial|exact⟨rfl,trivial⟩) U U (by first|omega|(simp;omega)) ?_|fail)
   refine⟨rfl,(by show(A (m+1)).2.2=false;rw[hsn]),?_⟩
   simp only[hsn]
   exact(M.W [some 0,some 1,some 2,some 5])
 ·intro hP
  have hP:(A 2).2.2=false:=hP
  obtain⟨o1,o2,o3⟩:=hAo 2
  obtain⟨o4,ds,o5,o6⟩:=o3 hP
  rw[if_neg (by rw[hP];simp)] at hS
  clear hAe hAs hAl hA0 hAo
  generalize (A 2).1=l at*
  generalize (A 2).2.1=v at*
  obtain⟨r1,r2,rfl⟩:=two_of o4
  obtain⟨c1,c2,rfl⟩:=two_of o5
  obtain⟨q1,_⟩:=o6 0 (by simp)
  obtain⟨q2,_⟩:=o6 1 (by simp)
  simp only[List.take,List.getD_cons_zero,List.getD_cons_succ] at q1 q2
  obtain⟨h4,h5,hT⟩:=app_inf hi
  obtain⟨a,b,e1⟩:=fun_inv q1 h4
  rw[e1] at q1 h5
  rw[←h5] at q2
  have hc:=hcl a b r1 r2 c1 c2 v (Eb+(v-(u+1))) q1 q2 (by omega) (by omega) o2 (by omega) (by omega)
  simp only[headE,if_true,List.getD_cons_zero,List.getD_cons_succ] at hS
  rw[←hS] at hc
  repeat'(first|refine M.gw ?_|refine M.cb (hc) [0] 0 ?_|refine M.bl ?_|fail)
  all_goals first
   |(exact M.n2 [some 0] (h8:=(by simp[tupV,V.wk,V.wks,constV,Ty.view,Tm.view,Rs.view,Rs.num,Rs.list,Rs.pair,Rs.body,Rs.env,Tm.view,Tm.kind,Tm.index,Tm.ty,Tm.args,Ty.kind,Ty.args,EC.view,noRs,noTm,V.wk,V.wks])))
   |trace_state
theorem ev4_c{C:Nat}{most:Int}{n:Nat}(hC:C≤1000000)(hm0:0≤most∧most≤1000000)(ih:EvC C most n)(g:List Ty)(th:Ty)(env:List Rs)(cs:List Tm)(u Eb:Int)(T:Ty)
 (hi:(Tm.mk 4 0 th []).inf g=(T,0)) (he:EnvOk C Eb g env cs) (hx:∀w∈([]:List Tm),w.shape=true∧(w.inf g).2=0∧g.length+w.size≤C) (hE:0≤Eb) (hu0:0≤u) (hu:u<most) (hb:Eb+(most-u)≤1000000) (hn:most-u≤n+1) (S:Rs×Int×Bool)
 (hS:S=if(argsE (evalE most n) env [] (u+1)).2.2=true then(noRs,(argsE (evalE most n) env [] (u+1)).2.1,true) else headE (callE (evalE most n)) 4 (argsE (evalE most n) env [] (u+1)).1 (argsE (evalE most n) env [] (u+1)).2.1):
 AC E 56 [.ptr 0 0,.agg (Tm.mk 4 0 th []).view,.s .rs env] ⟨1,[(0,.var [.i u,.i most,.bool false])]⟩ (.agg S.1.view) ⟨1,[(0,.var [.i S.2.1,.i most,.bool S.2.2])]⟩:=by
 have hcl:=clC hC ih
 have hev:=evalE_ok C most n
 have hC2:=callE_ok hev
 have hgl:=he.l1
 obtain⟨A,hA⟩:∃A:Nat→List Rs×Int×Bool,∀m,A m=argsE (evalE most n) env (([]:List Tm).take m) (u+1):=⟨_,fun _=>rfl⟩
 have hA0:A 0=([],u+1,false):=by rw[hA];rfl
 have hAe:argsE (evalE most n) env [] (u+1)=A 0:=by rw[hA];rfl
 rw[hAe] at hS
 have hAo:=fun m=>argsE_ok hev he hE (([]:List Tm).take m) (u+1) (fun w hw=>hx w (List.mem_of_mem_take hw)) (by omega)
 have hAs:∀m (h:m<0),(A m).2.2=false→A (m+1)=((A m).1++[(evalE most n ([]:List Tm)[m] env (A m).2.1).1],(evalE most n ([]:List Tm)[m] env (A m).2.1).2.1,(evalE most n ([]:List Tm)[m] env (A m).2.1).2.2):=fun m h ho=>by
  rw[hA (m+1),←List.take_append_getElem (show m<([]:List Tm).length from h),argsE_snoc _ _ _ (by rw[←hA];exact ho),←hA]
 have hAl:∀m,m≤0→(A m).2.2=true→(A 0).2=(A m).2:=fun m h ho=>by
  have:=argsE_out (([]:List Tm).drop m) (([]:List Tm).take m) (u+1) (by rw[←hA];exact ho)
  rw[List.take_append_drop,←hA] at this
  rw[←hAe];exact this
 simp only[←hA] at hAo
 obtain⟨tk,ta⟩:=th
 refine M.F Tryz.func56 ?_
 repeat'(first|refine M.gw ?_|refine M.cs ?_ ?_<;>intro h|fail)
 all_goals first
  |(exfalso;simp at h;omega)
  |skip
 refine AW.range ([]:List Tm).length (fun m=>(A m).2.2=false) (fun m=>([(0,.ptr 0 0),(2,.s .rs env),(4,.ptr 1 0),(6,.ptr 2 0),(7,.slice (.own 3) (.t .rs (A m).1)),(64,.s .tm []),(65,.i ([]:List Tm).length),(66,.i m)],⟨4,[(0,.var [.i (A m).2.1,.i most,.bool false]),(1,.var [.i 4,.i 0,.i tk,.s .ty ta,.s .tm []]),(2,.var noRs.view),(3,.row)]⟩))
  (by simp) (fun m=>rfl) (fun m=>rfl) rfl (by rw[hA0]) ?_ ?_ ?_
 ·simp only[hA0]
  exact(M.W [some 0,some 1,some 2,none])
 ·intro m hm hP
  have hmx:=hx _ (List.getElem_mem hm)
  obtain⟨o1,o2,o3⟩:=hAo m
  have hc:=ih g ([]:List Tm)[m] env cs (A m).2.1 Eb (([]:List Tm)[m].inf g).1 hmx.1 (by rw[←hmx.2.1]) he hmx.2.2 hE (by omega) o2 (by omega) (by omega)
  have hsn:=hAs m hm hP
  have hlm:=(o3 hP).1
  have hll:(([]:List Tm).take m).length≤3:=by simp only[List.length_take,List.length_cons,List.length_nil];omega
  have hlast:=hAl (m+1) hm
  generalize evalE most n ([]:List Tm)[m] env (A m).2.1=R at*
  obtain⟨r,v,o⟩:=R
  simp only at hc hsn
  cases o with
  |true=>
   have e2:=hlast (by rw[hsn])
   rw[hsn] at e2
   have e3:S=(noRs,v,true):=by rw[hS,if_pos (by rw[e2]),e2]
   subst e3
   repeat'(first|refine M.gw ?_|refine M.cb (hc) [0] 0 ?_|refine L.apt9 U U U U U U (by first|exact trivial|exact⟨rfl,trivial⟩) U U (by first|omega|(simp;omega)) ?_|fail)
   all_goals first
    |(exact M.n2 [some 0] (h8:=(by simp[tupV,V.wk,V.wks,constV,Ty.view,Tm.view,Rs.view,Rs.num,Rs.list,Rs.pair,Rs.body,Rs.env,Tm.view,Tm.kind,Tm.index,Tm.ty,Tm.args,Ty.kind,Ty.args,EC.view,noRs,noTm,V.wk,V.wks])))
    |trace_state
  |false=>
   repeat'(first|refine M.gw ?_|refine M.cb (hc) [0] 0 ?_|refine L.apt9 U U U U U U (by first|exact trivial|exact⟨rfl,trivial⟩) U U (by first|omega|(simp;omega)) ?_|fail)
   refine⟨rfl,(by show(A (m+1)).2.2=false;rw[hsn]),?_⟩
   simp only[hsn]
   exact(M.W [some 0,some 1,some 2,some 5])
 ·intro hP
  have hP:(A 0).2.2=false:=hP
  obtain⟨o1,o2,o3⟩:=hAo 0
  obtain⟨o4,ds,o5,o6⟩:=o3 hP
  rw[if_neg (by rw[hP];simp)] at hS
  clear hAe hAs hAl hA0 hAo
  generalize (A 0).1=l at*
  generalize (A 0).2.1=v at*
  obtain rfl:=List.eq_nil_of_length_eq_zero o4
  have e:S=(noRs,v,false):=by simpa [headE] using hS
  subst e
  repeat'(first|refine M.gw ?_|refine M.bl ?_|fail)
  all_goals first
   |(exact M.n2 [some 0] (h8:=(by simp[tupV,V.wk,V.wks,constV,Ty.view,Tm.view,Rs.view,Rs.num,Rs.list,Rs.pair,Rs.body,Rs.env,Tm.view,Tm.kind,Tm.index,Tm.ty,Tm.args,Ty.kind,Ty.args,EC.view,noRs,noTm,V.wk,V.wks])))
   |trace_state
theorem ev7_c{C:Nat}{most:Int}{n:Nat}(hC:C≤1000000)(hm0:0≤most∧most≤1000000)(ih:EvC C most n)(g:List Ty)(th:Ty)(env:List Rs)(cs:List Tm)(u Eb:Int)(T:Ty)
 (hi:(Tm.mk 7 0 th []).inf g=(T,0)) (he:EnvOk C Eb g env cs) (hx:∀w∈([]:List Tm),w.shape=true∧(w.inf g).2=0∧g.length+w.size≤C) (hE:0≤Eb) (hu0:0≤u) (hu:u<most) (hb:Eb+(most-u)≤1000000) (hn:most-u≤n+1) (S:Rs×Int×Bool)
 (hS:S=if(argsE (evalE most n) env [] (u+1)).2.2=true then(noRs,(argsE (evalE most n) env [] (u+1)).2.1,true) else headE (callE (evalE most n)) 7 (argsE (evalE most n) env [] (u+1)).1 (argsE (evalE most n) env [] (u+1)).2.1):
 AC E 56 [.ptr 0 0,.agg (Tm.mk 7 0 th []).view,.s .rs env] ⟨1,[(0,.var [.i u,.i most,.bool false])]⟩ (.agg S.1.view) ⟨1,[(0,.var [.i S.2.1,.i most,.bool S.2.2])]⟩:=by
 have hcl:=clC hC ih
 have hev:=evalE_ok C most n
 have hC2:=callE_ok hev
 have hgl:=he.l1
 obtain⟨A,hA⟩:∃A:Nat→List Rs×Int×Bool,∀m,A m=argsE (evalE most n) env (([]:List Tm).take m) (u+1):=⟨_,fun _=>rfl⟩
 have hA0:A 0=([],u+1,false):=by rw[hA];rfl
 have hAe:argsE (evalE most n) env [] (u+1)=A 0:=by rw[hA];rfl
 rw[hAe] at hS
 have hAo:=fun m=>argsE_ok hev he hE (([]:List Tm).take m) (u+1) (fun w hw=>hx w (List.mem_of_mem_take hw)) (by omega)
 have hAs:∀m (h:m<0),(A m).2.2=false→A (m+1)=((A m).1++[(evalE most n ([]:List Tm)[m] env (A m).2.1).1],(evalE most n ([]:List Tm)[m] env (A m).2.1).2.1,(evalE most n ([]:List Tm)[m] env (A m).2.1).2.2):=fun m h ho=>by
  rw[hA (m+1),←List.take_append_getElem (show m<([]:List Tm).length from h),argsE_snoc _ _ _ (by rw[←hA];exact ho),←hA]
 have hAl:∀m,m≤0→(A m).2.2=true→(A 0).2=(A m).2:=fun m h ho=>by
  have:=argsE_out (([]:List Tm).drop m) (([]:List Tm).take m) (u+1) (by rw[←hA];exact ho)
  rw[List.take_append_drop,←hA] at this
  rw[←hAe];exact this
 simp only[←hA] at hAo
 obtain⟨tk,ta⟩:=th
 refine M.F Tryz.func56 ?_
 repeat'(first|refine M.gw ?_|refine M.cs ?_ ?_<;>intro h|fail)
 all_goals first
  |(exfalso;simp at h;omega)
  |skip
 refine AW.range ([]:List Tm).length (fun m=>(A m).2.2=false) (fun m=>([(0,.ptr 0 0),(2,.s .rs env),(4,.ptr 1 0),(6,.ptr 2 0),(7,.slice (.own 3) (.t .rs (A m).1)),(64,.s .tm []),(65,.i ([]:List Tm).length),(66,.i m)],⟨4,[(0,.var [.i (A m).2.1,.i most,.bool false]),(1,.var [.i 7,.i 0,.i tk,.s .ty ta,.s .tm []]),(2,.var noRs.view),(3,.row)]⟩))
  (by simp) (fun m=>rfl) (fun m=>rfl) rfl (by rw[hA0]) ?_ ?_ ?_
 ·simp only[hA0]
  exact(M.W [some 0,some 1,some 2,none])
 ·intro m hm hP
  have hmx:=hx _ (List.getElem_mem hm)
  obtain⟨o1,o2,o3⟩:=hAo m
  have hc:=ih g ([]:List Tm)[m] env cs (A m).2.1 Eb (([]:List Tm)[m].inf g).1 hmx.1 (by rw[←hmx.2.1]) he hmx.2.2 hE (by omega) o2 (by omega) (by omega)
  have hsn:=hAs m hm hP
  have hlm:=(o3 hP).1
  have hll:(([]:List Tm).take m).length≤3:=by simp only[List.length_take,List.length_cons,List.length_nil];omega
  have hlast:=hAl (m+1) hm
  generalize evalE most n ([]:List Tm)[m] env (A m).2.1=R at*
  obtain⟨r,v,o⟩:=R
  simp only at hc hsn
  cases o with
  |true=>
   have e2:=hlast (by rw[hsn])
   rw[hsn] at e2
   have e3:S=(noRs,v,true):=by rw[hS,if_pos (by rw[e2]),e2]
   subst e3
   repeat'(first|refine M.gw ?_|refine M.cb (hc) [0] 0 ?_|refine L.apt9 U U U U U U (by first|exact trivial|exact⟨rfl,trivial⟩) U U (by first|omega|(simp;omega)) ?_|fail)
   all_goals first
    |(exact M.n2 [some 0] (h8:=(by simp[tupV,V.wk,V.wks,constV,Ty.view,Tm.view,Rs.view,Rs.num,Rs.list,Rs.pair,Rs.body,Rs.env,Tm.view,Tm.kind,Tm.index,Tm.ty,Tm.args,Ty.kind,Ty.args,EC.view,noRs,noTm,V.wk,V.wks])))
    |trace_state
  |false=>
   repeat'(first|refine M.gw ?_|refine M.cb (hc) [0] 0 ?_|refine L.apt9 U U U U U U (by first|exact trivial|exact⟨rfl,trivial⟩) U U (by first|omega|(simp;omega)) ?_|fail)
   refine⟨rfl,(by show(A (m+1)).2.2=false;rw[hsn]),?_⟩
   simp only[hsn]
   exact(M.W [some 0,some 1,some 2,some 5])
 ·intro hP
  have hP:(A 0).2.2=false:=hP
  obtain⟨o1,o2,o3⟩:=hAo 0
  obtain⟨o4,ds,o5,o6⟩:=o3 hP
  rw[if_neg (by rw[hP];simp)] at hS
  clear hAe hAs hAl hA0 hAo
  generalize (A 0).1=l at*
  generalize (A 0).2.1=v at*
  obtain rfl:=List.eq_nil_of_length_eq_zero o4
  have e:S=(noRs,v,false):=by simpa [headE] using hS
  subst e
  repeat'(first|refine M.gw ?_|refine M.bl ?_|fail)
  all_goals first
   |(exact M.n2 [some 0] (h8:=(by simp[tupV,V.wk,V.wks,constV,Ty.view,Tm.view,Rs.view,Rs.num,Rs.list,Rs.pair,Rs.body,Rs.env,Tm.view,Tm.kind,Tm.index,Tm.ty,Tm.args,Ty.kind,Ty.args,EC.view,noRs,noTm,V.wk,V.wks])))
   |trace_state
theorem ev13_c{C:Nat}{most:Int}{n:Nat}(hC:C≤1000000)(hm0:0≤most∧most≤1000000)(ih:EvC C most n)(g:List Ty)(th:Ty)(env:List Rs)(cs:List Tm)(u Eb:Int)(T:Ty)
 (hi:(Tm.mk 13 0 th []).inf g=(T,0)) (he:EnvOk C Eb g env cs) (hx:∀w∈([]:List Tm),w.shape=true∧(w.inf g).2=0∧g.length+w.size≤C) (hE:0≤Eb) (hu0:0≤u) (hu:u<most) (hb:Eb+(most-u)≤1000000) (hn:most-u≤n+1) (S:Rs×Int×Bool)
 (hS:S=if(argsE (evalE most n) env [] (u+1)).2.2=true then(noRs,(argsE (evalE most n) env [] (u+1)).2.1,true) else headE (callE (evalE most n)) 13 (argsE (evalE most n) env [] (u+1)).1 (argsE (evalE most n) env [] (u+1)).2.1):
 AC E 56 [.ptr 0 0,.agg (Tm.mk 13 0 th []).view,.s .rs env] ⟨1,[(0,.var [.i u,.i most,.bool false])]⟩ (.agg S.1.view) ⟨1,[(0,.var [.i S.2.1,.i most,.bool S.2.2])]⟩:=by
 have hcl:=clC hC ih
 have hev:=evalE_ok C most n
 have hC2:=callE_ok hev
 have hgl:=he.l1
 obtain⟨A,hA⟩:∃A:Nat→List Rs×Int×Bool,∀m,A m=argsE (evalE most n) env (([]:List Tm).take m) (u+1):=⟨_,fun _=>rfl⟩
 have hA0:A 0=([],u+1,false):=by rw[hA];rfl
 have hAe:argsE (evalE most n) env [] (u+1)=A 0:=by rw[hA];rfl
 rw[hAe] at hS
 have hAo:=fun m=>argsE_ok hev he hE (([]:List Tm).take m) (u+1) (fun w hw=>hx w (List.mem_of_mem_take hw)) (by omega)
 have hAs:∀m (h:m<0),(A m).2.2=false→A (m+1)=((A m).1++[(evalE most n ([]:List Tm)[m] env (A m).2.1).1],(evalE most n ([]:List Tm)[m] env (A m).2.1).2.1,(evalE most n ([]:List Tm)[m] env (A m).2.1).2.2):=fun m h ho=>by
  rw[hA (m+1),←List.take_append_getElem (show m<([]:List Tm).length from h),argsE_snoc _ _ _ (by rw[←hA];exact ho),←hA]
 have hAl:∀m,m≤0→(A m).2.2=true→(A 0).2=(A m).2:=fun m h ho=>by
  have:=argsE_out (([]:List Tm).drop m) (([]:List Tm).take m) (u+1) (by rw[←hA];exact ho)
  rw[List.take_append_drop,←hA] at this
  rw[←hAe];exact this
 simp only[←hA] at hAo
 obtain⟨tk,ta⟩:=th
 refine M.F Tryz.func56 ?_
 repeat'(first|refine M.gw ?_|refine M.cs ?_ ?_<;>intro h|fail)
 all_goals first
  |(exfalso;simp at h;omega)
  |skip
 refine AW.range ([]:List Tm).length (fun m=>(A m).2.2=false) (fun m=>([(0,.ptr 0 0),(2,.s .rs env),(4,.ptr 1 0),(6,.ptr 2 0),(7,.slice (.own 3) (.t .rs (A m).1)),(64,.s .tm []),(65,.i ([]:List Tm).length),(66,.i m)],⟨4,[(0,.var [.i (A m).2.1,.i most,.bool false]),(1,.var [.i 13,.i 0,.i tk,.s .ty ta,.s .tm []]),(2,.var noRs.view),(3,.row)]⟩))
  (by simp) (fun m=>rfl) (fun m=>rfl) rfl (by rw[hA0]) ?_ ?_ ?_
 ·simp only[hA0]
  exact(M.W [some 0,some 1,some 2,none])
 ·intro m hm hP
  have hmx:=hx _ (List.getElem_mem hm)
  obtain⟨o1,o2,o3⟩:=hAo m
  have hc:=ih g ([]:List Tm)[m] env cs (A m).2.1 Eb (([]:List Tm)[m].inf g).1 hmx.1 (by rw[←hmx.2.1]) he hmx.2.2 hE (by omega) o2 (by omega) (by omega)
  have hsn:=hAs m hm hP
  have hlm:=(o3 hP).1
  have hll:(([]:List Tm).take m).length≤3:=by simp only[List.length_take,List.length_cons,List.length_nil];omega
  have hlast:=hAl (m+1) hm
  generalize evalE most n ([]:List Tm)[m] env (A m).2.1=R at*
  obtain⟨r,v,o⟩:=R
  simp only at hc hsn
  cases o with
  |true=>
   have e2:=hlast (by rw[hsn])
   rw[hsn] at e2
   have e3:S=(noRs,v,true):=by rw[hS,if_pos (by rw[e2]),e2]
   subst e3
   repeat'(first|refine M.gw ?_|refine M.cb (hc) [0] 0 ?_|refine L.apt9 U U U U U U (by first|exact trivial|exact⟨rfl,trivial⟩) U U (by first|omega|(simp;omega)) ?_|fail)
   all_goals first
    |(exact M.n2 [some 0] (h8:=(by simp[tupV,V.wk,V.wks,constV,Ty.view,Tm.view,Rs.view,Rs.num,Rs.list,Rs.pair,Rs.body,Rs.env,Tm.view,Tm.kind,Tm.index,Tm.ty,Tm.args,Ty.kind,Ty.args,EC.view,noRs,noTm,V.wk,V.wks])))
    |trace_state
  |false=>
   repeat'(first|refine M.gw ?_|refine M.cb (hc) [0] 0 ?_|refine L.apt9 U U U U U U (by first|exact trivial|exact⟨rfl,trivial⟩) U U (by first|omega|(simp;omega)) ?_|fail)
   refine⟨rfl,(by show(A (m+1)).2.2=false;rw[hsn]),?_⟩
   simp only[hsn]
   exact(M.W [some 0,some 1,some 2,some 5])
 ·intro hP
  have hP:(A 0).2.2=false:=hP
  obtain⟨o1,o2,o3⟩:=hAo 0
  obtain⟨o4,ds,o5,o6⟩:=o3 hP
  rw[if_neg (by rw[hP];simp)] at hS
  clear hAe hAs hAl hA0 hAo
  generalize (A 0).1=l at*
  generalize (A 0).2.1=v at*
  obtain rfl:=List.eq_nil_of_length_eq_zero o4
  have e:S=(noRs,v,false):=by simpa [headE] using hS
  subst e
  repeat'(first|refine M.gw ?_|refine M.bl ?_|fail)
  all_goals first
   |(exact M.n2 [some 0] (h8:=(by simp[tupV,V.wk,V.wks,constV,Ty.view,Tm.view,Rs.view,Rs.num,Rs.list,Rs.pair,Rs.body,Rs.env,Tm.view,Tm.kind,Tm.index,Tm.ty,Tm.args,Ty.kind,Ty.args,EC.view,noRs,noTm,V.wk,V.wks])))
   |trace_state
theorem ev5_c{C:Nat}{most:Int}{n:Nat}(hC:C≤1000000)(hm0:0≤most∧most≤1000000)(ih:EvC C most n)(g:List Ty)(th:Ty)(x:Tm)(env:List Rs)(cs:List Tm)(u Eb:Int)(T:Ty)
 (hi:(Tm.mk 5 0 th [x]).inf g=(T,0)) (he:EnvOk C Eb g env cs) (hx:∀w∈([x]:List Tm),w.shape=true∧(w.inf g).2=0∧g.length+w.size≤C) (hE:0≤Eb) (hu0:0≤u) (hu:u<most) (hb:Eb+(most-u)≤1000000) (hn:most-u≤n+1) (S:Rs×Int×Bool)
 (hS:S=if(argsE (evalE most n) env [x] (u+1)).2.2=true then(noRs,(argsE (evalE most n) env [x] (u+1)).2.1,true) else headE (callE (evalE most n)) 5 (argsE (evalE most n) env [x] (u+1)).1 (argsE (evalE most n) env [x] (u+1)).2.1):
 AC E 56 [.ptr 0 0,.agg (Tm.mk 5 0 th [x]).view,.s .rs env] ⟨1,[(0,.var [.i u,.i most,.bool false])]⟩ (.agg S.1.view) ⟨1,[(0,.var [.i S.2.1,.i most,.bool S.2.2])]⟩:=by
 have hcl:=clC hC ih
 have hev:=evalE_ok C most n
 have hC2:=callE_ok hev
 have hgl:=he.l1
 obtain⟨A,hA⟩:∃A:Nat→List Rs×Int×Bool,∀m,A m=argsE (evalE most n) env (([x]:List Tm).take m) (u+1):=⟨_,fun _=>rfl⟩
 have hA0:A 0=([],u+1,false):=by rw[hA];rfl
 have hAe:argsE (evalE most n) env [x] (u+1)=A 1:=by rw[hA];rfl
 rw[hAe] at hS
 have hAo:=fun m=>argsE_ok hev he hE (([x]:List Tm).take m) (u+1) (fun w hw=>hx w (List.mem_of_mem_take hw)) (by omega)
 have hAs:∀m (h:m<1),(A m).2.2=false→A (m+1)=((A m).1++[(evalE most n ([x]:List Tm)[m] env (A m).2.1).1],(evalE most n ([x]:List Tm)[m] env (A m).2.1).2.1,(evalE most n ([x]:List Tm)[m] env (A m).2.1).2.2):=fun m h ho=>by
  rw[hA (m+1),←List.take_append_getElem (show m<([x]:List Tm).length from h),argsE_snoc _ _ _ (by rw[←hA];exact ho),←hA]
 have hAl:∀m,m≤1→(A m).2.2=true→(A 1).2=(A m).2:=fun m h ho=>by
  have:=argsE_out (([x]:List Tm).drop m) (([x]:List Tm).take m) (u+1) (by rw[←hA];exact ho)
  rw[List.take_append_drop,←hA] at this
  rw[←hAe];exact this
 simp only[←hA] at hAo
 obtain⟨tk,ta⟩:=th
 refine M.F Tryz.func56 ?_
 repeat'(first|refine M.gw ?_|refine M.cs ?_ ?_<;>intro h|fail)
 all_goals first
  |(exfalso;simp at h;omega)
  |skip
 refine AW.range ([x]:List Tm).length (fun m=>(A m).2.2=false) (fun m=>([(0,.ptr 0 0),(2,.s .rs env),(4,.ptr 1 0),(6,.ptr 2 0),(7,.slice (.own 3) (.t .rs (A m).1)),(64,.s .tm [x]),(65,.i ([x]:List Tm).length),(66,.i m)],⟨4,[(0,.var [.i (A m).2.1,.i most,.bool false]),(1,.var [.i 5,.i 0,.i tk,.s .ty ta,.s .tm [x]]),(2,.var noRs.view),(3,.row)]⟩))
  (by simp) (fun m=>rfl) (fun m=>rfl) rfl (by rw[hA0]) ?_ ?_ ?_
 ·simp only[hA0]
  exact(M.W [some 0,some 1,some 2,none])
 ·intro m hm hP
  have hmx:=hx _ (List.getElem_mem hm)
  obtain⟨o1,o2,o3⟩:=hAo m
  have hc:=ih g ([x]:List Tm)[m] env cs (A m).2.1 Eb (([x]:List Tm)[m].inf g).1 hmx.1 (by rw[←hmx.2.1]) he hmx.2.2 hE (by omega) o2 (by omega) (by omega)
  have hsn:=hAs m hm hP
  have hlm:=(o3 hP).1
  have hll:(([x]:List Tm).take m).length≤3:=by simp only[List.length_take,List.length_cons,List.length_nil];omega
  have hlast:=hAl (m+1) hm
  generalize evalE most n ([x]:List Tm)[m] env (A m).2.1=R at*
  obtain⟨r,v,o⟩:=R
  simp only at hc hsn
  cases o with
  |true=>
   have e2:=hlast (by rw[hsn])
   rw[hsn] at e2
   have e3:S=(noRs,v,true):=by rw[hS,if_pos (by rw[e2]),e2]
   subst e3
   repeat'(first|refine M.gw ?_|refine M.cb (hc) [0] 0 ?_|refine L.apt9 U U U U U U (by first|exact trivial|exact⟨rfl,trivial⟩) U U (by first|omega|(simp;omega)) ?_|fail)
   all_goals first
    |(exact M.n2 [some 0] (h8:=(by simp[tupV,V.wk,V.wks,constV,Ty.view,Tm.view,Rs.view,Rs.num,Rs.list,Rs.pair,Rs.body,Rs.env,Tm.view,Tm.kind,Tm.index,Tm.ty,Tm.args,Ty.kind,Ty.args,EC.view,noRs,noTm,V.wk,V.wks])))
    |trace_state
  |false=>
   repeat'(first|refine M.gw ?_|refine M.cb (hc) [0] 0 ?_|refine L.apt9 U U U U U U (by first|exact trivial|exact⟨rfl,trivial⟩) U U (by first|omega|(simp;omega)) ?_|fail)
   refine⟨rfl,(by show(A (m+1)).2.2=false;rw[hsn]),?_⟩
   simp only[hsn]
   exact(M.W [some 0,some 1,some 2,some 5])
 ·intro hP
  have hP:(A 1).2.2=false:=hP
  obtain⟨o1,o2,o3⟩:=hAo 1
  obtain⟨o4,ds,o5,o6⟩:=o3 hP
  rw[if_neg (by rw[hP];simp)] at hS
  clear hAe hAs hAl hA0 hAo
  generalize (A 1).1=l at*
  generalize (A 1).2.1=v at*
  obtain⟨r1,rfl⟩:∃r,l=[r]:=List.length_eq_one_iff.1 o4
  obtain⟨c1,rfl⟩:∃c,ds=[c]:=List.length_eq_one_iff.1 o5
  obtain⟨q1,_⟩:=o6 0 (by simp)
  simp only[List.take,List.getD_cons_zero] at q1
  obtain⟨hT,hx1⟩:=succ_inf hi
  rw[hx1] at q1
  obtain⟨n1,n2,_⟩:=nat_inv q1 rfl
  obtain⟨num,li,pa,⟨bk,bi,⟨bh,bg⟩,ba⟩,en⟩:=r1
  simp only[Rs.num] at n1 n2
  have e:S=(.mk (num+1) [] [] noTm [],v,false):=by simpa [headE,Rs.num] using hS
  subst e
  have hw:=IntWalk.i64_in (num+1) (by omega)
  repeat'(first|refine M.gw ?_|refine M.bl ?_|fail)
  all_goals first
   |(exact M.n2 [some 0] (h8:=(by simp[tupV,V.wk,V.wks,constV,Ty.view,Tm.view,hw,Rs.view,Rs.num,Rs.list,Rs.pair,Rs.body,Rs.env,Tm.view,Tm.kind,Tm.index,Tm.ty,Tm.args,Ty.kind,Ty.args,EC.view,noRs,noTm,V.wk,V.wks])))
   |trace_state
theorem ev11_c{C:Nat}{most:Int}{n:Nat}(hC:C≤1000000)(hm0:0≤most∧most≤1000000)(ih:EvC C most n)(g:List Ty)(th:Ty)(x:Tm)(env:List Rs)(cs:List Tm)(u Eb:Int)(T:Ty)
 (hi:(Tm.mk 11 0 th [x]).inf g=(T,0)) (he:EnvOk C Eb g env cs) (hx:∀w∈([x]:List Tm),w.shape=true∧(w.inf g).2=0∧g.length+w.size≤C) (hE:0≤Eb) (hu0:0≤u) (hu:u<most) (hb:Eb+(most-u)≤1000000) (hn:most-u≤n+1) (S:Rs×Int×Bool)
 (hS:S=if(argsE (evalE most n) env [x] (u+1)).2.2=true then(noRs,(argsE (evalE most n) env [x] (u+1)).2.1,true) else headE (callE (evalE most n)) 11 (argsE (evalE most n) env [x] (u+1)).1 (argsE (evalE most n) env [x] (u+1)).2.1):
 AC E 56 [.ptr 0 0,.agg (Tm.mk 11 0 th [x]).view,.s .rs env] ⟨1,[(0,.var [.i u,.i most,.bool false])]⟩ (.agg S.1.view) ⟨1,[(0,.var [.i S.2.1,.i most,.bool S.2.2])]⟩:=by
 have hcl:=clC hC ih
 have hev:=evalE_ok C most n
 have hC2:=callE_ok hev
 have hgl:=he.l1
 obtain⟨A,hA⟩:∃A:Nat→List Rs×Int×Bool,∀m,A m=argsE (evalE most n) env (([x]:List Tm).take m) (u+1):=⟨_,fun _=>rfl⟩
 have hA0:A 0=([],u+1,false):=by rw[hA];rfl
 have hAe:argsE (evalE most n) env [x] (u+1)=A 1:=by rw[hA];rfl
 rw[hAe] at hS
 have hAo:=fun m=>argsE_ok hev he hE (([x]:List Tm).take m) (u+1) (fun w hw=>hx w (List.mem_of_mem_take hw)) (by omega)
 have hAs:∀m (h:m<1),(A m).2.2=false→A (m+1)=((A m).1++[(evalE most n ([x]:List Tm)[m] env (A m).2.1).1],(evalE most n ([x]:List Tm)[m] env (A m).2.1).2.1,(evalE most n ([x]:List Tm)[m] env (A m).2.1).2.2):=fun m h ho=>by
  rw[hA (m+1),←List.take_append_getElem (show m<([x]:List Tm).length from h),argsE_snoc _ _ _ (by rw[←hA];exact ho),←hA]
 have hAl:∀m,m≤1→(A m).2.2=true→(A 1).2=(A m).2:=fun m h ho=>by
  have:=argsE_out (([x]:List Tm).drop m) (([x]:List Tm).take m) (u+1) (by rw[←hA];exact ho)
  rw[List.take_append_drop,←hA] at this
  rw[←hAe];exact this
 simp only[←hA] at hAo
 obtain⟨tk,ta⟩:=th
 refine M.F Tryz.func56 ?_
 repeat'(first|refine M.gw ?_|refine M.cs ?_ ?_<;>intro h|fail)
 all_goals first
  |(exfalso;simp at h;omega)
  |skip
 refine AW.range ([x]:List Tm).length (fun m=>(A m).2.2=false) (fun m=>([(0,.ptr 0 0),(2,.s .rs env),(4,.ptr 1 0),(6,.ptr 2 0),(7,.slice (.own 3) (.t .rs (A m).1)),(64,.s .tm [x]),(65,.i ([x]:List Tm).length),(66,.i m)],⟨4,[(0,.var [.i (A m).2.1,.i most,.bool false]),(1,.var [.i 11,.i 0,.i tk,.s .ty ta,.s .tm [x]]),(2,.var noRs.view),(3,.row)]⟩))
  (by simp) (fun m=>rfl) (fun m=>rfl) rfl (by rw[hA0]) ?_ ?_ ?_
 ·simp only[hA0]
  exact(M.W [some 0,some 1,some 2,none])
 ·intro m hm hP
  have hmx:=hx _ (List.getElem_mem hm)
  obtain⟨o1,o2,o3⟩:=hAo m
  have hc:=ih g ([x]:List Tm)[m] env cs (A m).2.1 Eb (([x]:List Tm)[m].inf g).1 hmx.1 (by rw[←hmx.2.1]) he hmx.2.2 hE (by omega) o2 (by omega) (by omega)
  have hsn:=hAs m hm hP
  have hlm:=(o3 hP).1
  have hll:(([x]:List Tm).take m).length≤3:=by simp only[List.length_take,List.length_cons,List.length_nil];omega
  have hlast:=hAl (m+1) hm
  generalize evalE most n ([x]:List Tm)[m] env (A m).2.1=R at*
  obtain⟨r,v,o⟩:=R
  simp only at hc hsn
  cases o with
  |true=>
   have e2:=hlast (by rw[hsn])
   rw[hsn] at e2
   have e3:S=(noRs,v,true):=by rw[hS,if_pos (by rw[e2]),e2]
   subst e3
   repeat'(first|refine M.gw ?_|refine M.cb (hc) [0] 0 ?_|refine L.apt9 U U U U U U (by first|exact trivial|exact⟨rfl,trivial⟩) U U (by first|omega|(simp;omega)) ?_|fail)
   all_goals first
    |(exact M.n2 [some 0] (h8:=(by simp[tupV,V.wk,V.wks,constV,Ty.view,Tm.view,Rs.view,Rs.num,Rs.list,Rs.pair,Rs.body,Rs.env,Tm.view,Tm.kind,Tm.index,Tm.ty,Tm.args,Ty.kind,Ty.args,EC.view,noRs,noTm,V.wk,V.wks])))
    |trace_state
  |false=>
   repeat'(first|refine M.gw ?_|refine M.cb (hc) [0] 0 ?_|refine L.apt9 U U U U U U (by first|exact trivial|exact⟨rfl,trivial⟩) U U (by first|omega|(simp;omega)) ?_|fail)
   refine⟨rfl,(by show(A (m+1)).2.2=false;rw[hsn]),?_⟩
   simp only[hsn]
   exact(M.W [some 0,some 1,some 2,some 5])
 ·intro hP
  have hP:(A 1).2.2=false:=hP
  obtain⟨o1,o2,o3⟩:=hAo 1
  obtain⟨o4,ds,o5,o6⟩:=o3 hP
  rw[if_neg (by rw[hP];simp)] at hS
  clear hAe hAs hAl hA0 hAo
  generalize (A 1).1=l at*
  generalize (A 1).2.1=v at*
  obtain⟨r1,rfl⟩:∃r,l=[r]:=List.length_eq_one_iff.1 o4
  obtain⟨c1,rfl⟩:∃c,ds=[c]:=List.length_eq_one_iff.1 o5
  obtain⟨q1,_⟩:=o6 0 (by simp)
  simp only[List.take,List.getD_cons_zero] at q1
  obtain⟨a,b,ra,rb,ca,cb,e1,e2,q3,q4,_⟩:=pair_inv q1 (fst_inf hi).1
  obtain⟨num,li,pa,⟨bk,bi,⟨bh,bg⟩,bb⟩,en⟩:=r1
  simp only[Rs.pair] at e2
  subst e2
  have e:S=(ra,v,false):=by simpa [headE,Rs.pair] using hS
  subst e
  repeat'(first|refine M.gw ?_|refine M.bl ?_|fail)
  all_goals first
   |(exact M.n2 [some 0] (h8:=(by simp[tupV,V.wk,V.wks,constV,Ty.view,Tm.view,Rs.view,Rs.num,Rs.list,Rs.pair,Rs.body,Rs.env,Tm.view,Tm.kind,Tm.index,Tm.ty,Tm.args,Ty.kind,Ty.args,EC.view,noRs,noTm,V.wk,V.wks])))
   |trace_state
theorem ev12_c{C:Nat}{most:Int}{n:Nat}(hC:C≤1000000)(hm0:0≤most∧most≤1000000)(ih:EvC C most n)(g:List Ty)(th:Ty)(x:Tm)(env:List Rs)(cs:List Tm)(u Eb:Int)(T:Ty)
 (hi:(Tm.mk 12 0 th [x]).inf g=(T,0)) (he:EnvOk C Eb g env cs) (hx:∀w∈([x]:List Tm),w.shape=true∧(w.inf g).2=0∧g.length+w.size≤C) (hE:0≤Eb) (hu0:0≤u) (hu:u<most) (hb:Eb+(most-u)≤1000000) (hn:most-u≤n+1) (S:Rs×Int×Bool)
 (hS:S=if(argsE (evalE most n) env [x] (u+1)).2.2=true then(noRs,(argsE (evalE most n) env [x] (u+1)).2.1,true) else headE (callE (evalE most n)) 12 (argsE (evalE most n) env [x] (u+1)).1 (argsE (evalE most n) env [x] (u+1)).2.1):
 AC E 56 [.ptr 0 0,.agg (Tm.mk 12 0 th [x]).view,.s .rs env] ⟨1,[(0,.var [.i u,.i most,.bool false])]⟩ (.agg S.1.view) ⟨1,[(0,.var [.i S.2.1,.i most,.bool S.2.2])]⟩:=by
 have hcl:=clC hC ih
 have hev:=evalE_ok C most n
 have hC2:=callE_ok hev
 have hgl:=he.l1
 obtain⟨A,hA⟩:∃A:Nat→List Rs×Int×Bool,∀m,A m=argsE (evalE most n) env (([x]:List Tm).take m) (u+1):=⟨_,fun _=>rfl⟩
 have hA0:A 0=([],u+1,false):=by rw[hA];rfl
 have hAe:argsE (evalE most n) env [x] (u+1)=A 1:=by rw[hA];rfl
 rw[hAe] at hS
 have hAo:=fun m=>argsE_ok hev he hE (([x]:List Tm).take m) (u+1) (fun w hw=>hx w (List.mem_of_mem_take hw)) (by omega)
 have hAs:∀m (h:m<1),(A m).2.2=false→A (m+1)=((A m).1++[(evalE most n ([x]:List Tm)[m] env (A m).2.1).1],(evalE most n ([x]:List Tm)[m] env (A m).2.1).2.1,(evalE most n ([x]:List Tm)[m] env (A m).2.1).2.2):=fun m h ho=>by
  rw[hA (m+1),←List.take_append_getElem (show m<([x]:List Tm).length from h),argsE_snoc _ _ _ (by rw[←hA];exact ho),←hA]
 have hAl:∀m,m≤1→(A m).2.2=true→(A 1).2=(A m).2:=fun m h ho=>by
  have:=argsE_out (([x]:List Tm).drop m) (([x]:List Tm).take m) (u+1) (by rw[←hA];exact ho)
  rw[List.take_append_drop,←hA] at this
  rw[←hAe];exact this
 simp only[←hA] at hAo
 obtain⟨tk,ta⟩:=th
 refine M.F Tryz.func56 ?_
 repeat'(first|refine M.gw ?_|refine M.cs ?_ ?_<;>intro h|fail)
 all_goals first
  |(exfalso;simp at h;omega)
  |skip
 refine AW.range ([x]:List Tm).length (fun m=>(A m).2.2=false) (fun m=>([(0,.ptr 0 0),(2,.s .rs env),(4,.ptr 1 0),(6,.ptr 2 0),(7,.slice (.own 3) (.t .rs (A m).1)),(64,.s .tm [x]),(65,.i ([x]:List Tm).length),(66,.i m)],⟨4,[(0,.var [.i (A m).2.1,.i most,.bool false]),(1,.var [.i 12,.i 0,.i tk,.s .ty ta,.s .tm [x]]),(2,.var noRs.view),(3,.row)]⟩))
  (by simp) (fun m=>rfl) (fun m=>rfl) rfl (by rw[hA0]) ?_ ?_ ?_
 ·simp only[hA0]
  exact(M.W [some 0,some 1,some 2,none])
 ·intro m hm hP
  have hmx:=hx _ (List.getElem_mem hm)
  obtain⟨o1,o2,o3⟩:=hAo m
  have hc:=ih g ([x]:List Tm)[m] env cs (A m).2.1 Eb (([x]:List Tm)[m].inf g).1 hmx.1 (by rw[←hmx.2.1]) he hmx.2.2 hE (by omega) o2 (by omega) (by omega)
  have hsn:=hAs m hm hP
  have hlm:=(o3 hP).1
  have hll:(([x]:List Tm).take m).length≤3:=by simp only[List.length_take,List.length_cons,List.length_nil];omega
  have hlast:=hAl (m+1) hm
  generalize evalE most n ([x]:List Tm)[m] env (A m).2.1=R at*
  obtain⟨r,v,o⟩:=R
  simp only at hc hsn
  cases o with
  |true=>
   have e2:=hlast (by rw[hsn])
   rw[hsn] at e2
   have e3:S=(noRs,v,true):=by rw[hS,if_pos (by rw[e2]),e2]
   subst e3
   repeat'(first|refine M.gw ?_|refine M.cb (hc) [0] 0 ?_|refine L.apt9 U U U U U U (by first|exact trivial|exact⟨rfl,trivial⟩) U U (by first|omega|(simp;omega)) ?_|fail)
   all_goals first
    |(exact M.n2 [some 0] (h8:=(by simp[tupV,V.wk,V.wks,constV,Ty.view,Tm.view,Rs.view,Rs.num,Rs.list,Rs.pair,Rs.body,Rs.env,Tm.view,Tm.kind,Tm.index,Tm.ty,Tm.args,Ty.kind,Ty.args,EC.view,noRs,noTm,V.wk,V.wks])))
    |trace_state
  |false=>
   repeat'(first|refine M.gw ?_|refine M.cb (hc) [0] 0 ?_|refine L.apt9 U U U U U U (by first|exact trivial|exact⟨rfl,trivial⟩) U U (by first|omega|(simp;omega)) ?_|fail)
   refine⟨rfl,(by show(A (m+1)).2.2=false;rw[hsn]),?_⟩
   simp only[hsn]
   exact(M.W [some 0,some 1,some 2,some 5])
 ·intro hP
  have hP:(A 1).2.2=false:=hP
  obtain⟨o1,o2,o3⟩:=hAo 1
  obtain⟨o4,ds,o5,o6⟩:=o3 hP
  rw[if_neg (by rw[hP];simp)] at hS
  clear hAe hAs hAl hA0 hAo
  generalize (A 1).1=l at*
  generalize (A 1).2.1=v at*
  obtain⟨r1,rfl⟩:∃r,l=[r]:=List.length_eq_one_iff.1 o4
  obtain⟨c1,rfl⟩:∃c,ds=[c]:=List.length_eq_one_iff.1 o5
  obtain⟨q1,_⟩:=o6 0 (by simp)
  simp only[List.take,List.getD_cons_zero] at q1
  obtain⟨a,b,ra,rb,ca,cb,e1,e2,q3,q4,_⟩:=pair_inv q1 (snd_inf hi).1
  obtain⟨num,li,pa,⟨bk,bi,⟨bh,bg⟩,bb⟩,en⟩:=r1
  simp only[Rs.pair] at e2
  subst e2
  have e:S=(rb,v,false):=by simpa [headE,Rs.pair] using hS
  subst e
  repeat'(first|refine M.gw ?_|refine M.bl ?_|fail)
  all_goals first
   |(exact M.n2 [some 0] (h8:=(by simp[tupV,V.wk,V.wks,constV,Ty.view,Tm.view,Rs.view,Rs.num,Rs.list,Rs.pair,Rs.body,Rs.env,Tm.view,Tm.kind,Tm.index,Tm.ty,Tm.args,Ty.kind,Ty.args,EC.view,noRs,noTm,V.wk,V.wks])))
   |trace_state
theorem ev10_c{C:Nat}{most:Int}{n:Nat}(hC:C≤1000000)(hm0:0≤most∧most≤1000000)(ih:EvC C most n)(g:List Ty)(th:Ty)(x y:Tm)(env:List Rs)(cs:List Tm)(u Eb:Int)(T:Ty)
 (hi:(Tm.mk 10 0 th [x,y]).inf g=(T,0)) (he:EnvOk C Eb g env cs) (hx:∀w∈([x,y]:List Tm),w.shape=true∧(w.inf g).2=0∧g.length+w.size≤C) (hE:0≤Eb) (hu0:0≤u) (hu:u<most) (hb:Eb+(most-u)≤1000000) (hn:most-u≤n+1) (S:Rs×Int×Bool)
 (hS:S=if(argsE (evalE most n) env [x,y] (u+1)).2.2=true then(noRs,(argsE (evalE most n) env [x,y] (u+1)).2.1,true) else headE (callE (evalE most n)) 10 (argsE (evalE most n) env [x,y] (u+1)).1 (argsE (evalE most n) env [x,y] (u+1)).2.1):
 AC E 56 [.ptr 0 0,.agg (Tm.mk 10 0 th [x,y]).view,.s .rs env] ⟨1,[(0,.var [.i u,.i most,.bool false])]⟩ (.agg S.1.view) ⟨1,[(0,.var [.i S.2.1,.i most,.bool S.2.2])]⟩:=by
 have hcl:=clC hC ih
 have hev:=evalE_ok C most n
 have hC2:=callE_ok hev
 have hgl:=he.l1
 obtain⟨A,hA⟩:∃A:Nat→List Rs×Int×Bool,∀m,A m=argsE (evalE most n) env (([x,y]:List Tm).take m) (u+1):=⟨_,fun _=>rfl⟩
 have hA0:A 0=([],u+1,false):=by rw[hA];rfl
 have hAe:argsE (evalE most n) env [x,y] (u+1)=A 2:=by rw[hA];rfl
 rw[hAe] at hS
 have hAo:=fun m=>argsE_ok hev he hE (([x,y]:List Tm).take m) (u+1) (fun w hw=>hx w (List.mem_of_mem_take hw)) (by omega)
 have hAs:∀m (h:m<2),(A m).2.2=false→A (m+1)=((A m).1++[(evalE most n ([x,y]:List Tm)[m] env (A m).2.1).1],(evalE most n ([x,y]:List Tm)[m] env (A m).2.1).2.1,(evalE most n ([x,y]:List Tm)[m] env (A m).2.1).2.2):=fun m h ho=>by
  rw[hA (m+1),←List.take_append_getElem (show m<([x,y]:List Tm).length from h),argsE_snoc _ _ _ (by rw[←hA];exact ho),←hA]
 have hAl:∀m,m≤2→(A m).2.2=true→(A 2).2=(A m).2:=fun m h ho=>by
  have:=argsE_out (([x,y]:List Tm).drop m) (([x,y]:List Tm).take m) (u+1) (by rw[←hA];exact ho)
  rw[List.take_append_drop,←hA] at this
  rw[←hAe];exact this
 simp only[←hA] at hAo
 obtain⟨tk,ta⟩:=th
 refine M.F Tryz.func56 ?_
 repeat'(first|refine M.gw ?_|refine M.cs ?_ ?_<;>intro h|fail)
 all_goals first
  |(exfalso;simp at h;omega)
  |skip
 refine AW.range ([x,y]:List Tm).length (fun m=>(A m).2.2=false) (fun m=>([(0,.ptr 0 0),(2,.s .rs env),(4,.ptr 1 0),(6,.ptr 2 0),(7,.slice (.own 3) (.t .rs (A m).1)),(64,.s .tm [x,y]),(65,.i ([x,y]:List Tm).length),(66,.i m)],⟨4,[(0,.var [.i (A m).2.1,.i most,.bool false]),(1,.var [.i 10,.i 0,.i tk,.s .ty ta,.s .tm [x,y]]),(2,.var noRs.view),(3,.row)]⟩))
  (by simp) (fun m=>rfl) (fun m=>rfl) rfl (by rw[hA0]) ?_ ?_ ?_
 ·simp only[hA0]
  exact(M.W [some 0,some 1,some 2,none])
 ·intro m hm hP
  have hmx:=hx _ (List.getElem_mem hm)
  obtain⟨o1,o2,o3⟩:=hAo m
  have hc:=ih g ([x,y]:List Tm)[m] env cs (A m).2.1 Eb (([x,y]:List Tm)[m].inf g).1 hmx.1 (by rw[←hmx.2.1]) he hmx.2.2 hE (by omega) o2 (by omega) (by omega)
  have hsn:=hAs m hm hP
  have hlm:=(o3 hP).1
  have hll:(([x,y]:List Tm).take m).length≤3:=by simp only[List.length_take,List.length_cons,List.length_nil];omega
  have hlast:=hAl (m+1) hm
  generalize evalE most n ([x,y]:List Tm)[m] env (A m).2.1=R at*
  obtain⟨r,v,o⟩:=R
  simp only at hc hsn
  cases o with
  |true=>
   have e2:=hlast (by rw[hsn])
   rw[hsn] at e2
   have e3:S=(noRs,v,true):=by rw[hS,if_pos (by rw[e2]),e2]
   subst e3
   repeat'(first|refine M.gw ?_|refine M.cb (hc) [0] 0 ?_|refine L.apt9 U U U U U U (by first|exact trivial|exact⟨rfl,trivial⟩) U U (by first|omega|(simp;omega)) ?_|fail)
   all_goals first
    |(exact M.n2 [some 0] (h8:=(by simp[tupV,V.wk,V.wks,constV,Ty.view,Tm.view,Rs.view,Rs.num,Rs.list,Rs.pair,Rs.body,Rs.env,Tm.view,Tm.kind,Tm.index,Tm.ty,Tm.args,Ty.kind,Ty.args,EC.view,noRs,noTm,V.wk,V.wks])))
    |trace_state
  |false=>
   repeat'(first|refine M.gw ?_|refine M.cb (hc) [0] 0 ?_|refine L.apt9 U U U U U U (by first|exact trivial|exact⟨rfl,trivial⟩) U U (by first|omega|(simp;omega)) ?_|fail)
   refine⟨rfl,(by show(A (m+1)).2.2=false;rw[hsn]),?_⟩
   simp only[hsn]
   exact(M.W [some 0,some 1,some 2,some 5])
 ·intro hP
  have hP:(A 2).2.2=false:=hP
  obtain⟨o1,o2,o3⟩:=hAo 2
  obtain⟨o4,ds,o5,o6⟩:=o3 hP
  rw[if_neg (by rw[hP];simp)] at hS
  clear hAe hAs hAl hA0 hAo
  generalize (A 2).1=l at*
  generalize (A 2).2.1=v at*
  obtain⟨r1,r2,rfl⟩:=two_of o4
  obtain⟨c1,c2,rfl⟩:=two_of o5
  obtain⟨q1,_⟩:=o6 0 (by simp)
  obtain⟨q2,_⟩:=o6 1 (by simp)
  simp only[List.take,List.getD_cons_zero,List.getD_cons_succ] at q1 q2
  have e:S=(.mk 0 [] [r1,r2] noTm [],v,false):=by simpa [headE] using hS
  subst e
  repeat'(first|refine M.gw ?_|refine M.bl ?_|fail)
  all_goals first
   |(exact M.n2 [some 0] (h8:=(by simp[tupV,V.wk,V.wks,constV,Ty.view,Tm.view,Rs.view,Rs.num,Rs.list,Rs.pair,Rs.body,Rs.env,Tm.view,Tm.kind,Tm.index,Tm.ty,Tm.args,Ty.kind,Ty.args,EC.view,noRs,noTm,V.wk,V.wks])))
   |trace_state
theorem ev8_c{C:Nat}{most:Int}{n:Nat}(hC:C≤1000000)(hm0:0≤most∧most≤1000000)(ih:EvC C most n)(g:List Ty)(th:Ty)(x y:Tm)(env:List Rs)(cs:List Tm)(u Eb:Int)(T:Ty)
 (hi:(Tm.mk 8 0 th [x,y]).inf g=(T,0)) (he:EnvOk C Eb g env cs) (hx:∀w∈([x,y]:List Tm),w.shape=true∧(w.inf g).2=0∧g.length+w.size≤C) (hE:0≤Eb) (hu0:0≤u) (hu:u<most) (hb:Eb+(most-u)≤1000000) (hn:most-u≤n+1) (S:Rs×Int×Bool)
 (hS:S=if(argsE (evalE most n) env [x,y] (u+1)).2.2=true then(noRs,(argsE (evalE most n) env [x,y] (u+1)).2.1,true) else headE (callE (evalE most n)) 8 (argsE (evalE most n) env [x,y] (u+1)).1 (argsE (evalE most n) env [x,y] (u+1)).2.1):
 AC E 56 [.ptr 0 0,.agg (Tm.mk 8 0 th [x,y]).view,.s .rs env] ⟨1,[(0,.var [.i u,.i most,.bool false])]⟩ (.agg S.1.view) ⟨1,[(0,.var [.i S.2.1,.i most,.bool S.2.2])]⟩:=by
 have hcl:=clC hC ih
 have hev:=evalE_ok C most n
 have hC2:=callE_ok hev
 have hgl:=he.l1
 obtain⟨A,hA⟩:∃A:Nat→List Rs×Int×Bool,∀m,A m=argsE (evalE most n) env (([x,y]:List Tm).take m) (u+1):=⟨_,fun _=>rfl⟩
 have hA0:A 0=([],u+1,false):=by rw[hA];rfl
 have hAe:argsE (evalE most n) env [x,y] (u+1)=A 2:=by rw[hA];rfl
 rw[hAe] at hS
 have hAo:=fun m=>argsE_ok hev he hE (([x,y]:List Tm).take m) (u+1) (fun w hw=>hx w (List.mem_of_mem_take hw)) (by omega)
 have hAs:∀m (h:m<2),(A m).2.2=false→A (m+1)=((A m).1++[(evalE most n ([x,y]:List Tm)[m] env (A m).2.1).1],(evalE most n ([x,y]:List Tm)[m] env (A m).2.1).2.1,(evalE most n ([x,y]:List Tm)[m] env (A m).2.1).2.2):=fun m h ho=>by
  rw[hA (m+1),←List.take_append_getElem (show m<([x,y]:List Tm).length from h),argsE_snoc _ _ _ (by rw[←hA];exact ho),←hA]
 have hAl:∀m,m≤2→(A m).2.2=true→(A 2).2=(A m).2:=fun m h ho=>by
  have:=argsE_out (([x,y]:List Tm).drop m) (([x,y]:List Tm).take m) (u+1) (by rw[←hA];exact ho)
  rw[List.take_append_drop,←hA] at this
  rw[←hAe];exact this
 simp only[←hA] at hAo
 obtain⟨tk,ta⟩:=th
 refine M.F Tryz.func56 ?_
 repeat'(first|refine M.gw ?_|refine M.cs ?_ ?_<;>intro h|fail)
 all_goals first
  |(exfalso;simp at h;omega)
  |skip
 refine AW.range ([x,y]:List Tm).length (fun m=>(A m).2.2=false) (fun m=>([(0,.ptr 0 0),(2,.s .rs env),(4,.ptr 1 0),(6,.ptr 2 0),(7,.slice (.own 3) (.t .rs (A m).1)),(64,.s .tm [x,y]),(65,.i ([x,y]:List Tm).length),(66,.i m)],⟨4,[(0,.var [.i (A m).2.1,.i most,.bool false]),(1,.var [.i 8,.i 0,.i tk,.s .ty ta,.s .tm [x,y]]),(2,.var noRs.view),(3,.row)]⟩))
  (by simp) (fun m=>rfl) (fun m=>rfl) rfl (by rw[hA0]) ?_ ?_ ?_
 ·simp only[hA0]
  exact(M.W [some 0,some 1,some 2,none])
 ·intro m hm hP
  have hmx:=hx _ (List.getElem_mem hm)
  obtain⟨o1,o2,o3⟩:=hAo m
  have hc:=ih g ([x,y]:List Tm)[m] env cs (A m).2.1 Eb (([x,y]:List Tm)[m].inf g).1 hmx.1 (by rw[←hmx.2.1]) he hmx.2.2 hE (by omega) o2 (by omega) (by omega)
  have hsn:=hAs m hm hP
  have hlm:=(o3 hP).1
  have hll:(([x,y]:List Tm).take m).length≤3:=by simp only[List.length_take,List.length_cons,List.length_nil];omega
  have hlast:=hAl (m+1) hm
  generalize evalE most n ([x,y]:List Tm)[m] env (A m).2.1=R at*
  obtain⟨r,v,o⟩:=R
  simp only at hc hsn
  cases o with
  |true=>
   have e2:=hlast (by rw[hsn])
   rw[hsn] at e2
   have e3:S=(noRs,v,true):=by rw[hS,if_pos (by rw[e2]),e2]
   subst e3
   repeat'(first|refine M.gw ?_|refine M.cb (hc) [0] 0 ?_|refine L.apt9 U U U U U U (by first|exact trivial|exact⟨rfl,trivial⟩) U U (by first|omega|(simp;omega)) ?_|fail)
   all_goals first
    |(exact M.n2 [some 0] (h8:=(by simp[tupV,V.wk,V.wks,constV,Ty.view,Tm.view,Rs.view,Rs.num,Rs.list,Rs.pair,Rs.body,Rs.env,Tm.view,Tm.kind,Tm.index,Tm.ty,Tm.args,Ty.kind,Ty.args,EC.view,noRs,noTm,V.wk,V.wks])))
    |trace_state
  |false=>
   repeat'(first|refine M.gw ?_|refine M.cb (hc) [0] 0 ?_|refine L.apt9 U U U U U U (by first|exact trivial|exact⟨rfl,trivial⟩) U U (by first|omega|(simp;omega)) ?_|fail)
   refine⟨rfl,(by show(A (m+1)).2.2=false;rw[hsn]),?_⟩
   simp only[hsn]
   exact(M.W [some 0,some 1,some 2,some 5])
 ·intro hP
  have hP:(A 2).2.2=false:=hP
  obtain⟨o1,o2,o3⟩:=hAo 2
  obtain⟨o4,ds,o5,o6⟩:=o3 hP
  rw[if_neg (by rw[hP];simp)] at hS
  clear hAe hAs hAl hA0 hAo
  generalize (A 2).1=l at*
  generalize (A 2).2.1=v at*
  obtain⟨r1,r2,rfl⟩:=two_of o4
  obtain⟨c1,c2,rfl⟩:=two_of o5
  obtain⟨q1,_⟩:=o6 0 (by simp)
  obtain⟨q2,_⟩:=o6 1 (by simp)
  simp only[List.take,List.getD_cons_zero,List.getD_cons_succ] at q1 q2
  obtain⟨hT,hx1,hy1⟩:=cons_inf hi
  rw[hx1] at q1
  rw[hy1] at q2
  obtain⟨m1,m2,_⟩:=list_inv q2 rfl
  obtain⟨num,li,pa,⟨bk,bi,⟨bh,bg⟩,ba⟩,en⟩:=r1
  obtain⟨num2,li2,pa2,⟨bk2,bi2,⟨bh2,bg2⟩,ba2⟩,en2⟩:=r2
  simp only[Rs.list] at m1 m2
  have e:S=(.mk 0 (num::li2) [] noTm [],v,false):=by simpa [headE,Rs.num,Rs.list] using hS
  subst e
  rcases li2 with _|⟨z,zs⟩
  ·repeat' (first|refine M.gw ?_|refine M.bl ?_|fail)
   all_goals first
    |(exact M.n2 [some 0] (h8:=(by simp[tupV,V.wk,V.wks,constV,Ty.view,Tm.view,Rs.view,Rs.num,Rs.list,Rs.pair,Rs.body,Rs.env,Tm.view,Tm.kind,Tm.index,Tm.ty,Tm.args,Ty.kind,Ty.args,EC.view,noRs,noTm,V.wk,V.wks])))
    |trace_state
  ·have hz:zs.length≤3000000:=by simp only[List.length_cons] at m2;omega
   have h0:0<(([Rs.mk num li pa (.mk bk bi (.mk bh bg) ba) en,Rs.mk num2 (z::zs) pa2 (.mk bk2 bi2 (.mk bh2 bg2) ba2) en2]:List Rs)[1]).list.length:=by simp[Rs.list]
   have h00:(([Rs.mk num li pa (.mk bk bi (.mk bh bg) ba) en,Rs.mk num2 (z::zs) pa2 (.mk bk2 bi2 (.mk bh2 bg2) ba2) en2]:List Rs)[1]).list.length≤3000001:=by simp[Rs.list];omega
   repeat'(first|refine M.gw ?_|refine M.bl ?_|fail)
   refine L.aptF rfl rfl rfl rfl h0 rfl rfl rfl (by simp only[List.length_cons,List.length_nil];omega) ?_
   repeat'(first|refine M.gw ?_|fail)
   all_goals first
    |(exact M.n2 [some 0] (h8:=(by simp[tupV,V.wk,V.wks,constV,Ty.view,Tm.view,Rs.view,Rs.num,Rs.list,Rs.pair,Rs.body,Rs.env,Tm.view,Tm.kind,Tm.index,Tm.ty,Tm.args,Ty.kind,Ty.args,EC.view,noRs,noTm,V.wk,V.wks])))
    |trace_state
theorem ev6_c{C:Nat}{most:Int}{n:Nat}(hC:C≤1000000)(hm0:0≤most∧most≤1000000)(ih:EvC C most n)(g:List Ty)(th:Ty)(x y z:Tm)(env:List Rs)(cs:List Tm)(u Eb:Int)(T:Ty)
 (hi:(Tm.mk 6 0 th [x,y,z]).inf g=(T,0)) (he:EnvOk C Eb g env cs) (hx:∀w∈([x,y,z]:List Tm),w.shape=true∧(w.inf g).2=0∧g.length+w.size≤C) (hE:0≤Eb) (hu0:0≤u) (hu:u<most) (hb:Eb+(most-u)≤1000000) (hn:most-u≤n+1) (S:Rs×Int×Bool)
 (hS:S=if(argsE (evalE most n) env [x,y,z] (u+1)).2.2=true then(noRs,(argsE (evalE most n) env [x,y,z] (u+1)).2.1,true) else headE (callE (evalE most n)) 6 (argsE (evalE most n) env [x,y,z] (u+1)).1 (argsE (evalE most n) env [x,y,z] (u+1)).2.1):
 AC E 56 [.ptr 0 0,.agg (Tm.mk 6 0 th [x,y,z]).view,.s .rs env] ⟨1,[(0,.var [.i u,.i most,.bool false])]⟩ (.agg S.1.view) ⟨1,[(0,.var [.i S.2.1,.i most,.bool S.2.2])]⟩:=by
 have hcl:=clC hC ih
 have hev:=evalE_ok C most n
 have hC2:=callE_ok hev
 have hgl:=he.l1
 obtain⟨A,hA⟩:∃A:Nat→List Rs×Int×Bool,∀m,A m=argsE (evalE most n) env (([x,y,z]:List Tm).take m) (u+1):=⟨_,fun _=>rfl⟩
 have hA0:A 0=([],u+1,false):=by rw[hA];rfl
 have hAe:argsE (evalE most n) env [x,y,z] (u+1)=A 3:=by rw[hA];rfl
 rw[hAe] at hS
 have hAo:=fun m=>argsE_ok hev he hE (([x,y,z]:List Tm).take m) (u+1) (fun w hw=>hx w (List.mem_of_mem_take hw)) (by omega)
 have hAs:∀m (h:m<3),(A m).2.2=false→A (m+1)=((A m).1++[(evalE most n ([x,y,z]:List Tm)[m] env (A m).2.1).1],(evalE most n ([x,y,z]:List Tm)[m] env (A m).2.1).2.1,(evalE most n ([x,y,z]:List Tm)[m] env (A m).2.1).2.2):=fun m h ho=>by
  rw[hA (m+1),←List.take_append_getElem (show m<([x,y,z]:List Tm).length from h),argsE_snoc _ _ _ (by rw[←hA];exact ho),←hA]
 have hAl:∀m,m≤3→(A m).2.2=true→(A 3).2=(A m).2:=fun m h ho=>by
  have:=argsE_out (([x,y,z]:List Tm).drop m) (([x,y,z]:List Tm).take m) (u+1) (by rw[←hA];exact ho)
  rw[List.take_append_drop,←hA] at this
  rw[←hAe];exact this
 simp only[←hA] at hAo
 obtain⟨tk,ta⟩:=th
 refine M.F Tryz.func56 ?_
 repeat'(first|refine M.gw ?_|refine M.cs ?_ ?_<;>intro h|fail)
 all_goals first
  |(exfalso;simp at h;omega)
  |skip
 refine AW.range ([x,y,z]:List Tm).length (fun m=>(A m).2.2=false) (fun m=>([(0,.ptr 0 0),(2,.s .rs env),(4,.ptr 1 0),(6,.ptr 2 0),(7,.slice (.own 3) (.t .rs (A m).1)),(64,.s .tm [x,y,z]),(65,.i ([x,y,z]:List Tm).length),(66,.i m)],⟨4,[(0,.var [.i (A m).2.1,.i most,.bool false]),(1,.var [.i 6,.i 0,.i tk,.s .ty ta,.s .tm [x,y,z]]),(2,.var noRs.view),(3,.row)]⟩))
  (by simp) (fun m=>rfl) (fun m=>rfl) rfl (by rw[hA0]) ?_ ?_ ?_
 ·simp only[hA0]
  exact(M.W [some 0,some 1,some 2,none])
 ·intro m hm hP
  have hmx:=hx _ (List.getElem_mem hm)
  obtain⟨o1,o2,o3⟩:=hAo m
  have hc:=ih g ([x,y,z]:List Tm)[m] env cs (A m).2.1 Eb (([x,y,z]:List Tm)[m].inf g).1 hmx.1 (by rw[←hmx.2.1]) he hmx.2.2 hE (by omega) o2 (by omega) (by omega)
  have hsn:=hAs m hm hP
  have hlm:=(o3 hP).1
  have hll:(([x,y,z]:List Tm).take m).length≤3:=by simp only[List.length_take,List.length_cons,List.length_nil];omega
  have hlast:=hAl (m+1) hm
  generalize evalE most n ([x,y,z]:List Tm)[m] env (A m).2.1=R at*
  obtain⟨r,v,o⟩:=R
  simp only at hc hsn
  cases o with
  |true=>
   have e2:=hlast (by rw[hsn])
   rw[hsn] at e2
   have e3:S=(noRs,v,true):=by rw[hS,if_pos (by rw[e2]),e2]
   subst e3
   repeat'(first|refine M.gw ?_|refine M.cb (hc) [0] 0 ?_|refine L.apt9 U U U U U U (by first|exact trivial|exact⟨rfl,trivial⟩) U U (by first|omega|(simp;omega)) ?_|fail)
   all_goals first
    |(exact M.n2 [some 0] (h8:=(by simp[tupV,V.wk,V.wks,constV,Ty.view,Tm.view,Rs.view,Rs.num,Rs.list,Rs.pair,Rs.body,Rs.env,Tm.view,Tm.kind,Tm.index,Tm.ty,Tm.args,Ty.kind,Ty.args,EC.view,noRs,noTm,V.wk,V.wks])))
    |trace_state
  |false=>
   repeat'(first|refine M.gw ?_|refine M.cb (hc) [0] 0 ?_|refine L.apt9 U U U U U U (by first|exact trivial|exact⟨rfl,trivial⟩) U U (by first|omega|(simp;omega)) ?_|fail)
   refine⟨rfl,(by show(A (m+1)).2.2=false;rw[hsn]),?_⟩
   simp only[hsn]
   exact(M.W [some 0,some 1,some 2,some 5])
 ·intro hP
  have hP:(A 3).2.2=false:=hP
  obtain⟨o1,o2,o3⟩:=hAo 3
  obtain⟨o4,ds,o5,o6⟩:=o3 hP
  rw[if_neg (by rw[hP];simp)] at hS
  clear hAe hAs hAl hA0 hAo
  generalize (A 3).1=l at*
  generalize (A 3).2.1=v at*
  obtain⟨r1,r2,r3,rfl⟩:=three_of o4
  obtain⟨c1,c2,c3,rfl⟩:=three_of o5
  obtain⟨q1,_⟩:=o6 0 (by simp)
  obtain⟨q2,_⟩:=o6 1 (by simp)
  obtain⟨q3,_⟩:=o6 2 (by simp)
  simp only[List.take,List.getD_cons_zero,List.getD_cons_succ] at q1 q2 q3
  obtain⟨hT,hx1,hy1,hz1⟩:=rec_inf hi
  rw[hx1] at q1
  rw[hy1] at q2
  rw[hz1] at q3
  obtain⟨n1,n2,_⟩:=nat_inv q3 rfl
  obtain⟨num,li,pa,⟨bk,bi,⟨bh,bg⟩,ba⟩,en⟩:=r3
  simp only[Rs.num] at n1 n2
  obtain⟨kN,rfl⟩:∃kN:Nat,num=kN:=⟨num.toNat,by omega⟩
  obtain⟨F,hF⟩:∃F:Nat→Rs×Int×Bool,∀k,F k=recE (callE (evalE most n)) r2 k r1 v:=⟨_,fun _=>rfl⟩
  have e:S=F kN:=by rw[hF];simpa [headE,Rs.num] using hS
  subst e
  have hF0:F 0=(r1,v,false):=by rw[hF];rfl
  have hFo:=fun k (hk:k≤kN)=>recE_ok hC2 q2 q1 (u:=v) (by omega) o2 k (by omega)
  simp only[←hF] at hFo
  have hFs:∀k,(F k).2.2=false→F (k+1)=if(callE (evalE most n) r2 (.mk k [] [] noTm []) (F k).2.1).2.2=true then((F k).1,(callE (evalE most n) r2 (.mk k [] [] noTm []) (F k).2.1).2.1,true)
   else callE (evalE most n) (callE (evalE most n) r2 (.mk k [] [] noTm []) (F k).2.1).1 (F k).1 (callE (evalE most n) r2 (.mk k [] [] noTm []) (F k).2.1).2.1:=fun k hk=>by
   rw[hF (k+1)]
   simp only[recE,←hF]
   rw[hk]
   simp
  have hFl:∀k,k≤kN→(F k).2.2=true→F kN=F k:=fun k hk ho=>by
   have:=recE_out (cl:=callE (evalE most n)) (f:=r2) (r:=r1) (u:=v) (k:=k) (by rw[←hF];exact ho) (kN-k)
   rw[show k+(kN-k)=kN by omega,←hF,←hF] at this
   exact this
  repeat'(first|refine M.gw ?_|refine M.bl ?_|fail)
  refine AW.block (AW.upto kN (fun k=>True) (fun k=>([(0,.ptr 0 0),(6,.ptr 1 0),(7,.slice (.own 2) (.t .rs [r1,r2,.mk kN li pa (.mk bk bi (.mk bh bg) ba) en])),(10,.ptr 3 0),(11,.i k)],⟨4,[(0,.var [.i (F k).2.1,.i most,.bool (F k).2.2]),(1,.var noRs.view),(2,.row),(3,.var (F k).1.view)]⟩)) trivial ?_ ?_)
  ·simp only[hF0]
   exact(M.W [some 0,some 2,some 3,some 4])
  ·intro k hk _
   obtain⟨f1,f2,f3⟩:=hFo k hk
   by_cases ho:(F k).2.2=true
   ·have e:=hFl k hk ho
    rw[e]
    generalize F k=R at*
    obtain⟨r,w,o⟩:=R
    simp only at ho
    subst ho
    repeat'(first|refine M.gw ?_|refine M.gs ?_ ?_<;>intro h|fail)
    all_goals first
     |(exact M.n2 [some 0] (h8:=(by simp[tupV,V.wk,V.wks,constV,Ty.view,Tm.view,Rs.view,Rs.num,Rs.list,Rs.pair,Rs.body,Rs.env,Tm.view,Tm.kind,Tm.index,Tm.ty,Tm.args,Ty.kind,Ty.args,EC.view,noRs,noTm,V.wk,V.wks])))
     |trace_state
   ·have ho:(F k).2.2=false:=by simpa using ho
    by_cases hkK:k=kN
    ·subst hkK
     generalize F k=R at*
     obtain⟨r,w,o⟩:=R
     simp only at ho
     subst ho
     repeat'(first|refine M.gw ?_|refine M.gs ?_ ?_<;>intro h|refine M.zb ?_|fail)
     all_goals first
      |(exfalso;simp[Rs.num,Rs.list] at h;done)
      |(exact M.n2 [some 0] (h8:=(by simp[tupV,V.wk,V.wks,constV,Ty.view,Tm.view,Rs.view,Rs.num,Rs.list,Rs.pair,Rs.body,Rs.env,Tm.view,Tm.kind,Tm.index,Tm.ty,Tm.args,Ty.kind,Ty.args,EC.view,noRs,noTm,V.wk,V.wks])))
      |trace_state
    ·have hlt:k<kN:=by omega
     obtain⟨cr,f4,_⟩:=f3 ho
     have hs:=hFs k ho
     have hg:=hcl natT (funT T T) r2 (.mk k [] [] noTm []) c2 (numT (k:Int).toNat) (F k).2.1 (Eb+(F k).2.1-u) (by rw[hT];exact q2.mono (by omega)) (.nat rfl (by omega)) (by omega) (by omega) f2 (by omega) (by omega)
     have hgo:=hC2 natT (funT T T) r2 (.mk k [] [] noTm []) c2 (numT (k:Int).toNat) (F k).2.1 (Eb+(F k).2.1-u) (by rw[hT];exact q2.mono (by omega)) (.nat rfl (by omega)) (by omega) f2
     generalize hGe:callE (evalE most n) r2 (.mk k [] [] noTm []) (F k).2.1=G at*
     obtain⟨gq,w,o2⟩:=G
     simp only at hg hgo hs
     obtain⟨g1,g2,g3⟩:=hgo
     cases o2 with
     |true=>
      rw[if_pos rfl] at hs
      generalize F k=R at*
      obtain⟨r,w0,o⟩:=R
      simp only at ho hs hg
      subst ho
      repeat'(first|refine M.gw ?_|refine M.cb (hg) [0] 0 ?_|refine M.gs ?_ ?_<;>intro h|refine M.zb ?_|fail)
      all_goals first
       |(exfalso;simp[Rs.num,Rs.list] at h;omega)
       |(refine⟨hlt,trivial,?_⟩;simp only[hs];exact(M.W [some 0,some 1,some 2,some 3]))
       |trace_state
     |false=>
      rw[if_neg (by simp)] at hs
      obtain⟨cg,g4,_⟩:=g3 rfl
      have hg2:=hcl T T gq (F k).1 cg cr w (Eb+w-u) (g4.mono (by omega)) (by rw[hT];exact f4.mono (by omega)) (by omega) (by omega) g2 (by omega) (by omega)
      rw[←hs] at hg2
      generalize F k=R at*
      obtain⟨r,w0,o⟩:=R
      simp only at ho hs hg hg2
      subst ho
      obtain⟨⟨r',w',o'⟩,hR2⟩:∃R2,F (k+1)=R2:=⟨_,rfl⟩
      rw[hR2] at hg2
      simp only at hg2
      repeat'(first|refine M.gw ?_|refine M.cb (hg) [0] 0 ?_|refine M.cb (hg2) [0] 0 ?_|refine M.gs ?_ ?_<;>intro h|refine M.zb ?_|fail)
      all_goals first
       |(exfalso;simp[Rs.num,Rs.list] at h;omega)
       |(refine⟨hlt,trivial,?_⟩;simp only[hR2];exact(M.W [some 0,some 1,some 2,some 3]))
       |trace_state
theorem ev9_c{C:Nat}{most:Int}{n:Nat}(hC:C≤1000000)(hm0:0≤most∧most≤1000000)(ih:EvC C most n)(g:List Ty)(th:Ty)(x y z:Tm)(env:List Rs)(cs:List Tm)(u Eb:Int)(T:Ty)
 (hi:(Tm.mk 9 0 th [x,y,z]).inf g=(T,0)) (he:EnvOk C Eb g env cs) (hx:∀w∈([x,y,z]:List Tm),w.shape=true∧(w.inf g).2=0∧g.length+w.size≤C) (hE:0≤Eb) (hu0:0≤u) (hu:u<most) (hb:Eb+(most-u)≤1000000) (hn:most-u≤n+1) (S:Rs×Int×Bool)
 (hS:S=if(argsE (evalE most n) env [x,y,z] (u+1)).2.2=true then(noRs,(argsE (evalE most n) env [x,y,z] (u+1)).2.1,true) else headE (callE (evalE most n)) 9 (argsE (evalE most n) env [x,y,z] (u+1)).1 (argsE (evalE most n) env [x,y,z] (u+1)).2.1):
 AC E 56 [.ptr 0 0,.agg (Tm.mk 9 0 th [x,y,z]).view,.s .rs env] ⟨1,[(0,.var [.i u,.i most,.bool false])]⟩ (.agg S.1.view) ⟨1,[(0,.var [.i S.2.1,.i most,.bool S.2.2])]⟩:=by
 have hcl:=clC hC ih
 have hev:=evalE_ok C most n
 have hC2:=callE_ok hev
 have hgl:=he.l1
 obtain⟨A,hA⟩:∃A:Nat→List Rs×Int×Bool,∀m,A m=argsE (evalE most n) env (([x,y,z]:List Tm).take m) (u+1):=⟨_,fun _=>rfl⟩
 have hA0:A 0=([],u+1,false):=by rw[hA];rfl
 have hAe:argsE (evalE most n) env [x,y,z] (u+1)=A 3:=by rw[hA];rfl
 rw[hAe] at hS
 have hAo:=fun m=>argsE_ok hev he hE (([x,y,z]:List Tm).take m) (u+1) (fun w hw=>hx w (List.mem_of_mem_take hw)) (by omega)
 have hAs:∀m (h:m<3),(A m).2.2=false→A (m+1)=((A m).1++[(evalE most n ([x,y,z]:List Tm)[m] env (A m).2.1).1],(evalE most n ([x,y,z]:List Tm)[m] env (A m).2.1).2.1,(evalE most n ([x,y,z]:List Tm)[m] env (A m).2.1).2.2):=fun m h ho=>by
  rw[hA (m+1),←List.take_append_getElem (show m<([x,y,z]:List Tm).length from h),argsE_snoc _ _ _ (by rw[←hA];exact ho),←hA]
 have hAl:∀m,m≤3→(A m).2.2=true→(A 3).2=(A m).2:=fun m h ho=>by
  have:=argsE_out (([x,y,z]:List Tm).drop m) (([x,y,z]:List Tm).take m) (u+1) (by rw[←hA];exact ho)
  rw[List.take_append_drop,←hA] at this
  rw[←hAe];exact this
 simp only[←hA] at hAo
 obtain⟨tk,ta⟩:=th
 refine M.F Tryz.func56 ?_
 repeat'(first|refine M.gw ?_|refine M.cs ?_ ?_<;>intro h|fail)
 all_goals first
  |(exfalso;simp at h;omega)
  |skip
 refine AW.range ([x,y,z]:List Tm).length (fun m=>(A m).2.2=false) (fun m=>([(0,.ptr 0 0),(2,.s .rs env),(4,.ptr 1 0),(6,.ptr 2 0),(7,.slice (.own 3) (.t .rs (A m).1)),(64,.s .tm [x,y,z]),(65,.i ([x,y,z]:List Tm).length),(66,.i m)],⟨4,[(0,.var [.i (A m).2.1,.i most,.bool false]),(1,.var [.i 9,.i 0,.i tk,.s .ty ta,.s .tm [x,y,z]]),(2,.var noRs.view),(3,.row)]⟩))
  (by simp) (fun m=>rfl) (fun m=>rfl) rfl (by rw[hA0]) ?_ ?_ ?_
 ·simp only[hA0]
  exact(M.W [some 0,some 1,some 2,none])
 ·intro m hm hP
  have hmx:=hx _ (List.getElem_mem hm)
  obtain⟨o1,o2,o3⟩:=hAo m
  have hc:=ih g ([x,y,z]:List Tm)[m] env cs (A m).2.1 Eb (([x,y,z]:List Tm)[m].inf g).1 hmx.1 (by rw[←hmx.2.1]) he hmx.2.2 hE (by omega) o2 (by omega) (by omega)
  have hsn:=hAs m hm hP
  have hlm:=(o3 hP).1
  have hll:(([x,y,z]:List Tm).take m).length≤3:=by simp only[List.length_take,List.length_cons,List.length_nil];omega
  have hlast:=hAl (m+1) hm
  generalize evalE most n ([x,y,z]:List Tm)[m] env (A m).2.1=R at*
  obtain⟨r,v,o⟩:=R
  simp only at hc hsn
  cases o with
  |true=>
   have e2:=hlast (by rw[hsn])
   rw[hsn] at e2
   have e3:S=(noRs,v,true):=by rw[hS,if_pos (by rw[e2]),e2]
   subst e3
   repeat'(first|refine M.gw ?_|refine M.cb (hc) [0] 0 ?_|refine L.apt9 U U U U U U (by first|exact trivial|exact⟨rfl,trivial⟩) U U (by first|omega|(simp;omega)) ?_|fail)
   all_goals first
    |(exact M.n2 [some 0] (h8:=(by simp[tupV,V.wk,V.wks,constV,Ty.view,Tm.view,Rs.view,Rs.num,Rs.list,Rs.pair,Rs.body,Rs.env,Tm.view,Tm.kind,Tm.index,Tm.ty,Tm.args,Ty.kind,Ty.args,EC.view,noRs,noTm,V.wk,V.wks])))
    |trace_state
  |false=>
   repeat'(first|refine M.gw ?_|refine M.cb (hc) [0] 0 ?_|refine L.apt9 U U U U U U (by first|exact trivial|exact⟨rfl,trivial⟩) U U (by first|omega|(simp;omega)) ?_|fail)
   refine⟨rfl,(by show(A (m+1)).2.2=false;rw[hsn]),?_⟩
   simp only[hsn]
   exact(M.W [some 0,some 1,some 2,some 5])
 ·intro hP
  have hP:(A 3).2.2=false:=hP
  obtain⟨o1,o2,o3⟩:=hAo 3
  obtain⟨o4,ds,o5,o6⟩:=o3 hP
  rw[if_neg (by rw[hP];simp)] at hS
  clear hAe hAs hAl hA0 hAo
  generalize (A 3).1=l at*
  generalize (A 3).2.1=v at*
  obtain⟨r1,r2,r3,rfl⟩:=three_of o4
  obtain⟨c1,c2,c3,rfl⟩:=three_of o5
  obtain⟨q1,_⟩:=o6 0 (by simp)
  obtain⟨q2,_⟩:=o6 1 (by simp)
  obtain⟨q3,_⟩:=o6 2 (by simp)
  simp only[List.take,List.getD_cons_zero,List.getD_cons_succ] at q1 q2 q3
  obtain⟨hT,hx1,hy1,hz1⟩:=fold_inf hi
  rw[hx1] at q1
  rw[hy1] at q2
  rw[hz1] at q3
  obtain⟨n1,n2,_⟩:=list_inv q3 rfl
  obtain⟨num,li,pa,⟨bk,bi,⟨bh,bg⟩,ba⟩,en⟩:=r3
  simp only[Rs.list] at n1 n2
  obtain⟨kN,hkN⟩:∃kN:Nat,kN=li.length:=⟨_,rfl⟩
  obtain⟨F,hF⟩:∃F:Nat→Rs×Int×Bool,∀k,F k=foldE (callE (evalE most n)) r2 (li.drop (kN-k)) r1 v:=⟨_,fun _=>rfl⟩
  have e:S=F kN:=by rw[hF,Nat.sub_self,List.drop_zero];simpa [headE,Rs.list] using hS
  subst e
  have hF0:F 0=(r1,v,false):=by rw[hF,Nat.sub_zero,hkN,List.drop_length];rfl
  have hFo:=fun k=>foldE_ok hC2 q2 q1 (u:=v) (by omega) o2 (li.drop (kN-k)) (fun z hz=>n1 z (List.mem_of_mem_drop hz)) (by rw[List.length_drop];omega)
  simp only[←hF] at hFo
  have hFd:∀k (h:k<kN),li.drop (kN-(k+1))=li[kN-(k+1)]'(by omega)::li.drop (kN-k):=fun k h=>by
   rw[List.drop_eq_getElem_cons (show kN-(k+1)<li.length by omega),show kN-(k+1)+1=kN-k by omega]
  have hFl:∀k,k≤kN→(F k).2.2=true→F kN=F k:=fun k hk ho=>by
   have:=foldE_out (cl:=callE (evalE most n)) (f:=r2) (r:=r1) (u:=v) (l:=li.drop (kN-k)) (by rw[←hF];exact ho) (li.take (kN-k))
   rw[List.take_append_drop,←hF] at this
   rw[hF kN,Nat.sub_self,List.drop_zero]
   exact this
  have hll:li.length≤3000000:=by omega
  have hw:=IntWalk.i64_in ((li.length:Int)-1) (by omega)
  repeat'(first|refine M.gw ?_|refine M.bl ?_|fail)
  refine AW.block (AW.upto kN (fun k=>True) (fun k=>([(0,.ptr 0 0),(6,.ptr 1 0),(7,.slice (.own 2) (.t .rs [r1,r2,.mk num li pa (.mk bk bi (.mk bh bg) ba) en])),(13,.ptr 3 0),(14,.i ((kN:Int)-1-k))],⟨4,[(0,.var [.i (F k).2.1,.i most,.bool (F k).2.2]),(1,.var noRs.view),(2,.row),(3,.var (F k).1.view)]⟩)) trivial ?_ ?_)
  ·simp only[hF0,hkN,Int.natCast_zero,Int.sub_zero,Int.ofNat_zero]
   exact(M.W [some 0,some 2,some 3,some 4] (hf:=(by(repeat'(first|exact trivial|refine And.intro ?_ ?_|refine⟨_,U,_,U,?_⟩|exact VLe.refl _|exact VLe.of_eq (by simp[Sto.upd,hw,noRs,Rs.view,noTm,Rs.num,Rs.list,Rs.pair,Rs.body,Rs.env,Tm.kind,Tm.index,Tm.ty,Tm.args,Ty.kind,Ty.args])));done)))
  ·intro k hk _
   obtain⟨f1,f2,f3⟩:=hFo k
   by_cases ho:(F k).2.2=true
   ·have e:=hFl k hk ho
    rw[e]
    generalize F k=R at*
    obtain⟨r,w,o⟩:=R
    simp only at ho
    subst ho
    repeat'(first|refine M.gw ?_|refine M.gs ?_ ?_<;>intro h|fail)
    all_goals first
     |(exact M.n2 [some 0] (h8:=(by simp[tupV,V.wk,V.wks,constV,Ty.view,Tm.view,Rs.view,Rs.num,Rs.list,Rs.pair,Rs.body,Rs.env,Tm.view,Tm.kind,Tm.index,Tm.ty,Tm.args,Ty.kind,Ty.args,EC.view,noRs,noTm,V.wk,V.wks])))
     |trace_state
   ·have ho:(F k).2.2=false:=by simpa using ho
    by_cases hkK:k=kN
    ·subst hkK
     generalize F k=R at*
     obtain⟨r,w,o⟩:=R
     simp only at ho
     subst ho
     repeat'(first|refine M.gw ?_|refine M.gs ?_ ?_<;>intro h|refine M.zb ?_|fail)
     all_goals first
      |(exfalso;simp[Rs.num,Rs.list] at h;omega)
      |(exact M.n2 [some 0] (h8:=(by simp[tupV,V.wk,V.wks,constV,Ty.view,Tm.view,Rs.view,Rs.num,Rs.list,Rs.pair,Rs.body,Rs.env,Tm.view,Tm.kind,Tm.index,Tm.ty,Tm.args,Ty.kind,Ty.args,EC.view,noRs,noTm,V.wk,V.wks])))
      |trace_state
    ·have hlt:k<kN:=by omega
     obtain⟨cr,f4,_⟩:=f3 ho
     obtain⟨i,hi0⟩:∃i:Nat,i=kN-(k+1):=⟨_,rfl⟩
     have hil:i<li.length:=by omega
     have hdr:=hFd k hlt
     have ei:(kN:Int)-1-k=(i:Int):=by omega
     have ei2:(kN:Int)-1-((k+1:Nat):Int)=(i:Int)-1:=by omega
     have hxi:=n1 _ (List.getElem_mem hil)
     have hsl:i+1≤(Rs.mk num li pa (.mk bk bi (.mk bh bg) ba) en).list.length:=by simp[Rs.list];omega
     have hs:=hF (k+1)
     rw[hdr] at hs
     simp only[foldE,←hF] at hs
     rw[ho] at hs
     simp only[Bool.false_eq_true,if_false] at hs
     simp only[←hi0] at hs
     rw[show kN-k=i+1 by omega] at hs
     have hg:=hcl natT (funT listT (funT T T)) r2 (.mk li[i] [] [] noTm []) c2 (numT (li[i]).toNat) (F k).2.1 (Eb+(F k).2.1-u) (by rw[hT];exact q2.mono (by omega)) (.nat rfl (by omega)) (by omega) (by omega) f2 (by omega) (by omega)
     have hgo:=hC2 natT (funT listT (funT T T)) r2 (.mk li[i] [] [] noTm []) c2 (numT (li[i]).toNat) (F k).2.1 (Eb+(F k).2.1-u) (by rw[hT];exact q2.mono (by omega)) (.nat rfl (by omega)) (by omega) f2
     generalize hGe:callE (evalE most n) r2 (.mk li[i] [] [] noTm []) (F k).2.1=G at*
     obtain⟨gq,w,o2⟩:=G
     simp only at hg hgo hs
     obtain⟨g1,g2,g3⟩:=hgo
     rw[ei]
     cases o2 with
     |true=>
      rw[if_pos rfl] at hs
      generalize F k=R at*
      obtain⟨r,w0,o⟩:=R
      simp only at ho hs hg
      subst ho
      repeat'(first|refine M.gw ?_|refine M.cb (hg) [0] 0 ?_|refine M.zb ?_|fail)
      all_goals first
       |(exfalso;simp[Rs.num,Rs.list] at h;omega)
       |(refine⟨hlt,trivial,?_⟩;simp only[hs,ei2];exact(M.W [some 0,some 1,some 2,some 3]))
       |trace_state
     |false=>
      rw[if_neg (by simp)] at hs
      obtain⟨cg,g4,_⟩:=g3 rfl
      have hre:Rep C (Eb+w-u) listT (.mk 0 (li.drop (i+1)) [] noTm []) (lstT (li.drop (i+1))):= .list rfl (fun z hz=>⟨(n1 z (List.mem_of_mem_drop hz)).1,by have:=(n1 z (List.mem_of_mem_drop hz)).2;omega⟩) (by rw[List.length_drop];omega)
      have hg2:=hcl listT (funT T T) gq (.mk 0 (li.drop (i+1)) [] noTm []) cg _ w (Eb+w-u) (g4.mono (by omega)) hre (by omega) (by omega) g2 (by omega) (by omega)
      have hgo2:=hC2 listT (funT T T) gq (.mk 0 (li.drop (i+1)) [] noTm []) cg _ w (Eb+w-u) (g4.mono (by omega)) hre (by omega) g2
      generalize hGe2:callE (evalE most n) gq (.mk 0 (li.drop (i+1)) [] noTm []) w=G2 at*
      obtain⟨gq2,w2,o3⟩:=G2
      simp only at hg2 hgo2 hs
      have hdt:(li.drop (i+1)).take (li.length-(i+1))=li.drop (i+1):=List.take_of_length_le (by rw[List.length_drop];exact Nat.le_refl _)
      rw[←hdt] at hg2
      obtain⟨g5,g6,g7⟩:=hgo2
      cases o3 with
      |true=>
       rw[if_pos rfl] at hs
       generalize F k=R at*
       obtain⟨r,w0,o⟩:=R
       simp only at ho hs hg hg2
       subst ho
       repeat'(first|refine M.gw ?_|refine M.cb (hg) [0] 0 ?_|refine M.cb (hg2) [0] 0 ?_|refine M.zb ?_|fail)
       all_goals first
        |(exfalso;simp[Rs.num,Rs.list] at h;omega)
        |(refine⟨hlt,trivial,?_⟩;simp only[hs,ei2];exact(M.W [some 0,some 1,some 2,some 3]))
        |trace_state
      |false=>
       rw[if_neg (by simp)] at hs
       obtain⟨ch,g8,_⟩:=g7 rfl
       have hg3:=hcl T T gq2 (F k).1 ch cr w2 (Eb+w2-u) (g8.mono (by omega)) (by rw[hT];exact f4.mono (by omega)) (by omega) (by omega) g6 (by omega) (by omega)
       rw[←hs] at hg3
       generalize F k=R at*
       obtain⟨r,w0,o⟩:=R
       simp only at ho hs hg hg2 hg3
       subst ho
       obtain⟨⟨r',w',o'⟩,hR2⟩:∃R2,F (k+1)=R2:=⟨_,rfl⟩
       rw[hR2] at hg3
       simp only at hg3
       repeat'(first|refine M.gw ?_|refine M.cb (hg) [0] 0 ?_|refine M.cb (hg2) [0] 0 ?_|refine M.cb (hg3) [0] 0 ?_|refine M.zb ?_|fail)
       all_goals first
        |(exfalso;simp[Rs.num,Rs.list] at h;omega)
        |(refine⟨hlt,trivial,?_⟩;simp only[hR2,ei2];exact(M.W [some 0,some 1,some 2,some 3]))
        |trace_state
end Go.Ab
