/- A part of the proofs of this seat. No conditions. -/
import Derived.Test.YtdhoaohcgpcfcaaGreatDoorS2
namespace Go.Ab
open Go Go.Proofs
set_option maxRecDepth 100000
set_option maxHeartbeats 2000000
set_option linter.all false
theorem nat_of{x:Ty}(h:x.err=0)(hk:x.kind=1):x=natT:=(Ty.eq_iff _ _).2 ⟨hk,shape_zero ((Ty.err_iff x).1 h).1 (by omega)⟩
theorem list_of{x:Ty}(h:x.err=0)(hk:x.kind=2):x=listT:=(Ty.eq_iff _ _).2 ⟨hk,shape_zero ((Ty.err_iff x).1 h).1 (by omega)⟩
theorem sz_big{x:Ty}(h:x.err=0):x.size≤64:=((Ty.err_iff x).1 h).2
theorem node4_c(i:Int)(th:Ty)(ts:List Tm):PC E 91 [.agg (Tm.mk 4 i th ts).view,.agg (pad3 [])] (.tup [.agg (ofT (rule 4 th []).1).view,.i (rule 4 th []).2]):=by
 have hp:=plain_c 4
 rw[show plainK 4=[1] from rfl] at hp
 have ho:=of_c (.mk 1 []) (by decide)
 refine M.F Tryz.func91 ?_
 repeat'(first|refine M.gw ?_|refine M.c2 (hp) ?_|fail)
 refine AW.range 0 (fun m=>True)
  (fun m=>([(2,.ptr 0 0),(3,.ptr 1 0),(4,.ptr 2 0),(6,.s .int [1]),(18,.s .int []),(19,.i ((0:Nat):Int)),(20,.i m)],⟨3,[(0,.var (Tm.mk 4 i th ts).view),(1,.var (pad3 [])),(2,.var [.i 0,.slice .nil (.t .ty []),.i 0])]⟩))
  (by omega) (fun m=>rfl) (fun m=>rfl) rfl trivial (M.W [some 0,some 1,some 2]) ?_ ?_
 ·intro m hm hP
  omega
 ·intro hP
  repeat'(first|refine M.gw ?_|refine M.c2 (ho) ?_|fail)
  have er:rule 4 th []=(natT,0):=by simp[rule]
  rw[er]
  rfl
theorem node7_c(i:Int)(th:Ty)(ts:List Tm):PC E 91 [.agg (Tm.mk 7 i th ts).view,.agg (pad3 [])] (.tup [.agg (ofT (rule 7 th []).1).view,.i (rule 7 th []).2]):=by
 have hp:=plain_c 7
 rw[show plainK 7=[2] from rfl] at hp
 have ho:=of_c (.mk 2 []) (by decide)
 refine M.F Tryz.func91 ?_
 repeat'(first|refine M.gw ?_|refine M.c2 (hp) ?_|fail)
 refine AW.range 0 (fun m=>True)
  (fun m=>([(2,.ptr 0 0),(3,.ptr 1 0),(4,.ptr 2 0),(6,.s .int [2]),(18,.s .int []),(19,.i ((0:Nat):Int)),(20,.i m)],⟨3,[(0,.var (Tm.mk 7 i th ts).view),(1,.var (pad3 [])),(2,.var [.i 0,.slice .nil (.t .ty []),.i 0])]⟩))
  (by omega) (fun m=>rfl) (fun m=>rfl) rfl trivial (M.W [some 0,some 1,some 2]) ?_ ?_
 ·intro m hm hP
  omega
 ·intro hP
  repeat'(first|refine M.gw ?_|refine M.c2 (ho) ?_|fail)
  have er:rule 7 th []=(listT,0):=by simp[rule]
  rw[er]
  rfl
theorem node13_c(i:Int)(th:Ty)(ts:List Tm):PC E 91 [.agg (Tm.mk 13 i th ts).view,.agg (pad3 [])] (.tup [.agg (ofT (rule 13 th []).1).view,.i (rule 13 th []).2]):=by
 have hp:=plain_c 13
 rw[show plainK 13=[5] from rfl] at hp
 have ho:=of_c (.mk 5 []) (by decide)
 refine M.F Tryz.func91 ?_
 repeat'(first|refine M.gw ?_|refine M.c2 (hp) ?_|fail)
 refine AW.range 0 (fun m=>True)
  (fun m=>([(2,.ptr 0 0),(3,.ptr 1 0),(4,.ptr 2 0),(6,.s .int [5]),(18,.s .int []),(19,.i ((0:Nat):Int)),(20,.i m)],⟨3,[(0,.var (Tm.mk 13 i th ts).view),(1,.var (pad3 [])),(2,.var [.i 0,.slice .nil (.t .ty []),.i 0])]⟩))
  (by omega) (fun m=>rfl) (fun m=>rfl) rfl trivial (M.W [some 0,some 1,some 2]) ?_ ?_
 ·intro m hm hP
  omega
 ·intro hP
  repeat'(first|refine M.gw ?_|refine M.c2 (ho) ?_|fail)
  have er:rule 13 th []=(unitT,0):=by simp[rule]
  rw[er]
  rfl
theorem node5_c(i:Int)(th:Ty)(ts:List Tm)(x:Ty)(ex:x.err=0):PC E 91 [.agg (Tm.mk 5 i th ts).view,.agg (pad3 [x])] (.tup [.agg (ofT (rule 5 th [x]).1).view,.i (rule 5 th [x]).2]):=by
 have hp:=plain_c 5
 rw[show plainK 5=[1,1] from rfl] at hp
 have ho:=of_c (.mk 1 []) (by decide)
 have i0:=is_c (ofT x) 1
 refine M.F Tryz.func91 ?_
 repeat'(first|refine M.gw ?_|refine M.c2 (hp) ?_|fail)
 refine AW.range 1 (fun m=>(0<m→x.kind=1))
  (fun m=>([(2,.ptr 0 0),(3,.ptr 1 0),(4,.ptr 2 0),(6,.s .int [1,1]),(18,.s .int [1]),(19,.i ((1:Nat):Int)),(20,.i m)],⟨3,[(0,.var (Tm.mk 5 i th ts).view),(1,.var (pad3 [x])),(2,.var [.i 0,.slice .nil (.t .ty []),.i 0])]⟩))
  (by omega) (fun m=>rfl) (fun m=>rfl) rfl (by simp) (M.W [some 0,some 1,some 2]) ?_ ?_
 ·intro m hm hP
  obtain rfl:m=0:=by omega
  repeat'(first|refine M.gw ?_|refine M.c2 (i0) ?_|refine M.cs ?_ ?_<;>intro h|fail)
  ·have h':¬x.kind=1:=by simpa [ofT] using h
   have e:¬x=natT:=fun hc=>h' (by rw[hc];rfl)
   have er:rule 5 th [x]=(noTy,7):=by simp[rule,e]
   rw[er]
   simp[tupV,V.wk,V.wks,constV,Sz.view,ofT,noTy,Ty.num,Ty.err,Ty.shape_eq,arT]
  ·have h':x.kind=1:=by simpa [ofT] using h
   exact⟨rfl,fun _=>h',(M.W [some 0,some 1,some 2])⟩
 ·intro hP
  repeat'(first|refine M.gw ?_|refine M.c2 (ho) ?_|fail)
  have q0:x=natT:=nat_of ex (by have:=hP;simp_all)
  have er:rule 5 th [x]=(natT,0):=by simp[rule,q0]
  rw[er]
  rfl
theorem node8_c(i:Int)(th:Ty)(ts:List Tm)(x:Ty)(ex:x.err=0)(y:Ty)(ey:y.err=0):PC E 91 [.agg (Tm.mk 8 i th ts).view,.agg (pad3 [x,y])] (.tup [.agg (ofT (rule 8 th [x,y]).1).view,.i (rule 8 th [x,y]).2]):=by
 have hp:=plain_c 8
 rw[show plainK 8=[2,1,2] from rfl] at hp
 have ho:=of_c (.mk 2 []) (by decide)
 have i0:=is_c (ofT x) 1
 have i1:=is_c (ofT y) 2
 refine M.F Tryz.func91 ?_
 repeat'(first|refine M.gw ?_|refine M.c2 (hp) ?_|fail)
 refine AW.range 2 (fun m=>(0<m→x.kind=1)∧(1<m→y.kind=2))
  (fun m=>([(2,.ptr 0 0),(3,.ptr 1 0),(4,.ptr 2 0),(6,.s .int [2,1,2]),(18,.s .int [1,2]),(19,.i ((2:Nat):Int)),(20,.i m)],⟨3,[(0,.var (Tm.mk 8 i th ts).view),(1,.var (pad3 [x,y])),(2,.var [.i 0,.slice .nil (.t .ty []),.i 0])]⟩))
  (by omega) (fun m=>rfl) (fun m=>rfl) rfl (by simp) (M.W [some 0,some 1,some 2]) ?_ ?_
 ·intro m hm hP
  by_cases hm0:m=0
  ·subst hm0
   repeat'(first|refine M.gw ?_|refine M.c2 (i0) ?_|refine M.cs ?_ ?_<;>intro h|fail)
   ·have h':¬x.kind=1:=by simpa [ofT] using h
    have e:¬x=natT:=fun hc=>h' (by rw[hc];rfl)
    have er:rule 8 th [x,y]=(noTy,7):=by simp[rule,e]
    rw[er]
    simp[tupV,V.wk,V.wks,constV,Sz.view,ofT,noTy,Ty.num,Ty.err,Ty.shape_eq,arT]
   ·have h':x.kind=1:=by simpa [ofT] using h
    exact⟨rfl,⟨by intro _;first|exact h'|(have:=hP;simp_all),by omega⟩,(M.W [some 0,some 1,some 2])⟩
  obtain rfl:m=1:=by omega
  repeat'(first|refine M.gw ?_|refine M.c2 (i1) ?_|refine M.cs ?_ ?_<;>intro h|fail)
  ·have h':¬y.kind=2:=by simpa [ofT] using h
   have e:¬y=listT:=fun hc=>h' (by rw[hc];rfl)
   have er:rule 8 th [x,y]=(noTy,7):=by simp[rule,e]
   rw[er]
   simp[tupV,V.wk,V.wks,constV,Sz.view,ofT,noTy,Ty.num,Ty.err,Ty.shape_eq,arT]
  ·have h':y.kind=2:=by simpa [ofT] using h
   exact⟨rfl,⟨by intro _;first|exact h'|(have:=hP;simp_all),by intro _;first|exact h'|(have:=hP;simp_all)⟩,(M.W [some 0,some 1,some 2])⟩
 ·intro hP
  repeat'(first|refine M.gw ?_|refine M.c2 (ho) ?_|fail)
  have q0:x=natT:=nat_of ex (by have:=hP;simp_all)
  have q1:y=listT:=list_of ey (by have:=hP;simp_all)
  have er:rule 8 th [x,y]=(listT,0):=by simp[rule,q0,q1]
  rw[er]
  rfl
theorem plainN_c(k:Int)(h:plainK k=[]):PC E 108 [.i k] (.s .int []):=by
 have:=plain_c k
 rwa [h] at this
theorem sameSz_ok(a b:Ty)(ha:a.err=0)(hb:b.err=0):PC E 111 [.agg (ofT a).view,.agg (ofT b).view] (.bool (decide (a=b))):=by
 have:=sameSz_c (ofT a) (ofT b) (by have:=sz_big ha;show a.size<_;omega)
 rw[show(ofT a).ty=a from rfl,show(ofT b).ty=b from rfl,same_ok ha hb] at this
 exact this
theorem nodes_bd{a:Ty}(h:a.err=0):0≤(ofT a).nodes∧(ofT a).nodes<1099511627776:=by
 have:=sz_big h
 simp only[ofT,num_ok h];omega
theorem node3_c(i:Int)(th:Ty)(ts:List Tm)(x:Ty)(ex:x.err=0)(y:Ty)(ey:y.err=0):PC E 91 [.agg (Tm.mk 3 i th ts).view,.agg (pad3 [x,y])] (.tup [.agg (ofT (rule 3 th [x,y]).1).view,.i (rule 3 th [x,y]).2]):=by
 have hp:=plainN_c 3 rfl
 have hi:PC E 109 [.agg (ofT x).view,.i 4] (.bool (x.kind==4)):=is_c (ofT x) 4
 by_cases hk:x.kind=4
 ·obtain ⟨a,b,hab⟩:=Ty.args_two ((Ty.err_iff x).1 ex).1 (.inr hk)
  have hx:x=funT a b:=(Ty.eq_iff _ _).2 ⟨hk,hab⟩
  subst hx
  have ea:a.err=0:=Ty.err_args ex (by simp)
  have eb:b.err=0:=Ty.err_args ex (by simp)
  have p0:PC E 110 [.agg (ofT (funT a b)).view,.i 0] (.agg (ofT a).view):=part_c (ofT (funT a b)) 0 (by simp[ofT]) (by have:=sz_big ex;show(funT a b).size<_;omega)
  have p1:PC E 110 [.agg (ofT (funT a b)).view,.i 1] (.agg (ofT b).view):=part_c (ofT (funT a b)) 1 (by simp[ofT]) (by have:=sz_big ex;show(funT a b).size<_;omega)
  have sm:=sameSz_ok a y ea ey
  rw[show(Ty.kind (funT a b)==4)=true from rfl] at hi
  refine M.F Tryz.func91 ?_
  repeat'(first|refine M.gw ?_|refine M.c2 (hp) ?_|refine M.c2 (hi) ?_|refine M.c2 (p0) ?_|refine M.c2 (p1) ?_|refine M.c2 (sm) ?_|refine M.bl ?_|refine M.cs ?_ ?_<;>intro h|fail)
  ·have h':¬a=y:=by simpa using h
   have er:rule 3 th [funT a b,y]=(noTy,7):=by simp[rule,h']
   rw[er];rfl
  ·have h':a=y:=by simpa using h
   have er:rule 3 th [funT a b,y]=(b,0):=by simp[rule,h']
   rw[er]
   simp[tupV,V.wk,V.wks,constV,Sz.view]
 ·have hi:PC E 109 [.agg (ofT x).view,.i 4] (.bool false):=by rw[show(x.kind==4)=false by simpa using hk] at hi;exact hi
  have er:rule 3 th [x,y]=(noTy,7):=by simp[rule,hk]
  rw[er]
  refine M.F Tryz.func91 ?_
  repeat'(first|refine M.gw ?_|refine M.c2 (hp) ?_|refine M.c2 (hi) ?_|refine M.bl ?_|fail)
  rfl
theorem node10_c(i:Int)(th:Ty)(ts:List Tm)(x:Ty)(ex:x.err=0)(y:Ty)(ey:y.err=0):PC E 91 [.agg (Tm.mk 10 i th ts).view,.agg (pad3 [x,y])] (.tup [.agg (ofT (rule 10 th [x,y]).1).view,.i (rule 10 th [x,y]).2]):=by
 have hp:=plainN_c 10 rfl
 have hj:=join_c 3 (ofT x) (ofT y) (nodes_bd ex) (nodes_bd ey)
 rw[join_ok (.inl rfl) ex ey] at hj
 have er:rule 10 th [x,y]=okT (.mk 3 [x,y]):=by simp[rule,twoT]
 rw[er]
 refine M.F Tryz.func91 ?_
 repeat'(first|refine M.gw ?_|refine M.c2 (hp) ?_|refine M.c2 (hj) ?_|refine M.bl ?_|fail)
 simp[tupV,V.wk,V.wks,constV,Sz.view]
theorem node11_c(i:Int)(th:Ty)(ts:List Tm)(x:Ty)(ex:x.err=0):PC E 91 [.agg (Tm.mk 11 i th ts).view,.agg (pad3 [x])] (.tup [.agg (ofT (rule 11 th [x]).1).view,.i (rule 11 th [x]).2]):=by
 have hp:=plainN_c 11 rfl
 have hi:PC E 109 [.agg (ofT x).view,.i 3] (.bool (x.kind==3)):=is_c (ofT x) 3
 by_cases hk:x.kind=3
 ·obtain ⟨a,b,hab⟩:=Ty.args_two ((Ty.err_iff x).1 ex).1 (.inl hk)
  have hx:x=twoT a b:=(Ty.eq_iff _ _).2 ⟨hk,hab⟩
  subst hx
  have p0:PC E 110 [.agg (ofT (twoT a b)).view,.i 0] (.agg (ofT a).view):=part_c (ofT (twoT a b)) 0 (by simp[ofT]) (by have:=sz_big ex;show(twoT a b).size<_;omega)
  rw[show(Ty.kind (twoT a b)==3)=true from rfl] at hi
  have er:rule 11 th [twoT a b]=(a,0):=by simp[rule]
  rw[er]
  refine M.F Tryz.func91 ?_
  repeat'(first|refine M.gw ?_|refine M.c2 (hp) ?_|refine M.c2 (hi) ?_|refine M.c2 (p0) ?_|refine M.bl ?_|fail)
  simp[tupV,V.wk,V.wks,constV,Sz.view]
 ·have hi:PC E 109 [.agg (ofT x).view,.i 3] (.bool false):=by rw[show(x.kind==3)=false by simpa using hk] at hi;exact hi
  have er:rule 11 th [x]=(noTy,7):=by simp[rule,hk]
  rw[er]
  refine M.F Tryz.func91 ?_
  repeat'(first|refine M.gw ?_|refine M.c2 (hp) ?_|refine M.c2 (hi) ?_|refine M.bl ?_|fail)
  rfl
theorem node12_c(i:Int)(th:Ty)(ts:List Tm)(x:Ty)(ex:x.err=0):PC E 91 [.agg (Tm.mk 12 i th ts).view,.agg (pad3 [x])] (.tup [.agg (ofT (rule 12 th [x]).1).view,.i (rule 12 th [x]).2]):=by
 have hp:=plainN_c 12 rfl
 have hi:PC E 109 [.agg (ofT x).view,.i 3] (.bool (x.kind==3)):=is_c (ofT x) 3
 by_cases hk:x.kind=3
 ·obtain ⟨a,b,hab⟩:=Ty.args_two ((Ty.err_iff x).1 ex).1 (.inl hk)
  have hx:x=twoT a b:=(Ty.eq_iff _ _).2 ⟨hk,hab⟩
  subst hx
  have p0:PC E 110 [.agg (ofT (twoT a b)).view,.i 1] (.agg (ofT b).view):=part_c (ofT (twoT a b)) 1 (by simp[ofT]) (by have:=sz_big ex;show(twoT a b).size<_;omega)
  rw[show(Ty.kind (twoT a b)==3)=true from rfl] at hi
  have er:rule 12 th [twoT a b]=(b,0):=by simp[rule]
  rw[er]
  refine M.F Tryz.func91 ?_
  repeat'(first|refine M.gw ?_|refine M.c2 (hp) ?_|refine M.c2 (hi) ?_|refine M.c2 (p0) ?_|refine M.bl ?_|fail)
  simp[tupV,V.wk,V.wks,constV,Sz.view]
 ·have hi:PC E 109 [.agg (ofT x).view,.i 3] (.bool false):=by rw[show(x.kind==3)=false by simpa using hk] at hi;exact hi
  have er:rule 12 th [x]=(noTy,7):=by simp[rule,hk]
  rw[er]
  refine M.F Tryz.func91 ?_
  repeat'(first|refine M.gw ?_|refine M.c2 (hp) ?_|refine M.c2 (hi) ?_|refine M.bl ?_|fail)
  rfl
theorem node6_c(i:Int)(th:Ty)(ts:List Tm)(eh:th.err=0)(x:Ty)(ex:x.err=0)(y:Ty)(ey:y.err=0)(z:Ty)(ez:z.err=0):PC E 91 [.agg (Tm.mk 6 i th ts).view,.agg (pad3 [x,y,z])] (.tup [.agg (ofT (rule 6 th [x,y,z]).1).view,.i (rule 6 th [x,y,z]).2]):=by
 have hp:=plainN_c 6 rfl
 have ho:=of_c th (by have:=sz_big eh;omega)
 have sm:=sameSz_ok x th ex eh
 have hst:=step_c (Tm.mk 6 i th ts)
 rw[show stepT (Tm.mk 6 i th ts)=funT natT (funT th th) from rfl] at hst
 have s2:=sameTy2_c _ y (funT natT (funT th th)) (Nat.le_refl _) (by have:=sz_big ey;omega)
 have hi:PC E 109 [.agg (ofT z).view,.i 1] (.bool (z.kind==1)):=is_c (ofT z) 1
 have hz:(z.kind==1)=decide (z=natT):=by
  by_cases h:z=natT
  ·subst h;rfl
  ·have:¬z.kind=1:=fun hk=>h (nat_of ez hk)
   rw[decide_eq_false h];simpa using this
 rw[hz] at hi
 refine M.F Tryz.func91 ?_
 repeat'(first|refine M.gw ?_|refine M.c2 (hp) ?_|refine M.c2 (ho) ?_|refine M.c2 (sm) ?_|refine M.c2 (hst) ?_|refine M.c2 (s2) ?_|refine M.c2 (hi) ?_|refine M.gs ?_ ?_<;>intro h|refine M.bl ?_|refine M.cs ?_ ?_<;>intro h|fail)
 all_goals
  clear hp ho sm hst s2 hi hz
  by_cases p1:x=th<;>by_cases p2:y=funT natT (funT th th)<;>by_cases p3:z=natT<;>first
   |(exfalso;simp[p1,p2,p3] at*;done)
   |(have er:rule 6 th [x,y,z]=(noTy,7):=by simp[rule,p1,p2,p3]
     rw[er];rfl)
   |(have er:rule 6 th [x,y,z]=(th,0):=by simp[rule,p1,p2,p3]
     rw[er];simp[tupV,V.wk,V.wks,constV,Sz.view];done)
theorem node9_c(i:Int)(th:Ty)(ts:List Tm)(eh:th.err=0)(x:Ty)(ex:x.err=0)(y:Ty)(ey:y.err=0)(z:Ty)(ez:z.err=0):PC E 91 [.agg (Tm.mk 9 i th ts).view,.agg (pad3 [x,y,z])] (.tup [.agg (ofT (rule 9 th [x,y,z]).1).view,.i (rule 9 th [x,y,z]).2]):=by
 have hp:=plainN_c 9 rfl
 have ho:=of_c th (by have:=sz_big eh;omega)
 have sm:=sameSz_ok x th ex eh
 have hst:=step_c (Tm.mk 9 i th ts)
 rw[show stepT (Tm.mk 9 i th ts)=funT natT (funT listT (funT th th)) from rfl] at hst
 have s2:=sameTy2_c _ y (funT natT (funT listT (funT th th))) (Nat.le_refl _) (by have:=sz_big ey;omega)
 have hi:PC E 109 [.agg (ofT z).view,.i 2] (.bool (z.kind==2)):=is_c (ofT z) 2
 have hz:(z.kind==2)=decide (z=listT):=by
  by_cases h:z=listT
  ·subst h;rfl
  ·have:¬z.kind=2:=fun hk=>h (list_of ez hk)
   rw[decide_eq_false h];simpa using this
 rw[hz] at hi
 refine M.F Tryz.func91 ?_
 repeat'(first|refine M.gw ?_|refine M.c2 (hp) ?_|refine M.c2 (ho) ?_|refine M.c2 (sm) ?_|refine M.c2 (hst) ?_|refine M.c2 (s2) ?_|refine M.c2 (hi) ?_|refine M.gs ?_ ?_<;>intro h|refine M.bl ?_|refine M.cs ?_ ?_<;>intro h|fail)
 all_goals
  clear hp ho sm hst s2 hi hz
  by_cases p1:x=th<;>by_cases p2:y=funT natT (funT listT (funT th th))<;>by_cases p3:z=listT<;>first
   |(exfalso;simp[p1,p2,p3] at*;done)
   |(have er:rule 9 th [x,y,z]=(noTy,7):=by simp[rule,p1,p2,p3]
     rw[er];rfl)
   |(have er:rule 9 th [x,y,z]=(th,0):=by simp[rule,p1,p2,p3]
     rw[er];simp[tupV,V.wk,V.wks,constV,Sz.view];done)
theorem node_c(t:Tm)(L:List Ty)(hsh:t.shape=true)(k1:t.kind≠1)(k2:t.kind≠2)(hl:L.length=t.args.length)(hg:∀x∈L,x.err=0):PC E 91 [.agg t.view,.agg (pad3 L)] (.tup [.agg (ofT (rule t.kind t.ty L).1).view,.i (rule t.kind t.ty L).2]):=by
 have hak:=arK_len hsh
 have hty:=shape_ty hsh
 rw[←hl] at hak
 obtain⟨k,i,th,xs⟩:=t
 simp only[Tm.kind_mk,Tm.ty_mk] at*
 rcases arK_cases hak with⟨hn,hk⟩|⟨hn,hk⟩|⟨hn,hk⟩|⟨hn,hk⟩
 ·have hL:=List.eq_nil_of_length_eq_zero hn
  subst hL
  rcases hk with rfl|rfl|rfl|rfl
  ·exact absurd rfl k1
  ·exact node4_c i th xs
  ·exact node7_c i th xs
  ·exact node13_c i th xs
 ·obtain ⟨x,hL⟩:=len_1 hn
  subst hL
  have ex:=hg x (by simp)
  rcases hk with rfl|rfl|rfl|rfl
  ·exact absurd rfl k2
  ·exact node5_c i th xs x ex
  ·exact node11_c i th xs x ex
  ·exact node12_c i th xs x ex
 ·obtain ⟨x,y,hL⟩:=len_2 hn
  subst hL
  have ex:=hg x (by simp)
  have ey:=hg y (by simp)
  rcases hk with rfl|rfl|rfl
  ·exact node3_c i th xs x ex y ey
  ·exact node8_c i th xs x ex y ey
  ·exact node10_c i th xs x ex y ey
 ·obtain ⟨x,y,z,hL⟩:=len_3 hn
  subst hL
  have ex:=hg x (by simp)
  have ey:=hg y (by simp)
  have ez:=hg z (by simp)
  rcases hk with rfl|rfl
  ·exact node6_c i th xs (hty rfl) x ex y ey z ez
  ·exact node9_c i th xs (hty rfl) x ex y ey z ez
end Go.Ab
namespace Go.Ab
open Go Go.Proofs
set_option maxRecDepth 100000
set_option maxHeartbeats 4000000
set_option linter.all false
abbrev CT(t:Tm)(g:List Ty):Prop:=PC E 64 [.s .sz (g.map ofT),.agg t.view] (.tup [.agg (ofT (t.inf g).1).view,.i (t.inf g).2])
theorem ct1(t:Tm)(g:List Ty)(hsh:t.shape=true)(hgn:g.length<274877906944)(k1:t.kind=1):CT t g:=by
 have hix:=shape_index hsh
 have hinf:=Tm.inf_eq g t
 rw[if_pos k1] at hinf
 refine M.F Tryz.func64 ?_
 by_cases hlt:t.index≥g.length
 ·rw [if_pos hlt] at hinf
  repeat'(first|refine M.gw ?_|refine M.cs ?_ ?_<;>intro h|fail)
  all_goals first
   |(exfalso;simp_all;done)
   |(rw[hinf];rfl)
   |(exfalso;simp at h;omega)
 ·rw [if_neg hlt] at hinf
  have h0:g.length-1-t.index.toNat<g.length:=by omega
  have h1:g.length-1-t.index.toNat<(g.map ofT).length:=by simpa using h0
  have eg:(g.map ofT)[g.length-1-t.index.toNat]=ofT g[g.length-1-t.index.toNat]:=by simp
  rw[at0_lt h0] at hinf
  have hl:(g.map ofT).length=g.length:=by simp
  repeat'(first|refine M.gw ?_|refine M.cs ?_ ?_<;>intro h|fail)
  all_goals first
   |(exfalso;simp_all;done)
   |(exfalso;simp at h;omega)
   |skip
  refine L.ixt (g.length-1-t.index.toNat) rfl rfl rfl rfl (by simp only[hl];omega) rfl rfl h1 ?_
  rw[eg]
  repeat'(first|refine M.gw ?_|fail)
  rw[hinf]
  simp[tupV,V.wk,V.wks,constV,Sz.view,EC.view]
theorem ct2(i:Int)(th:Ty)(a:Tm)(g:List Ty)(hsh:(Tm.mk 2 i th [a]).shape=true)(hg:∀x∈g,x.err=0)(hgn:g.length<274877906944)(ih:CT a (g++[th])):CT (Tm.mk 2 i th [a]) g:=by
 have hth:th.err=0:=shape_ty hsh rfl
 have hg':∀x∈g++[th],x.err=0:=fun x hx=>by
  rcases List.mem_append.1 hx with hx|hx
  ·exact hg x hx
  ·simp at hx;subst hx;exact hth
 have hgood:=Tm.inf_good a (g++[th]) (shape_args hsh a (by simp)) hg'
 have hinf:(Tm.mk 2 i th [a]).inf g=if(a.inf (g++[th])).2≠0 then(noTy,(a.inf (g++[th])).2) else okT (funT th (a.inf (g++[th])).1):=by
  rw[Tm.inf_eq]
  simp only[Tm.kind_mk,Tm.args_mk,Tm.ty_mk,Tm.infs,ne_eq]
  by_cases h:(a.inf (g++[th])).2=0<;>simp[h]
 have hc:PC E 64 [.s .sz (g.map ofT++[ofT th]),.agg a.view] (.tup [.agg (ofT (a.inf (g++[th])).1).view,.i (a.inf (g++[th])).2]):=by
  have:=ih
  unfold CT at this
  rwa [List.map_append] at this
 have ho:=of_c th (by have:=sz_big hth;omega)
 have hj:(a.inf (g++[th])).2=0→PC E 90 _ _:=fun h=>join_c 4 (ofT th) (ofT (a.inf (g++[th])).1) (nodes_bd hth) (nodes_bd (hgood h))
 refine M.F Tryz.func64 ?_
 repeat'(first|refine M.gw ?_|refine M.c2 (ho) ?_|refine M.c2 (hc) ?_|refine M.c2 (hj (by simpa using h)) ?_|refine M.cs ?_ ?_<;>intro h|fail)
 ·have h':(a.inf (g++[th])).2≠0:=by simpa using h
  rw[hinf,if_pos h'];rfl
 ·have h':(a.inf (g++[th])).2=0:=by simpa using h
  rw[hinf,if_neg (by simp[h']),show okT (funT th (a.inf (g++[th])).1)=okT (.mk 4 [th,(a.inf (g++[th])).1]) from rfl,join_ok (.inr rfl) hth (hgood h')]
  simp[tupV,V.wk,V.wks,constV,Sz.view]
theorem cn0(k i:Int)(th:Ty)(g:List Ty)(hsh:(Tm.mk k i th []).shape=true)(k1:k≠1)(k2:k≠2)(hg:∀x∈g,x.err=0):CT (Tm.mk k i th []) g:=by
 have hinf:=Tm.inf_eq g (Tm.mk k i th [])
 simp only[Tm.kind_mk,Tm.ty_mk,Tm.args_mk,k1,k2,if_false] at hinf
 have hnode:PC E 91 [.agg (Tm.mk k i th []).view,.agg (pad3 [])] (.tup [.agg (ofT (rule k th []).1).view,.i (rule k th []).2]):=node_c (Tm.mk k i th []) [] hsh k1 k2 rfl (by intro x hx;simp at hx)
 refine M.F Tryz.func64 ?_
 repeat'(first|refine M.gw ?_|refine M.cs ?_ ?_<;>intro h|fail)
 all_goals first
  |(exfalso;simp_all;done)
  |skip
 refine AW.range 0 (fun m=>True)
  (fun m=>([(0,.s .sz (g.map ofT)),(3,.ptr 0 0),(4,.ptr 1 0),(9,.ptr 2 0),(65,.s .tm []),(66,.i ((0:Nat):Int)),(67,.i m)],⟨3,[(0,.var (Tm.mk k i th []).view),(1,.var [.i 0,.slice .nil (.t .ty []),.i 0]),(2,.var (pad3 []))]⟩))
  (by omega) (fun m=>rfl) (fun m=>rfl) rfl trivial (M.W [some 0,some 1,some 2]) ?_ ?_
 ·intro m hm hP
  omega
 ·intro hP
  have er:(Tm.mk k i th []).inf g=rule k th []:=by rw[hinf];simp[Tm.infs]
  have hnode:=hnode
  repeat'(first|refine M.gw ?_|refine M.c2 (hnode) ?_|fail)
  rw[er]
  simp[tupV,V.wk,V.wks,constV,Sz.view]
theorem cn1(k i:Int)(th:Ty)(a:Tm)(g:List Ty)(hsh:(Tm.mk k i th [a]).shape=true)(k1:k≠1)(k2:k≠2)(hg:∀x∈g,x.err=0)(ia:CT a g):CT (Tm.mk k i th [a]) g:=by
 have hinf:=Tm.inf_eq g (Tm.mk k i th [a])
 simp only[Tm.kind_mk,Tm.ty_mk,Tm.args_mk,k1,k2,if_false] at hinf
 have ga:=Tm.inf_good a g (shape_args hsh a (by simp)) hg
 have hnode:(a.inf g).2=0→PC E 91 [.agg (Tm.mk k i th [a]).view,.agg (pad3 [(a.inf g).1])] (.tup [.agg (ofT (rule k th [(a.inf g).1]).1).view,.i (rule k th [(a.inf g).1]).2]):=fun ha=>node_c (Tm.mk k i th [a]) [(a.inf g).1] hsh k1 k2 rfl (by intro x hx;simp at hx;subst hx;exact ga ha)
 refine M.F Tryz.func64 ?_
 repeat'(first|refine M.gw ?_|refine M.cs ?_ ?_<;>intro h|fail)
 all_goals first
  |(exfalso;simp_all;done)
  |skip
 refine AW.range 1 (fun m=>(0<m→(a.inf g).2=0))
  (fun m=>([(0,.s .sz (g.map ofT)),(3,.ptr 0 0),(4,.ptr 1 0),(9,.ptr 2 0),(65,.s .tm [a]),(66,.i ((1:Nat):Int)),(67,.i m)],⟨3,[(0,.var (Tm.mk k i th [a]).view),(1,.var [.i 0,.slice .nil (.t .ty []),.i 0]),(2,.var (if m=0 then pad3 [] else pad3 [(a.inf g).1]))]⟩))
  (by omega) (fun m=>rfl) (fun m=>rfl) rfl (by simp) (M.W [some 0,some 1,some 2]) ?_ ?_
 ·intro m hm hP
  obtain rfl:m=0:=by omega
  repeat'(first|refine M.gw ?_|refine M.c2 (ia) ?_|refine M.cs ?_ ?_<;>intro h|fail)
  ·have h':(a.inf g).2≠0:=by simpa using h
   have er:(Tm.mk k i th [a]).inf g=(noTy,(a.inf g).2):=by rw[hinf];simp[Tm.infs,h']
   rw[er];rfl
  ·have h':(a.inf g).2=0:=by simpa using h
   exact⟨rfl,fun _=>h',(M.W [some 0,some 1,some 2])⟩
 ·intro hP
  have za:(a.inf g).2=0:=by have:=hP;simp_all
  have er:(Tm.mk k i th [a]).inf g=rule k th [(a.inf g).1]:=by rw[hinf];simp[Tm.infs,za]
  have hnode:=hnode za
  repeat'(first|refine M.gw ?_|refine M.c2 (hnode) ?_|fail)
  rw[er]
  simp[tupV,V.wk,V.wks,constV,Sz.view]
theorem cn2(k i:Int)(th:Ty)(a:Tm)(b:Tm)(g:List Ty)(hsh:(Tm.mk k i th [a,b]).shape=true)(k1:k≠1)(k2:k≠2)(hg:∀x∈g,x.err=0)(ia:CT a g)(ib:CT b g):CT (Tm.mk k i th [a,b]) g:=by
 have hinf:=Tm.inf_eq g (Tm.mk k i th [a,b])
 simp only[Tm.kind_mk,Tm.ty_mk,Tm.args_mk,k1,k2,if_false] at hinf
 have ga:=Tm.inf_good a g (shape_args hsh a (by simp)) hg
 have gb:=Tm.inf_good b g (shape_args hsh b (by simp)) hg
 have hnode:(a.inf g).2=0→(b.inf g).2=0→PC E 91 [.agg (Tm.mk k i th [a,b]).view,.agg (pad3 [(a.inf g).1,(b.inf g).1])] (.tup [.agg (ofT (rule k th [(a.inf g).1,(b.inf g).1]).1).view,.i (rule k th [(a.inf g).1,(b.inf g).1]).2]):=fun ha hb=>node_c (Tm.mk k i th [a,b]) [(a.inf g).1,(b.inf g).1] hsh k1 k2 rfl (by intro x hx;simp at hx;rcases hx with rfl|rfl<;>first|exact ga ha|exact gb hb)
 refine M.F Tryz.func64 ?_
 repeat'(first|refine M.gw ?_|refine M.cs ?_ ?_<;>intro h|fail)
 all_goals first
  |(exfalso;simp_all;done)
  |skip
 refine AW.range 2 (fun m=>(0<m→(a.inf g).2=0)∧(1<m→(b.inf g).2=0))
  (fun m=>([(0,.s .sz (g.map ofT)),(3,.ptr 0 0),(4,.ptr 1 0),(9,.ptr 2 0),(65,.s .tm [a,b]),(66,.i ((2:Nat):Int)),(67,.i m)],⟨3,[(0,.var (Tm.mk k i th [a,b]).view),(1,.var [.i 0,.slice .nil (.t .ty []),.i 0]),(2,.var (if m=0 then pad3 [] else if m=1 then pad3 [(a.inf g).1] else pad3 [(a.inf g).1,(b.inf g).1]))]⟩))
  (by omega) (fun m=>rfl) (fun m=>rfl) rfl (by simp) (M.W [some 0,some 1,some 2]) ?_ ?_
 ·intro m hm hP
  by_cases hm0:m=0
  ·subst hm0
   repeat'(first|refine M.gw ?_|refine M.c2 (ia) ?_|refine M.cs ?_ ?_<;>intro h|fail)
   ·have h':(a.inf g).2≠0:=by simpa using h
    have er:(Tm.mk k i th [a,b]).inf g=(noTy,(a.inf g).2):=by rw[hinf];simp[Tm.infs,h']
    rw[er];rfl
   ·have h':(a.inf g).2=0:=by simpa using h
    exact⟨rfl,⟨by intro _;first|exact h'|(have:=hP;simp_all),by omega⟩,(M.W [some 0,some 1,some 2])⟩
  obtain rfl:m=1:=by omega
  repeat'(first|refine M.gw ?_|refine M.c2 (ib) ?_|refine M.cs ?_ ?_<;>intro h|fail)
  ·have h':(b.inf g).2≠0:=by simpa using h
   have za:(a.inf g).2=0:=by have:=hP;simp_all
   have er:(Tm.mk k i th [a,b]).inf g=(noTy,(b.inf g).2):=by rw[hinf];simp[Tm.infs,h',za]
   rw[er];rfl
  ·have h':(b.inf g).2=0:=by simpa using h
   exact⟨rfl,⟨by intro _;first|exact h'|(have:=hP;simp_all),by intro _;first|exact h'|(have:=hP;simp_all)⟩,(M.W [some 0,some 1,some 2])⟩
 ·intro hP
  have za:(a.inf g).2=0:=by have:=hP;simp_all
  have zb:(b.inf g).2=0:=by have:=hP;simp_all
  have er:(Tm.mk k i th [a,b]).inf g=rule k th [(a.inf g).1,(b.inf g).1]:=by rw[hinf];simp[Tm.infs,za,zb]
  have hnode:=hnode za zb
  repeat'(first|refine M.gw ?_|refine M.c2 (hnode) ?_|fail)
  rw[er]
  simp[tupV,V.wk,V.wks,constV,Sz.view]
theorem cn3(k i:Int)(th:Ty)(a:Tm)(b:Tm)(c:Tm)(g:List Ty)(hsh:(Tm.mk k i th [a,b,c]).shape=true)(k1:k≠1)(k2:k≠2)(hg:∀x∈g,x.err=0)(ia:CT a g)(ib:CT b g)(ic:CT c g):CT (Tm.mk k i th [a,b,c]) g:=by
 have hinf:=Tm.inf_eq g (Tm.mk k i th [a,b,c])
 simp only[Tm.kind_mk,Tm.ty_mk,Tm.args_mk,k1,k2,if_false] at hinf
 have ga:=Tm.inf_good a g (shape_args hsh a (by simp)) hg
 have gb:=Tm.inf_good b g (shape_args hsh b (by simp)) hg
 have gc:=Tm.inf_good c g (shape_args hsh c (by simp)) hg
 have hnode:(a.inf g).2=0→(b.inf g).2=0→(c.inf g).2=0→PC E 91 [.agg (Tm.mk k i th [a,b,c]).view,.agg (pad3 [(a.inf g).1,(b.inf g).1,(c.inf g).1])] (.tup [.agg (ofT (rule k th [(a.inf g).1,(b.inf g).1,(c.inf g).1]).1).view,.i (rule k th [(a.inf g).1,(b.inf g).1,(c.inf g).1]).2]):=fun ha hb hc=>node_c (Tm.mk k i th [a,b,c]) [(a.inf g).1,(b.inf g).1,(c.inf g).1] hsh k1 k2 rfl (by intro x hx;simp at hx;rcases hx with rfl|rfl|rfl<;>first|exact ga ha|exact gb hb|exact gc hc)
 refine M.F Tryz.func64 ?_
 repeat'(first|refine M.gw ?_|refine M.cs ?_ ?_<;>intro h|fail)
 all_goals first
  |(exfalso;simp_all;done)
  |skip
 refine AW.range 3 (fun m=>(0<m→(a.inf g).2=0)∧(1<m→(b.inf g).2=0)∧(2<m→(c.inf g).2=0))
  (fun m=>([(0,.s .sz (g.map ofT)),(3,.ptr 0 0),(4,.ptr 1 0),(9,.ptr 2 0),(65,.s .tm [a,b,c]),(66,.i ((3:Nat):Int)),(67,.i m)],⟨3,[(0,.var (Tm.mk k i th [a,b,c]).view),(1,.var [.i 0,.slice .nil (.t .ty []),.i 0]),(2,.var (if m=0 then pad3 [] else if m=1 then pad3 [(a.inf g).1] else if m=2 then pad3 [(a.inf g).1,(b.inf g).1] else pad3 [(a.inf g).1,(b.inf g).1,(c.inf g).1]))]⟩))
  (by omega) (fun m=>rfl) (fun m=>rfl) rfl (by simp) (M.W [some 0,some 1,some 2]) ?_ ?_
 ·intro m hm hP
  by_cases hm0:m=0
  ·subst hm0
   repeat'(first|refine M.gw ?_|refine M.c2 (ia) ?_|refine M.cs ?_ ?_<;>intro h|fail)
   ·have h':(a.inf g).2≠0:=by simpa using h
    have er:(Tm.mk k i th [a,b,c]).inf g=(noTy,(a.inf g).2):=by rw[hinf];simp[Tm.infs,h']
    rw[er];rfl
   ·have h':(a.inf g).2=0:=by simpa using h
    exact⟨rfl,⟨by intro _;first|exact h'|(have:=hP;simp_all),by omega,by omega⟩,(M.W [some 0,some 1,some 2])⟩
  by_cases hm1:m=1
  ·subst hm1
   repeat'(first|refine M.gw ?_|refine M.c2 (ib) ?_|refine M.cs ?_ ?_<;>intro h|fail)
   ·have h':(b.inf g).2≠0:=by simpa using h
    have za:(a.inf g).2=0:=by have:=hP;simp_all
    have er:(Tm.mk k i th [a,b,c]).inf g=(noTy,(b.inf g).2):=by rw[hinf];simp[Tm.infs,h',za]
    rw[er];rfl
   ·have h':(b.inf g).2=0:=by simpa using h
    exact⟨rfl,⟨by intro _;first|exact h'|(have:=hP;simp_all),by intro _;first|exact h'|(have:=hP;simp_all),by omega⟩,(M.W [some 0,some 1,some 2])⟩
  obtain rfl:m=2:=by omega
  repeat'(first|refine M.gw ?_|refine M.c2 (ic) ?_|refine M.cs ?_ ?_<;>intro h|fail)
  ·have h':(c.inf g).2≠0:=by simpa using h
   have za:(a.inf g).2=0:=by have:=hP;simp_all
   have zb:(b.inf g).2=0:=by have:=hP;simp_all
   have er:(Tm.mk k i th [a,b,c]).inf g=(noTy,(c.inf g).2):=by rw[hinf];simp[Tm.infs,h',za,zb]
   rw[er];rfl
  ·have h':(c.inf g).2=0:=by simpa using h
   exact⟨rfl,⟨by intro _;first|exact h'|(have:=hP;simp_all),by intro _;first|exact h'|(have:=hP;simp_all),by intro _;first|exact h'|(have:=hP;simp_all)⟩,(M.W [some 0,some 1,some 2])⟩
 ·intro hP
  have za:(a.inf g).2=0:=by have:=hP;simp_all
  have zb:(b.inf g).2=0:=by have:=hP;simp_all
  have zc:(c.inf g).2=0:=by have:=hP;simp_all
  have er:(Tm.mk k i th [a,b,c]).inf g=rule k th [(a.inf g).1,(b.inf g).1,(c.inf g).1]:=by rw[hinf];simp[Tm.infs,za,zb,zc]
  have hnode:=hnode za zb zc
  repeat'(first|refine M.gw ?_|refine M.c2 (hnode) ?_|fail)
  rw[er]
  simp[tupV,V.wk,V.wks,constV,Sz.view]
theorem ctypeOf_c:∀(n:Nat) (t:Tm) (g:List Ty),t.full≤n→t.shape=true→(∀x∈g,x.err=0)→g.length+n<274877906944→CT t g:=by
 intro n
 induction n with
 |zero=>intro t g h;have:=t.full_pos;omega
 |succ n ih=>
 intro t g hsz hsh hg hgn
 have hsz':=Tm.full_eq t
 have hak:=arK_len hsh
 have hargs:=shape_args hsh
 by_cases k1:t.kind=1
 ·exact ct1 t g hsh (by omega) k1
 have hih:∀x∈t.args,∀g':List Ty,(∀y∈g',y.err=0)→g'.length+n<274877906944→CT x g':=fun x hx g' hg' hl=>ih x g' (by have:=lsum_mem Tm.full hx;omega) (hargs x hx) hg' hl
 have hth:typedK t.kind=true→t.ty.err=0:=shape_ty hsh
 clear hsz hsz' ih
 obtain⟨k,i,th,xs⟩:=t
 simp only[Tm.kind_mk,Tm.args_mk,Tm.ty_mk] at*
 by_cases k2:k=2
 ·subst k2
  obtain⟨a,rfl⟩:=len_1 (Option.some.inj hak).symm
  refine ct2 i th a g hsh hg (by omega) (hih a (by simp) (g++[th]) ?_ (by simp;omega))
  intro x hx
  rcases List.mem_append.1 hx with hx|hx
  ·exact hg x hx
  ·simp at hx;subst hx;exact hth rfl
 ·have hx:∀x∈xs,CT x g:=fun x hx=>hih x hx g hg (by omega)
  rcases arK_cases hak with⟨hn,hk⟩|⟨hn,hk⟩|⟨hn,hk⟩|⟨hn,hk⟩
  ·have hL:=List.eq_nil_of_length_eq_zero hn
   subst hL
   exact cn0 k i th g hsh k1 k2 hg
  ·obtain ⟨a,rfl⟩:=len_1 hn
   exact cn1 k i th a g hsh k1 k2 hg (hx a (by simp))
  ·obtain ⟨a,b,rfl⟩:=len_2 hn
   exact cn2 k i th a b g hsh k1 k2 hg (hx a (by simp)) (hx b (by simp))
  ·obtain ⟨a,b,c,rfl⟩:=len_3 hn
   exact cn3 k i th a b c g hsh k1 k2 hg (hx a (by simp)) (hx b (by simp)) (hx c (by simp))
theorem termsTypeOf_c(g:List Ty)(t:Tm)(ht:t.full<137438953472)(hg:(g.map Ty.size).sum<1099511627776):PC E 26 [.s .ty g,.agg t.view] (.tup [.agg (typeOf g t).1.view,.i (typeOf g t).2]):=by
 have h1:=context2_c g hg
 have h2:=check_c t (by omega)
 have h3:=from_c g hg
 by_cases hc:ctxErr g=0
 case neg=>
  have e:typeOf g t=(noTy,ctxErr g):=if_pos hc
  rw[e]
  refine M.F Tryz.func26 ?_
  repeat'(first|refine M.gw ?_|refine M.c2 (h1) ?_|refine M.cs ?_ ?_<;>intro h|fail)
  ·rfl
  ·exfalso;simp_all;done
 by_cases he:t.err=0
 case neg=>
  have e:typeOf g t=(noTy,t.err):=by unfold typeOf typed;rw[if_neg (by simp[hc]),if_pos he]
  rw[e];rw[hc] at h1
  refine M.F Tryz.func26 ?_
  repeat'(first|refine M.gw ?_|refine M.c2 (h1) ?_|refine M.c2 (h2) ?_|refine M.cs ?_ ?_<;>intro h|fail)
  ·rfl
  ·exfalso;simp_all;done
 have h4:=ctypeOf_c _ t g (Nat.le_refl _) ((Tm.err_iff t).1 he).1 (ctxErr_all hc).2 (by have:=(ctxErr_all hc).1;omega)
 have e:typeOf g t=t.inf g:=by unfold typeOf typed;rw[if_neg (by simp[hc]),if_neg (by simp[he])]
 rw[e];rw[hc] at h1;rw[he] at h2
 have hgood:=Tm.inf_good t g ((Tm.err_iff t).1 he).1 (ctxErr_all hc).2
 have hno:=inf_no t g
 unfold CT at h4
 generalize t.inf g=r at*
 obtain⟨u,er⟩:=r
 dsimp only at*
 by_cases hi:er=0
 ·subst hi
  have h5:=ownTy_c _ u (Nat.le_refl _) (by have:=(Ty.err_iff _).1 (hgood rfl);omega)
  refine M.F Tryz.func26 ?_
  repeat'(first|refine M.gw ?_|refine M.c2 (h1) ?_|refine M.c2 (h2) ?_|refine M.c2 (h3) ?_|refine M.c2 (h4) ?_|refine M.c2 (h5) ?_|fail)
  rfl
 ·obtain rfl:=hno hi
  refine M.F Tryz.func26 ?_
  repeat'(first|refine M.gw ?_|refine M.c2 (h1) ?_|refine M.c2 (h2) ?_|refine M.c2 (h3) ?_|refine M.c2 (h4) ?_|refine M.cs ?_ ?_<;>intro h|fail)
  ·rfl
  ·exfalso;simp_all;done
def lamsT(b:Tm)(l:List Ty):Tm:=l.foldr lmT b
def dflS(t:Ty):Tm:=if t.err=0 then dfl t else noTm
theorem times_c:∀(n:Nat) (t:Tm) (at_:Int),t.full≤n→n<274877906944→-274877906944≤at_→at_+n<549755813888→PC E 61 [.agg t.view,.i at_] (.i (timesT at_ t)):=by
 intro n
 induction n with
 |zero=>intro t at_ h;have:=t.full_pos;omega
 |succ n ih=>
 intro t at_ hsz hn h1 h2
 have hsz':=Tm.full_eq t
 have hlen:=lsum_len Tm.full Tm.full_pos t.args
 have he:=timesT_eq at_ t
 have hup:up t.kind at_≤at_+1∧at_≤up t.kind at_:=by unfold up;split<;>omega
 refine M.F Tryz.func61 ?_
 repeat'(first|refine M.gw ?_|fail)
 refine AW.cutT (ι:={u:Unit // ¬(t.kind=1∧t.index=at_)}) (fun _=>([(1,.i (up t.kind at_)),(2,.ptr 0 0)],⟨1,[(0,.var t.view)]⟩)) ?_ ?_
 ·refine AW.block ?_
  repeat'(first|refine M.gw ?_|refine M.cs ?_ ?_<;>intro h|fail)
  ·have hi:t.index=at_:=by simpa using h
   have hk:t.kind=1:=by simp_all
   rw[he,if_pos ⟨hk,hi⟩]
   rfl
  ·have hi:¬t.index=at_:=by simpa using h
   have hk:t.kind=1:=by simp_all
   have hu:up t.kind at_=at_:=by rw[hk];rfl
   exact⟨⟨(),fun hh=>hi hh.2⟩,(M.W [some 0] (hf:=(by(repeat'(first|exact trivial|refine And.intro ?_ ?_|refine⟨_,U,_,U,?_⟩|exact VLe.refl _|exact VLe.of_eq (by simp[Sto.upd,hu])));done)))⟩
  ·have hk:t.kind=2:=by simpa using h
   have hu:up t.kind at_=at_+1:=by rw[hk];rfl
   exact⟨⟨(),fun hh=>by omega⟩,(M.W [some 0] (hf:=(by(repeat'(first|exact trivial|refine And.intro ?_ ?_|refine⟨_,U,_,U,?_⟩|exact VLe.refl _|exact VLe.of_eq (by simp[Sto.upd,hu])));done)))⟩
  ·have hk:¬t.kind=2:=by simpa using h
   have hk1:¬t.kind=1:=by simp_all
   have hu:up t.kind at_=at_:=if_neg hk
   exact⟨⟨(),fun hh=>hk1 hh.1⟩,(M.W [some 0] (hf:=(by(repeat'(first|exact trivial|refine And.intro ?_ ?_|refine⟨_,U,_,U,?_⟩|exact VLe.refl _|exact VLe.of_eq (by simp[Sto.upd,hu])));done)))⟩
 rintro⟨_,hne⟩
 rw[if_neg hne] at he
 repeat'(first|refine M.gw ?_|fail)
 refine AW.range t.args.length (fun m=>True)
  (fun m=>([(1,.i (up t.kind at_)),(2,.ptr 0 0),(5,.i (((t.args.take m).map (timesT (up t.kind at_))).sum:Nat)),(21,.s .tm t.args),(22,.i t.args.length),(23,.i m)],⟨1,[(0,.var t.view)]⟩))
  (by omega) (fun m=>rfl) (fun m=>rfl) rfl trivial (M.W [some 0]) ?_ ?_
 ·intro m hm _
  have hs1:=lsum_take (timesT (up t.kind at_)) t.args m hm
  have hs2:=lsum_mem Tm.full (List.getElem_mem hm)
  have hs3:((t.args.take m).map (timesT (up t.kind at_))).sum≤(t.args.map Tm.full).sum:=by
   have a1:=lsum_take_le Tm.full t.args m
   have a2:=lsum_le (f:=timesT (up t.kind at_)) (g:=Tm.full) (t.args.take m) fun x _=>Nat.le_trans (timesT_le x _) x.size_le_full
   omega
  have hs4:=timesT_le t.args[m] (up t.kind at_)
  have hs5:=t.args[m].size_le_full
  have hc:=ih t.args[m] (up t.kind at_) (by omega) (by omega) (by omega) (by omega)
  repeat'(first|refine M.gw ?_|refine M.c2 (hc) ?_|fail)
  refine⟨rfl,trivial,?_⟩
  simp only[hs1]
  exact(M.W [some 0])
 ·intro _
  repeat'(first|refine M.gw ?_|fail)
  rw[he]
  simp[tupV,V.wk,V.wks,constV]
theorem far_c:∀(n:Nat) (t:Tm),t.full≤n→n<1099511627776→PC E 46 [.agg t.view] (.bool (farT t)):=by
 intro n
 induction n with
 |zero=>intro t h;have:=t.full_pos;omega
 |succ n ih=>
 intro t hsz hn
 have hsz':=Tm.full_eq t
 have hlen:=lsum_len Tm.full Tm.full_pos t.args
 have he:=farT_eq t
 refine M.F Tryz.func46 ?_
 repeat'(first|refine M.gw ?_|refine M.cs ?_ ?_<;>intro h|fail)
 ·have hi:t.index>536870912:=by simpa using h
  rw[he,decide_eq_true hi]
  rfl
 have hi:¬t.index>536870912:=by simpa using h
 rw[decide_eq_false hi,Bool.false_or] at he
 refine AW.range t.args.length (fun m=>∀j (hj:j<t.args.length),j<m→farT t.args[j]=false)
  (fun m=>([(1,.ptr 0 0),(9,.s .tm t.args),(10,.i t.args.length),(11,.i m)],⟨1,[(0,.var t.view)]⟩))
  (by omega) (fun m=>rfl) (fun m=>rfl) rfl (fun j hj h=>by omega) (M.W [some 0]) ?_ ?_
 ·intro m hm hP
  have hs2:=lsum_mem Tm.full (List.getElem_mem hm)
  have hc:=ih t.args[m] (by omega) (by omega)
  cases hb:farT t.args[m] with
  |true=>
   rw[hb] at hc
   rw[show farT t=true by rw[he,List.any_eq_true];exact⟨_,List.getElem_mem hm,hb⟩]
   repeat'(first|refine M.gw ?_|refine M.c2 (hc) ?_|fail)
   rfl
  |false=>
   rw[hb] at hc
   repeat'(first|refine M.gw ?_|refine M.c2 (hc) ?_|fail)
   exact⟨rfl,all_step (p:=fun x:Tm=>farT x=false) hm hP hb,(M.W [some 0])⟩
 ·intro hP
  have hf:farT t=false:=by
   rw[he,List.any_eq_false]
   intro x hx
   obtain⟨j,hj,rfl⟩:=List.getElem_of_mem hx
   rw[hP j hj hj];simp
  rw[hf]
  repeat'(first|refine M.gw ?_|fail)
  rfl
theorem look_c(t:Tm)(ht:t.full<1099511627776)(he:t.err=0)(hf:farT t=false):PC E 18 [.agg t.view] (.i 0):=by
 have h1:=check_c t ht
 have h2:=far_c _ t (Nat.le_refl _) ht
 rw[he] at h1
 rw[hf] at h2
 refine M.F Tryz.func18 ?_
 repeat'(first|refine M.gw ?_|refine M.c2 (h1) ?_|refine M.c2 (h2) ?_|fail)
 rfl
theorem smallCb(t:Tm)(i:Nat)(hi:i<t.args.length)(k:Int):AC E 60 [.i i,.i k,.ptr 0 0] ⟨1,[(0,.var t.view)]⟩ (.bool (t.args[i].kind==k)) ⟨1,[(0,.var t.view)]⟩:=by
 refine M.F Tryz.func60 ?_
 repeat'(first|refine M.gw ?_|fail)
 (exact M.n2 [some 0] (h8:=(by simp[tupV,V.wk,V.wks,constV,Ty.view,Tm.view,beq_iff_eq])))
theorem small_c(t:Tm)(hs:t.shape=true)(ht:t.full<274877906944):PC E 25 [.agg t.view] (.bool (smallT t)):=by
 by_cases k3:t.kind=3
 ·obtain ⟨i,th,f,a,rfl,hf,ha⟩:=mkArgs2 hs k3 rfl
  have c0:AC E 60 [.i 0,.i 2,.ptr 0 0] ⟨1,[(0,.var (Tm.mk 3 i th [f,a]).view)]⟩ (.bool (f.kind==2)) ⟨1,[(0,.var (Tm.mk 3 i th [f,a]).view)]⟩:=smallCb _ 0 (by simp) 2
  by_cases hk:f.kind=2
  ·obtain ⟨j,s,b,rfl,hb⟩:=mkArgs1 hf hk rfl
   have hbf:b.full<274877906944:=by simp only[Tm.full,Tm.fulls] at ht;omega
   have hc:=times_c _ b 0 (Nat.le_refl _) (by omega) (by omega) (by omega)
   have hle:=timesT_le b 0
   refine M.F Tryz.func25 ?_
   repeat'(first|refine M.gw ?_|refine M.cv (c0) [0] 0 ?_|refine M.c2 (hc) ?_|refine M.gs ?_ ?_<;>intro h|refine M.bl ?_|fail)
   ·have h':a.args=[]:=by simpa using h
    simp[tupV,V.wk,V.wks,constV,smallT,Tm.arg,h']
   ·have h':¬a.args=[]:=by simpa using h
    have hb0:(a.args.length==0)=false:=by simpa using h'
    have hd:decide ((↑(timesT 0 b):Int)≤1)=decide (timesT 0 b≤1):=by rw[decide_eq_decide];omega
    simp[tupV,V.wk,V.wks,constV,smallT,Tm.arg,hb0,hd]
  ·have hk':(f.kind==2)=false:=by simpa using hk
   rw[hk'] at c0
   refine M.F Tryz.func25 ?_
   repeat'(first|refine M.gw ?_|refine M.cv (c0) [0] 0 ?_|refine M.bl ?_|fail)
   simp[tupV,V.wk,V.wks,constV,smallT,Tm.arg,hk]
 ·by_cases k6:t.kind=6
  ·obtain ⟨i,th,x,y,z,rfl,_,_,_⟩:=mkArgs3 hs k6 rfl
   have c0:AC E 60 [.i 2,.i 4,.ptr 0 0] ⟨1,[(0,.var (Tm.mk 6 i th [x,y,z]).view)]⟩ (.bool (z.kind==4)) ⟨1,[(0,.var (Tm.mk 6 i th [x,y,z]).view)]⟩:=smallCb _ 2 (by simp) 4
   refine M.F Tryz.func25 ?_
   repeat'(first|refine M.gw ?_|refine M.cv (c0) [0] 0 ?_|refine M.bl ?_|fail)
   rfl
  ·by_cases k9:t.kind=9
   ·obtain ⟨i,th,x,y,z,rfl,_,_,_⟩:=mkArgs3 hs k9 rfl
    have c0:AC E 60 [.i 2,.i 7,.ptr 0 0] ⟨1,[(0,.var (Tm.mk 9 i th [x,y,z]).view)]⟩ (.bool (z.kind==7)) ⟨1,[(0,.var (Tm.mk 9 i th [x,y,z]).view)]⟩:=smallCb _ 2 (by simp) 7
    refine M.F Tryz.func25 ?_
    repeat'(first|refine M.gw ?_|refine M.cv (c0) [0] 0 ?_|refine M.bl ?_|fail)
    rfl
   ·by_cases k11:t.kind=11
    ·obtain ⟨i,th,x,rfl,_⟩:=mkArgs1 hs k11 rfl
     have c0:AC E 60 [.i 0,.i 10,.ptr 0 0] ⟨1,[(0,.var (Tm.mk 11 i th [x]).view)]⟩ (.bool (x.kind==10)) ⟨1,[(0,.var (Tm.mk 11 i th [x]).view)]⟩:=smallCb _ 0 (by simp) 10
     refine M.F Tryz.func25 ?_
     repeat'(first|refine M.gw ?_|refine M.cv (c0) [0] 0 ?_|refine M.bl ?_|fail)
     rfl
    ·by_cases k12:t.kind=12
     ·obtain ⟨i,th,x,rfl,_⟩:=mkArgs1 hs k12 rfl
      have c0:AC E 60 [.i 0,.i 10,.ptr 0 0] ⟨1,[(0,.var (Tm.mk 12 i th [x]).view)]⟩ (.bool (x.kind==10)) ⟨1,[(0,.var (Tm.mk 12 i th [x]).view)]⟩:=smallCb _ 0 (by simp) 10
      refine M.F Tryz.func25 ?_
      repeat'(first|refine M.gw ?_|refine M.cv (c0) [0] 0 ?_|refine M.bl ?_|fail)
      rfl
     ·have e:smallT t=false:=by simp[smallT,k3,k6,k9,k11,k12]
      rw[e]
      refine M.F Tryz.func25 ?_
      repeat'(first|refine M.gw ?_|refine M.bl ?_|refine M.cs ?_ ?_<;>intro h|fail)
      all_goals first
       |rfl
       |(exfalso;simp_all;done)
theorem become_c(t:Tm)(hs:t.shape=true)(hsm:smallT t=true)(ht:t.full<274877906944)(hp:∀i th j s b a,t= .mk 3 i th [.mk 2 j s [b],a]→putErr b 0 a=0):PC E 47 [.agg t.view] (.agg (becomeT t).view):=by
 rcases small_cases' hs hsm with⟨i,th,j,s,b,a,rfl,hb,ha,hor,e⟩|⟨k,i,th,x,y,z,hk,rfl,hx,e⟩|⟨k,i,th,j,s,x,y,hk,rfl,hx,hy,e⟩
 ·have h1:b.full<274877906944∧a.full<274877906944:=by simp only[Tm.full,Tm.fulls] at ht;omega
  have hc:=substPut_c b 0 a h1.1 h1.2
  rw[hp i th j s b a rfl,if_pos rfl] at hc
  rw[e]
  refine M.F Tryz.func47 ?_
  repeat'(first|refine M.gw ?_|refine M.c2 (hc) ?_|refine M.bl ?_|fail)
  rfl
 ·rw [e]
  rcases hk with rfl|rfl
  ·refine M.F Tryz.func47 ?_
   repeat'(first|refine M.gw ?_|refine M.bl ?_|fail)
   rfl
  ·refine M.F Tryz.func47 ?_
   repeat'(first|refine M.gw ?_|refine M.bl ?_|fail)
   rfl
 ·rw [e]
  rcases hk with rfl|rfl
  ·refine M.F Tryz.func47 ?_
   repeat'(first|refine M.gw ?_|refine M.bl ?_|fail)
   rfl
  ·refine M.F Tryz.func47 ?_
   repeat'(first|refine M.gw ?_|refine M.bl ?_|fail)
   rfl
theorem snext_c:∀(n:Nat) (t:Tm) (g:List Ty) (T:Ty),t.size≤n→t.shape=true→t.inf g=(T,0)→g.length+t.size≤4000→PC E 19 [.agg t.view] (.tup [.agg ((nextT t).getD t).view,.bool (nextT t).isSome]):=by
 intro n
 induction n with
 |zero=>intro t g T h;have:=t.size_pos;omega
 |succ n ih=>
 intro t g T hsz hs hi hb
 have hfull:=shape_full t hs
 have hse:=t.size_eq
 have hlen:=lsum_len Tm.size Tm.size_pos t.args
 have h1:=small_c t hs (by omega)
 have he:=nextT_eq t
 by_cases hsm:smallT t=true
 ·have h2:=become_c t hs hsm (by omega) (next_put hs hi hb hsm)
  rw[hsm] at h1
  rw[if_pos hsm] at he
  rw[he]
  simp only[Option.getD_some,Option.isSome_some]
  refine AC.mk Tryz.func19 rfl rfl rfl rfl rfl (Nat.le_of_ble_eq_true rfl) ?_
  repeat'(first|((with_reducible refine D.nil ?_);refine AX.nilL ?_)|((with_reducible refine D.load ?_);refine L.ldb U U U U U U ?_)|((with_reducible refine D.assign ?_);refine L.asg U U U ?_)|((with_reducible refine D.call ?_);first|refine L.c2 (h1) U U U U ?_|refine L.c2 (h2) U U U U ?_)|((with_reducible refine D.box ?_);refine L.bx U U U U ?_)|((with_reducible refine D.alloc ?_);refine L.al U U U ?_)|((with_reducible refine D.store ?_);refine L.st U U U U U U U U U ?_)|((with_reducible refine D.aw ?_);first|refine K.sq (AW.regL ?_)|refine K.sq (K.sq ?_)|refine AW.regL ?_|refine AW.condT U ?_|refine AW.ret ?_)|with_reducible refine K.tN ?_|with_reducible refine K.tR ?_|with_reducible refine K.r1 (by with_unfolding_all rfl) (by with_unfolding_all rfl) ?_)
  rfl
 rw[if_neg hsm] at he
 rw[Bool.not_eq_true] at hsm
 rw[hsm] at h1
 have hih:∀m (hm:m<t.args.length),PC E 19 [.agg t.args[m].view] (.tup [.agg ((nextT t.args[m]).getD t.args[m]).view,.bool (nextT t.args[m]).isSome]):=fun m hm=>by
  obtain⟨g',T',h3,h4⟩:=part_inf hs hi m hm
  have h5:=lsum_mem Tm.size (List.getElem_mem hm)
  exact ih t.args[m] g' T' (by omega) (shape_args hs _ (List.getElem_mem hm)) h3 (by omega)
 clear ih
 refine AC.mk Tryz.func19 rfl rfl rfl rfl rfl (Nat.le_of_ble_eq_true rfl) ?_
 repeat'(first|((with_reducible refine D.nil ?_);refine AX.nilL ?_)|((with_reducible refine D.load ?_);refine L.ldb U U U U U U ?_)|((with_reducible refine D.move ?_);refine L.mv U U U ?_)|((with_reducible refine D.fieldAddr ?_);refine L.fab U U U U U ?_)|((with_reducible refine D.assign ?_);refine L.asg U U U ?_)|((with_reducible refine D.call ?_);first|refine L.lnt U U U U ?_|refine L.c2 (h1) U U U U ?_)|((with_reducible refine D.box ?_);refine L.bx U U U U ?_)|((with_reducible refine D.alloc ?_);refine L.al U U U ?_)|((with_reducible refine D.aw ?_);first|refine K.sq (AW.regL ?_)|refine K.sq (K.sq ?_)|refine AW.regL ?_|refine AW.condF U ?_|refine AW.skip ?_)|with_reducible refine K.tN ?_)
 refine AW.range t.args.length (fun m=>∀j (hj:j<t.args.length),j<m→nextT t.args[j]=none)
  (fun m=>([(1,.ptr 0 0),(2,.ptr 1 0),(14,.s .tm t.args),(15,.i t.args.length),(16,.i m)],⟨2,[(0,.var t.view),(1,.var [.i 0,.i 0,.i 0,.slice .nil (.t .ty []),.slice .nil (.t .tm [])])]⟩))
  (by omega) (fun m=>rfl) (fun m=>rfl) U (fun j hj h=>by omega) (Weak.mk [some 0,some 1] _ _ _ U U U U (by(repeat'(first|exact trivial|refine And.intro ?_ ?_|refine⟨_,U,_,U,?_⟩|exact VLe.refl _));done) (by(repeat'(first|exact trivial|refine And.intro ?_ ?_|refine⟨_,U,_,U,_,U,?_⟩|exact VLe.refl _));done)) ?_ ?_
 ·intro m hm hP
  have hc:=hih m hm
  cases hn:nextT t.args[m] with
  |none=>
   rw[hn] at hc
   simp only[Option.getD_none,Option.isSome_none] at hc
   repeat'(first|((with_reducible refine D.nil ?_);refine AX.nilL ?_)|((with_reducible refine D.load ?_);first|refine L.ldb U U U U U U ?_|refine L.lda U U U U U ?_)|((with_reducible refine D.move ?_);refine L.mv U U U ?_)|((with_reducible refine D.assign ?_);refine L.asg U U U ?_)|((with_reducible refine D.call ?_);refine L.c2 (hc) U U U U ?_)|((with_reducible refine D.extract ?_);refine L.ex U U U U ?_)|((with_reducible refine D.alloc ?_);refine L.al U U U ?_)|((with_reducible refine D.store ?_);refine L.st U U U U U U U U U ?_)|((with_reducible refine D.indexAddr ?_);refine L.ixt _ U U U U U U U (by first|assumption|fail) ?_)|((with_reducible refine D.aw ?_);first|refine K.sq (AW.regL ?_)|refine AW.condF U ?_|refine AW.skip ?_)|with_reducible refine K.tN ?_|with_reducible refine K.bN ?_)
   exact⟨rfl,all_step (p:=fun x:Tm=>nextT x=none) hm hP hn,(Weak.mk [some 0,some 1] _ _ _ U U U U (by(repeat'(first|exact trivial|refine And.intro ?_ ?_|refine⟨_,U,_,U,?_⟩|exact VLe.refl _));done) (by(repeat'(first|exact trivial|refine And.intro ?_ ?_|refine⟨_,U,_,U,_,U,?_⟩|exact VLe.refl _));done))⟩
  |some u=>
   rw[hn] at hc
   simp only[Option.getD_some,Option.isSome_some] at hc
   have e:nextT t=some (.mk t.kind t.index t.ty (t.args.set m u)):=by rw[he,nextTs_at t.args m hm u hn hP];rfl
   rw[e]
   simp only[Option.getD_some,Option.isSome_some]
   repeat'(first|((with_reducible refine D.nil ?_);refine AX.nilL ?_)|((with_reducible refine D.load ?_);first|refine L.ldb U U U U U U ?_|refine L.lda U U U U U ?_)|((with_reducible refine D.move ?_);refine L.mv U U U ?_)|((with_reducible refine D.assign ?_);refine L.asg U U U ?_)|((with_reducible refine D.call ?_);refine L.c2 (hc) U U U U ?_)|((with_reducible refine D.extract ?_);refine L.ex U U U U ?_)|((with_reducible refine D.alloc ?_);refine L.al U U U ?_)|((with_reducible refine D.store ?_);refine L.st U U U U U U U U U ?_)|((with_reducible refine D.indexAddr ?_);refine L.ixt _ U U U U U U U (by first|assumption|fail) ?_)|((with_reducible refine D.aw ?_);(fail_if_success with_reducible refine D.stopR (id:=9) ?_);(fail_if_success with_reducible refine D.stopS (id:=9) ?_);first|refine K.sq (AW.regL ?_)|refine AW.condT U ?_)|with_reducible refine K.tN ?_)
   refine K.sq (AW.regL ?_)
   refine L.fab rfl rfl rfl rfl rfl ?_
   refine L.ldb rfl rfl rfl rfl rfl rfl ?_
   refine L.apA (te:=32) rfl rfl rfl rfl (by kernel_rfl) rfl rfl rfl rfl (by omega) (by omega) ?_
   repeat'(first|((with_reducible refine D.nil ?_);refine AX.nilL ?_)|((with_reducible refine D.load ?_);refine L.ldb U U U U U U ?_)|((with_reducible refine D.move ?_);refine L.mv U U U ?_)|((with_reducible refine D.fieldAddr ?_);refine L.fab U U U U U ?_)|((with_reducible refine D.store ?_);refine L.st U U U U U U U U U ?_)|((with_reducible refine D.aw ?_);refine K.sq (AW.regL ?_))|with_reducible refine K.tN ?_)
   refine L.ixr m rfl rfl rfl rfl rfl hm rfl ?_
   refine L.sta (c:= .tm) (l:=t.args) (u:=u) m rfl rfl rfl rfl rfl rfl rfl rfl hm rfl ?_
   repeat'(first|((with_reducible refine D.nil ?_);refine AX.nilL ?_)|with_reducible refine K.tN ?_)
   refine AW.frz (c:= .tm) 5 t.args.length (t.args.set m u) rfl (by simp) (by(repeat'(first|exact trivial|exact fun _=>rfl|exact fun h=>absurd rfl h|exact fun h=>absurd h (by decide)|refine And.intro ?_ ?_|intro _));done) (by(repeat'(first|exact trivial|exact fun _=>rfl|exact fun h=>absurd rfl h|exact fun h=>absurd h (by decide)|refine And.intro ?_ ?_|intro _));done) ?_
   repeat'(first|((with_reducible refine D.nil ?_);refine AX.nilL ?_)|((with_reducible refine D.load ?_);refine L.ldb U U U U U U ?_)|((with_reducible refine D.assign ?_);refine L.asg U U U ?_)|((with_reducible refine D.store ?_);refine L.st U U U U U U U U U ?_)|((with_reducible refine D.aw ?_);first|refine K.sq (AW.regL ?_)|refine AW.ret ?_)|with_reducible refine K.tN ?_|with_reducible refine K.tR ?_|with_reducible refine K.bR ?_|with_reducible refine K.gR ?_|with_reducible refine K.r1 (by with_unfolding_all rfl) (by with_unfolding_all rfl) ?_)
   rfl
 ·intro hP
  have e:nextT t=none:=by rw[he,nextTs_none t.args hP];rfl
  rw[e]
  simp only[Option.getD_none,Option.isSome_none]
  repeat'(first|((with_reducible refine D.nil ?_);refine AX.nilL ?_)|((with_reducible refine D.load ?_);refine L.ldb U U U U U U ?_)|((with_reducible refine D.assign ?_);refine L.asg U U U ?_)|((with_reducible refine D.store ?_);refine L.st U U U U U U U U U ?_)|((with_reducible refine D.aw ?_);first|refine K.sq (AW.regL ?_)|refine AW.ret ?_)|with_reducible refine K.tN ?_|with_reducible refine K.r1 (by with_unfolding_all rfl) (by with_unfolding_all rfl) ?_)
  simp[tupV,V.wk,V.wks,constV,Tm.view]
theorem fit_look{t:Tm}{g:List Ty}{T:Ty}(hs:t.shape=true)(hi:t.inf g=(T,0))(hb:g.length+t.size≤4000):PC E 18 [.agg t.view] (.i 0):=
 look_c t (by have:=shape_full t hs;omega) ((Tm.err_iff t).2 ⟨hs,by omega⟩) (far_no t g hs (by rw[hi]) (by omega))
theorem Step_c(t:Tm)(g:List Ty)(T:Ty)(hs:t.shape=true)(hi:t.inf g=(T,0))(hb:g.length+t.size≤4000):PC E 14 [.agg t.view] (.tup [.agg ((nextT t).getD t).view,.bool (nextT t).isSome,.i 0]):=by
 have h1:=fit_look hs hi hb
 have h2:=snext_c _ t g T (Nat.le_refl _) hs hi hb
 refine AC.mk Tryz.func14 rfl rfl rfl rfl rfl (Nat.le_of_ble_eq_true rfl) ?_
 repeat'(first|((with_reducible refine D.nil ?_);refine AX.nilL ?_)|((with_reducible refine D.load ?_);refine L.ldb U U U U U U ?_)|((with_reducible refine D.move ?_);refine L.mv U U U ?_)|((with_reducible refine D.assign ?_);refine L.asg U U U ?_)|((with_reducible refine D.bin ?_);refine L.bn U U U U U ?_)|((with_reducible refine D.call ?_);first|refine L.c2 (h1) U U U U ?_|refine L.c2 (h2) U U U U ?_)|((with_reducible refine D.extract ?_);refine L.ex U U U U ?_)|((with_reducible refine D.box ?_);refine L.bx U U U U ?_)|((with_reducible refine D.alloc ?_);refine L.al U U U ?_)|((with_reducible refine D.store ?_);refine L.st U U U U U U U U U ?_)|((with_reducible refine D.aw ?_);first|refine K.sq (AW.regL ?_)|refine K.sq (K.sq ?_)|refine AW.regL ?_|refine AW.condF U ?_|refine AW.skip ?_|refine AW.ret ?_)|with_reducible refine K.tN ?_|with_reducible refine K.r1 (by with_unfolding_all rfl) (by with_unfolding_all rfl) ?_)
 rfl
theorem Small_c(t:Tm)(g:List Ty)(T:Ty)(hs:t.shape=true)(hi:t.inf g=(T,0))(hb:g.length+t.size≤4000):PC E 13 [.agg t.view] (.tup [.bool (smallT t),.i 0]):=by
 have h1:=fit_look hs hi hb
 have h2:=small_c t hs (by have:=shape_full t hs;omega)
 refine AC.mk Tryz.func13 rfl rfl rfl rfl rfl (Nat.le_of_ble_eq_true rfl) ?_
 repeat'(first|((with_reducible refine D.nil ?_);refine AX.nilL ?_)|((with_reducible refine D.load ?_);refine L.ldb U U U U U U ?_)|((with_reducible refine D.move ?_);refine L.mv U U U ?_)|((with_reducible refine D.assign ?_);refine L.asg U U U ?_)|((with_reducible refine D.bin ?_);refine L.bn U U U U U ?_)|((with_reducible refine D.call ?_);first|refine L.c2 (h1) U U U U ?_|refine L.c2 (h2) U U U U ?_)|((with_reducible refine D.box ?_);refine L.bx U U U U ?_)|((with_reducible refine D.aw ?_);first|refine K.sq (AW.regL ?_)|refine K.sq (K.sq ?_)|refine AW.regL ?_|refine AW.condF U ?_|refine AW.skip ?_|refine AW.ret ?_)|with_reducible refine K.tN ?_|with_reducible refine K.r1 (by with_unfolding_all rfl) (by with_unfolding_all rfl) ?_)
 rfl
theorem Term_c(t:Tm)(g:List Ty)(T:Ty)(hs:t.shape=true)(hi:t.inf g=(T,0))(hb:g.length+t.size≤4000)(u:Tm)(n:Nat)(hr:Red t u n):PC E 8 [.agg t.view] (.tup [.agg u.view,.i n,.i 0]):=by
 have h1:=fit_look hs hi hb
 have h2:=snext_c _ t g T (Nat.le_refl _) hs hi hb
 have hfit:=hr.fit hs hi
 refine AC.mk Tryz.func8 rfl rfl rfl rfl rfl (Nat.le_of_ble_eq_true rfl) ?_
 repeat'(first|((with_reducible refine D.nil ?_);refine AX.nilL ?_)|((with_reducible refine D.assign ?_);refine L.asg U U U ?_)|((with_reducible refine D.box ?_);refine L.bx U U U U ?_)|((with_reducible refine D.alloc ?_);refine L.al U U U ?_)|((with_reducible refine D.aw ?_);refine K.sq (AW.regL ?_))|with_reducible refine K.tN ?_)
 refine AW.scope (ι:={p:Tm×Nat // Red p.1 u p.2∧p.2≤n∧p.1.shape=true∧p.1.inf g=(T,0)∧p.1.size≤t.size}) 0
  (fun p=>([(1,.ptr 0 0),(2,.ptr 1 0),(6,.i ((n-p.1.2:Nat):Int))],⟨2,[(0,.var p.1.1.view),(1,.var [.i 0,.i 0,.i 0,.slice .nil (.t .ty []),.slice .nil (.t .tm [])])]⟩)) (fun p=>p.1.2) rfl ?_ ?_
 ·cases hn:nextT t with
  |none=>
   rw[hn] at h2
   simp only[Option.getD_none,Option.isSome_none] at h2
   cases hr with
   |done _=>
    repeat'(first|((with_reducible refine D.nil ?_);refine AX.nilL ?_)|((with_reducible refine D.load ?_);refine L.ldb U U U U U U ?_)|((with_reducible refine D.move ?_);refine L.mv U U U ?_)|((with_reducible refine D.assign ?_);refine L.asg U U U ?_)|((with_reducible refine D.bin ?_);refine L.bn U U U U U ?_)|((with_reducible refine D.call ?_);first|refine L.c2 (h1) U U U U ?_|refine L.c2 (h2) U U U U ?_)|((with_reducible refine D.extract ?_);refine L.ex U U U U ?_)|((with_reducible refine D.alloc ?_);refine L.al U U U ?_)|((with_reducible refine D.store ?_);refine L.st U U U U U U U U U ?_)|((with_reducible refine D.aw ?_);first|refine K.sq (AW.regL ?_)|refine K.sq (K.sq ?_)|refine AW.regL ?_|refine AW.condF U ?_|refine AW.skip ?_|refine AW.ret ?_|refine K.sq (AW.label ?_))|with_reducible refine K.tN ?_|with_reducible refine K.r1 (by with_unfolding_all rfl) (by with_unfolding_all rfl) ?_|with_reducible refine K.fR ?_)
    rfl
   |step h _=>rw[hn] at h;cases h
  |some v=>
   rw[hn] at h2
   simp only[Option.getD_some,Option.isSome_some] at h2
   cases hr with
   |done h=>rw[hn] at h;cases h
   | @step _ _ _ m h hr'=>
     rw[hn] at h
     cases h
     obtain⟨q1,q2,q3⟩:=next_ok t g T v hs hi hn
     have e:((m+1-m:Nat):Int)=1:=by omega
     repeat'(first|((with_reducible refine D.nil ?_);refine AX.nilL ?_)|((with_reducible refine D.load ?_);refine L.ldb U U U U U U ?_)|((with_reducible refine D.move ?_);refine L.mv U U U ?_)|((with_reducible refine D.assign ?_);refine L.asg U U U ?_)|((with_reducible refine D.bin ?_);first|refine L.ad U U U U (by omega) ?_|refine L.bn U U U U U ?_)|((with_reducible refine D.call ?_);first|refine L.c2 (h1) U U U U ?_|refine L.c2 (h2) U U U U ?_)|((with_reducible refine D.extract ?_);refine L.ex U U U U ?_)|((with_reducible refine D.alloc ?_);refine L.al U U U ?_)|((with_reducible refine D.store ?_);refine L.st U U U U U U U U U ?_)|((with_reducible refine D.aw ?_);first|refine K.sq (AW.regL ?_)|refine K.sq (K.sq ?_)|refine AW.regL ?_|refine AW.condT U ?_|refine AW.condF U ?_|refine AW.skip ?_|refine K.sq (AW.label ?_)|refine AW.goto ?_)|with_reducible refine K.tN ?_|with_reducible refine K.tG ?_)
     refine⟨rfl,⟨(v,m),hr',by omega,q2,q1,by show v.size≤t.size;omega⟩,?_⟩
     exact(Weak.mk [some 0,some 1] _ _ _ U U U U (by(repeat'(first|exact trivial|refine And.intro ?_ ?_|refine⟨_,U,_,U,?_⟩|exact VLe.refl _|exact VLe.of_eq (by simp[Sto.upd,e])));done) (by(repeat'(first|exact trivial|refine And.intro ?_ ?_|refine⟨_,U,_,U,_,U,?_⟩|exact VLe.refl _));done))
 ·rintro ⟨⟨x,r⟩,hx,hrn,hxs,hxi,hxz⟩
  dsimp only at hx hrn hxs hxi hxz ⊢
  have h3:=snext_c _ x g T (Nat.le_refl _) hxs hxi (by omega)
  cases hn:nextT x with
  |none=>
   rw[hn] at h3
   simp only[Option.getD_none,Option.isSome_none] at h3
   cases hx with
   |done _=>
    refine K.sq (AW.skip ?_)
    repeat'(first|((with_reducible refine D.nil ?_);refine AX.nilL ?_)|((with_reducible refine D.load ?_);refine L.ldb U U U U U U ?_)|((with_reducible refine D.move ?_);refine L.mv U U U ?_)|((with_reducible refine D.assign ?_);refine L.asg U U U ?_)|((with_reducible refine D.call ?_);refine L.c2 (h3) U U U U ?_)|((with_reducible refine D.extract ?_);refine L.ex U U U U ?_)|((with_reducible refine D.alloc ?_);refine L.al U U U ?_)|((with_reducible refine D.store ?_);refine L.st U U U U U U U U U ?_)|((with_reducible refine D.aw ?_);first|refine K.sq (AW.regL ?_)|refine K.sq (K.sq ?_)|refine AW.regL ?_|refine AW.condF U ?_|refine AW.skip ?_|refine AW.ret ?_)|with_reducible refine K.tN ?_|with_reducible refine K.r1 (by with_unfolding_all rfl) (by with_unfolding_all rfl) ?_|with_reducible refine K.pR ?_)
    rfl
   |step h _=>rw[hn] at h;cases h
  |some v=>
   rw[hn] at h3
   simp only[Option.getD_some,Option.isSome_some] at h3
   cases hx with
   |done h=>rw[hn] at h;cases h
   | @step _ _ _ m h hr'=>
     rw[hn] at h
     cases h
     obtain⟨q1,q2,q3⟩:=next_ok x g T v hxs hxi hn
     have e:((n-m:Nat):Int)=((n-(m+1):Nat):Int)+1:=by omega
     refine K.sq (AW.skip ?_)
     repeat'(first|((with_reducible refine D.nil ?_);refine AX.nilL ?_)|((with_reducible refine D.load ?_);refine L.ldb U U U U U U ?_)|((with_reducible refine D.move ?_);refine L.mv U U U ?_)|((with_reducible refine D.assign ?_);refine L.asg U U U ?_)|((with_reducible refine D.bin ?_);refine L.ad U U U U (by omega) ?_)|((with_reducible refine D.call ?_);refine L.c2 (h3) U U U U ?_)|((with_reducible refine D.extract ?_);refine L.ex U U U U ?_)|((with_reducible refine D.alloc ?_);refine L.al U U U ?_)|((with_reducible refine D.store ?_);refine L.st U U U U U U U U U ?_)|((with_reducible refine D.aw ?_);first|refine K.sq (AW.regL ?_)|refine K.sq (K.sq ?_)|refine AW.regL ?_|refine AW.condT U ?_|refine AW.goto ?_)|with_reducible refine K.tN ?_|with_reducible refine K.tG ?_)
     refine⟨rfl,⟨(v,m),hr',by omega,q2,q1,by show v.size≤t.size;omega⟩,by show m<m+1;omega,?_⟩
     exact(Weak.mk [some 0,some 1] _ _ _ U U U U (by(repeat'(first|exact trivial|refine And.intro ?_ ?_|refine⟨_,U,_,U,?_⟩|exact VLe.refl _|exact VLe.of_eq (by simp[Sto.upd,e])));done) (by(repeat'(first|exact trivial|refine And.intro ?_ ?_|refine⟨_,U,_,U,_,U,?_⟩|exact VLe.refl _));done))
theorem formedEq_c(a b:Tm):PC E 113 [.agg (eqF a b).view] (.bool true):=by
 have h1:PC E 116 [.agg (Ty.mk 0 []).view] (.bool true):=noType_c (.mk 0 [])
 unfold eqF
 refine M.F Tryz.func113 ?_
 repeat'(first|refine M.gw ?_|refine M.c2 (h1) ?_|refine M.bl ?_|fail)
 rfl
theorem nodesEq_c(a b:Tm)(ha:a.shape=true)(hb:b.shape=true)(hz:a.size+b.size≤100000):PC E 92 [.agg (eqF a b).view] (.tup [.i (1+(a.size+b.size):Nat),.bool true]):=by
 have h1:=formedEq_c a b
 have fa:=shape_full a ha
 have fb:=shape_full b hb
 have ca:=termNodes_c _ a (Nat.le_refl _) (by omega)
 have cb:=termNodes_c _ b (Nat.le_refl _) (by omega)
 rw[show nodesM a= .tup [.i a.size,.bool true] by simp[nodesM,Tm.nodes,ha]] at ca
 rw[show nodesM b= .tup [.i b.size,.bool true] by simp[nodesM,Tm.nodes,hb]] at cb
 unfold eqF at*
 refine M.F Tryz.func92 ?_
 repeat'(first|refine M.gw ?_|refine M.c2 (h1) ?_|fail)
 refine AW.range 2 (fun m=>True)
  (fun m=>([(1,.ptr 0 0),(4,.i (1+(([a,b].take m).map Tm.size).sum:Nat)),(17,.s .tm [a,b]),(18,.i 2),(19,.i m)],⟨1,[(0,.var (Fm.mk 1 (.mk 0 []) [a,b] []).view)]⟩))
  (by omega) (fun m=>rfl) (fun m=>rfl) rfl trivial (M.W [some 0]) ?_ ?_
 ·intro m hm _
  have hm':m=0∨m=1:=by omega
  rcases hm' with rfl|rfl
  ·have e0:(([a,b].take 0).map Tm.size).sum=0:=rfl
   repeat'(first|refine M.gw ?_|refine M.c2 (ca) ?_|fail)
   exact⟨rfl,trivial,(M.W [some 0])⟩
  ·have e0:(([a,b].take 1).map Tm.size).sum=a.size:=by simp
   repeat'(first|refine M.gw ?_|refine M.c2 (cb) ?_|fail)
   exact⟨rfl,trivial,(M.W [some 0] (hf:=(by(repeat'(first|exact trivial|refine And.intro ?_ ?_|refine⟨_,U,_,U,?_⟩|exact VLe.refl _|exact VLe.of_eq (by simp[Sto.upd,Int.add_assoc])));done)))⟩
 ·intro _
  repeat'(first|refine M.gw ?_|fail)
  refine AW.range 0 (fun m=>True)
   (fun m=>([(1,.ptr 0 0),(4,.i (1+(a.size+b.size):Nat)),(35,.s .fm []),(36,.i 0),(37,.i m)],⟨1,[(0,.var (Fm.mk 1 (.mk 0 []) [a,b] []).view)]⟩))
   (by omega) (fun m=>rfl) (fun m=>rfl) rfl trivial ?_ ?_ ?_
  ·exact (M.W [some 0])
  ·intro m hm _;omega
  ·intro _
   repeat'(first|refine M.gw ?_|fail)
   rfl
theorem checkEq_c(a b:Tm)(ha:a.shape=true)(hb:b.shape=true)(hz:a.size+b.size≤4095):PC E 28 [.agg (eqF a b).view] (.i 0):=by
 have h1:=nodesEq_c a b ha hb (by omega)
 have h2:PC E 67 [.agg (eqF a b).view] (.tup [.i (1+(a.size+b.size):Nat),.i 0]):=by
  refine M.F Tryz.func67 ?_
  repeat'(first|refine M.gw ?_|refine M.c2 (h1) ?_|refine M.zb ?_|refine M.cs ?_ ?_<;>intro h|fail)
  ·exfalso;simp at h;omega
  ·rfl
 refine M.F Tryz.func28 ?_
 repeat'(first|refine M.gw ?_|refine M.c2 (h2) ?_|fail)
 rfl
def pr0:Tm:= .mk 10 0 (.mk 0 []) [.mk 4 0 (.mk 0 []) [],.mk 7 0 (.mk 0 []) []]
def fst0:Tm:= .mk 11 0 (.mk 0 []) [pr0]
def zer0:Tm:= .mk 4 0 (.mk 0 []) []
def refl0:Pf:= .mk 18 0 (.mk 0 []) [fst0] [] []
theorem fst0_inf:fst0.inf []=(natT,0):=by decide
theorem fst0_red:Red fst0 zer0 1:= .step (u:=zer0) (by decide) (.done (by decide))
theorem typesSame_c(x y:Ty)(h:x.size<1099511627776):PC E 27 [.agg x.view,.agg y.view] (.bool (decide (x=y))):=by
 have h1:=sameTy2_c _ x y (Nat.le_refl _) h
 refine M.F Tryz.func27 ?_
 repeat'(first|refine M.gw ?_|refine M.c2 (h1) ?_|fail)
 rfl
theorem equation0_c:PC E 15 [.agg fst0.view] (.tup [.agg (eqF fst0 zer0).view,.agg refl0.view,.i 0]):=by
 have h1:=termsTypeOf_c [] fst0 (by decide) (by decide)
 rw[show typeOf [] fst0=(natT,0) by decide] at h1
 have h2:PC E 27 [.agg natT.view,.agg (Ty.mk 1 []).view] (.bool true):=typesSame_c natT natT (by decide)
 have h3:=Term_c fst0 [] natT (by decide) fst0_inf (by decide) zer0 1 fst0_red
 have h4:=checkEq_c fst0 zer0 (by decide) (by decide) (by decide)
 unfold eqF at*
 refine M.F Tryz.func15 ?_
 repeat'(first|refine M.gw ?_|refine M.c2 (h1) ?_|refine M.c2 (h2) ?_|refine M.c2 (h3) ?_|refine M.c2 (h4) ?_|fail)
 rfl
theorem awake_c:PC E 4 [] (.bool true):=by
 have h1:=Small_c fst0 [] natT (by decide) fst0_inf (by decide)
 have h2:=Step_c fst0 [] natT (by decide) fst0_inf (by decide)
 have h3:=Term_c fst0 [] natT (by decide) fst0_inf (by decide) zer0 1 fst0_red
 have h4:=equation0_c
 rw[show nextT fst0=some zer0 by decide] at h2
 rw[show smallT fst0=true by decide] at h1
 simp only[Option.getD_some,Option.isSome_some] at h2
 unfold fst0 pr0 at*
 refine M.F Tryz.func4 ?_
 repeat'(first|refine M.gw ?_|refine M.c2 (h1) ?_|refine M.c2 (h2) ?_|refine M.c2 (h3) ?_|refine M.c2 (h4) ?_|fail)
 all_goals rfl
end Go.Ab
