/- A part of the proofs of this seat's statements: S24, S25, S26, S30, S31, S41, S42, S43, S44, S45. It has no conditions of its own. -/
import Derived.Test.YtkmmlocnghhpiaaGreatDoorA2
import Derived.Test.YtkmmlocnghhpiaaGreatDoorS2
import Derived.Test.YtkmmlocnghhpiaaGreatDoorD1
namespace Go.Ab
open Go Go.Proofs
set_option maxRecDepth 100000
set_option maxHeartbeats 2000000
set_option linter.all false
theorem nat_of{x:Ty}(h:x.err=0)(hk:x.kind=1):x=natT:=(Ty.eq_iff _ _).2 ⟨hk,shape_zero ((Ty.err_iff x).1 h).1 (by omega)⟩
theorem list_of{x:Ty}(h:x.err=0)(hk:x.kind=2):x=listT:=(Ty.eq_iff _ _).2 ⟨hk,shape_zero ((Ty.err_iff x).1 h).1 (by omega)⟩
theorem sz_big{x:Ty}(h:x.err=0):x.size≤64:=((Ty.err_iff x).1 h).2
theorem node4_c(i:Int)(th:Ty)(ts:List Tm):PC E 192 [.agg (Tm.mk 4 i th ts).view,.agg (pad3 [])] (.tup [.agg (ofT (rule 4 th []).1).view,.i (rule 4 th []).2]):=by
 have hp:=plain_c 4
 rw[show plainK 4=[1] from rfl] at hp
 have ho:=of_c (.mk 1 []) (by decide)
 refine M.F Tryz.func192 ?_
 repeat'(first|refine M.gw ?_|refine M.c2 (hp) ?_|fail)
 refine AW.range 0 (fun m=>True)
  (fun m=>([(2,.ptr 0 0),(3,.ptr 1 0),(4,.ptr 2 0),(6,.s .int [1]),(18,.s .int []),(19,.i ((0:Nat):Int)),(20,.i m)],⟨3,[(0,.var (Tm.mk 4 i th ts).view),(1,.var (pad3 [])),(2,.var [.i 0,.slice .nil (.t .ty []),.i 0])]⟩))
  (by omega) (fun m=>rfl) (fun m=>rfl) rfl trivial (M.W [some 0,some 1,some 2]) ?_ ?_
 ·intro m hm hP
  omega
 ·intro hP
  repeat'(first|refine M.gw ?_|refine M.c2 (ho) ?_|fail)
  have er:rule 4 th []=(natT,0):=by simp[rule]
  rw[er]
  rfl
theorem node7_c(i:Int)(th:Ty)(ts:List Tm):PC E 192 [.agg (Tm.mk 7 i th ts).view,.agg (pad3 [])] (.tup [.agg (ofT (rule 7 th []).1).view,.i (rule 7 th []).2]):=by
 have hp:=plain_c 7
 rw[show plainK 7=[2] from rfl] at hp
 have ho:=of_c (.mk 2 []) (by decide)
 refine M.F Tryz.func192 ?_
 repeat'(first|refine M.gw ?_|refine M.c2 (hp) ?_|fail)
 refine AW.range 0 (fun m=>True)
  (fun m=>([(2,.ptr 0 0),(3,.ptr 1 0),(4,.ptr 2 0),(6,.s .int [2]),(18,.s .int []),(19,.i ((0:Nat):Int)),(20,.i m)],⟨3,[(0,.var (Tm.mk 7 i th ts).view),(1,.var (pad3 [])),(2,.var [.i 0,.slice .nil (.t .ty []),.i 0])]⟩))
  (by omega) (fun m=>rfl) (fun m=>rfl) rfl trivial (M.W [some 0,some 1,some 2]) ?_ ?_
 ·intro m hm hP
  omega
 ·intro hP
  repeat'(first|refine M.gw ?_|refine M.c2 (ho) ?_|fail)
  have er:rule 7 th []=(listT,0):=by simp[rule]
  rw[er]
  rfl
theorem node13_c(i:Int)(th:Ty)(ts:List Tm):PC E 192 [.agg (Tm.mk 13 i th ts).view,.agg (pad3 [])] (.tup [.agg (ofT (rule 13 th []).1).view,.i (rule 13 th []).2]):=by
 have hp:=plain_c 13
 rw[show plainK 13=[5] from rfl] at hp
 have ho:=of_c (.mk 5 []) (by decide)
 refine M.F Tryz.func192 ?_
 repeat'(first|refine M.gw ?_|refine M.c2 (hp) ?_|fail)
 refine AW.range 0 (fun m=>True)
  (fun m=>([(2,.ptr 0 0),(3,.ptr 1 0),(4,.ptr 2 0),(6,.s .int [5]),(18,.s .int []),(19,.i ((0:Nat):Int)),(20,.i m)],⟨3,[(0,.var (Tm.mk 13 i th ts).view),(1,.var (pad3 [])),(2,.var [.i 0,.slice .nil (.t .ty []),.i 0])]⟩))
  (by omega) (fun m=>rfl) (fun m=>rfl) rfl trivial (M.W [some 0,some 1,some 2]) ?_ ?_
 ·intro m hm hP
  omega
 ·intro hP
  repeat'(first|refine M.gw ?_|refine M.c2 (ho) ?_|fail)
  have er:rule 13 th []=(unitT,0):=by simp[rule]
  rw[er]
  rfl
theorem node5_c(i:Int)(th:Ty)(ts:List Tm)(x:Ty)(ex:x.err=0):PC E 192 [.agg (Tm.mk 5 i th ts).view,.agg (pad3 [x])] (.tup [.agg (ofT (rule 5 th [x]).1).view,.i (rule 5 th [x]).2]):=by
 have hp:=plain_c 5
 rw[show plainK 5=[1,1] from rfl] at hp
 have ho:=of_c (.mk 1 []) (by decide)
 have i0:=is_c (ofT x) 1
 refine M.F Tryz.func192 ?_
 repeat'(first|refine M.gw ?_|refine M.c2 (hp) ?_|fail)
 refine AW.range 1 (fun m=>(0<m→x.kind=1))
  (fun m=>([(2,.ptr 0 0),(3,.ptr 1 0),(4,.ptr 2 0),(6,.s .int [1,1]),(18,.s .int [1]),(19,.i ((1:Nat):Int)),(20,.i m)],⟨3,[(0,.var (Tm.mk 5 i th ts).view),(1,.var (pad3 [x])),(2,.var [.i 0,.slice .nil (.t .ty []),.i 0])]⟩))
  (by omega) (fun m=>rfl) (fun m=>rfl) rfl (by simp) (M.W [some 0,some 1,some 2]) ?_ ?_
 ·intro m hm hP
  obtain rfl:m=0:=by omega
  repeat'(first|refine M.gw ?_|refine M.c2 (i0) ?_|refine M.cs ?_ ?_<;>intro h|fail)
  ·have h':¬x.kind=1:=by simpa [ofT] using h
   have e:¬x=natT:=fun hc=>h' (by rw[hc];rfl)
   have er:rule 5 th [x]=(noTy,7):=by simp[rule,e]
   rw[er]
   simp[tupV,V.wk,V.wks,constV,Sz.view,ofT,noTy,Ty.num,Ty.err,Ty.shape_eq,arT]
  ·have h':x.kind=1:=by simpa [ofT] using h
   exact⟨rfl,fun _=>h',(M.W [some 0,some 1,some 2])⟩
 ·intro hP
  repeat'(first|refine M.gw ?_|refine M.c2 (ho) ?_|fail)
  have q0:x=natT:=nat_of ex (by have:=hP;simp_all)
  have er:rule 5 th [x]=(natT,0):=by simp[rule,q0]
  rw[er]
  rfl
theorem node8_c(i:Int)(th:Ty)(ts:List Tm)(x:Ty)(ex:x.err=0)(y:Ty)(ey:y.err=0):PC E 192 [.agg (Tm.mk 8 i th ts).view,.agg (pad3 [x,y])] (.tup [.agg (ofT (rule 8 th [x,y]).1).view,.i (rule 8 th [x,y]).2]):=by
 have hp:=plain_c 8
 rw[show plainK 8=[2,1,2] from rfl] at hp
 have ho:=of_c (.mk 2 []) (by decide)
 have i0:=is_c (ofT x) 1
 have i1:=is_c (ofT y) 2
 refine M.F Tryz.func192 ?_
 repeat'(first|refine M.gw ?_|refine M.c2 (hp) ?_|fail)
 refine AW.range 2 (fun m=>(0<m→x.kind=1)∧(1<m→y.kind=2))
  (fun m=>([(2,.ptr 0 0),(3,.ptr 1 0),(4,.ptr 2 0),(6,.s .int [2,1,2]),(18,.s .int [1,2]),(19,.i ((2:Nat):Int)),(20,.i m)],⟨3,[(0,.var (Tm.mk 8 i th ts).view),(1,.var (pad3 [x,y])),(2,.var [.i 0,.slice .nil (.t .ty []),.i 0])]⟩))
  (by omega) (fun m=>rfl) (fun m=>rfl) rfl (by simp) (M.W [some 0,some 1,some 2]) ?_ ?_
 ·intro m hm hP
  by_cases hm0:m=0
  ·subst hm0
   repeat'(first|refine M.gw ?_|refine M.c2 (i0) ?_|refine M.cs ?_ ?_<;>intro h|fail)
   ·have h':¬x.kind=1:=by simpa [ofT] using h
    have e:¬x=natT:=fun hc=>h' (by rw[hc];rfl)
    have er:rule 8 th [x,y]=(noTy,7):=by simp[rule,e]
    rw[er]
    simp[tupV,V.wk,V.wks,constV,Sz.view,ofT,noTy,Ty.num,Ty.err,Ty.shape_eq,arT]
   ·have h':x.kind=1:=by simpa [ofT] using h
    exact⟨rfl,⟨by intro _;first|exact h'|(have:=hP;simp_all),by omega⟩,(M.W [some 0,some 1,some 2])⟩
  obtain rfl:m=1:=by omega
  repeat'(first|refine M.gw ?_|refine M.c2 (i1) ?_|refine M.cs ?_ ?_<;>intro h|fail)
  ·have h':¬y.kind=2:=by simpa [ofT] using h
   have e:¬y=listT:=fun hc=>h' (by rw[hc];rfl)
   have er:rule 8 th [x,y]=(noTy,7):=by simp[rule,e]
   rw[er]
   simp[tupV,V.wk,V.wks,constV,Sz.view,ofT,noTy,Ty.num,Ty.err,Ty.shape_eq,arT]
  ·have h':y.kind=2:=by simpa [ofT] using h
   exact⟨rfl,⟨by intro _;first|exact h'|(have:=hP;simp_all),by intro _;first|exact h'|(have:=hP;simp_all)⟩,(M.W [some 0,some 1,some 2])⟩
 ·intro hP
  repeat'(first|refine M.gw ?_|refine M.c2 (ho) ?_|fail)
  have q0:x=natT:=nat_of ex (by have:=hP;simp_all)
  have q1:y=listT:=list_of ey (by have:=hP;simp_all)
  have er:rule 8 th [x,y]=(listT,0):=by simp[rule,q0,q1]
  rw[er]
  rfl
theorem plainN_c(k:Int)(h:plainK k=[]):PC E 195 [.i k] (.s .int []):=by
 have:=plain_c k
 rwa [h] at this
theorem sameSz_ok(a b:Ty)(ha:a.err=0)(hb:b.err=0):PC E 197 [.agg (ofT a).view,.agg (ofT b).view] (.bool (decide (a=b))):=by
 have:=sameSz_c (ofT a) (ofT b) (by have:=sz_big ha;show a.size<_;omega)
 rw[show(ofT a).ty=a from rfl,show(ofT b).ty=b from rfl,same_ok ha hb] at this
 exact this
theorem nodes_bd{a:Ty}(h:a.err=0):0≤(ofT a).nodes∧(ofT a).nodes<1099511627776:=by
 have:=sz_big h
 simp only[ofT,num_ok h];omega
theorem node3_c(i:Int)(th:Ty)(ts:List Tm)(x:Ty)(ex:x.err=0)(y:Ty)(ey:y.err=0):PC E 192 [.agg (Tm.mk 3 i th ts).view,.agg (pad3 [x,y])] (.tup [.agg (ofT (rule 3 th [x,y]).1).view,.i (rule 3 th [x,y]).2]):=by
 have hp:=plainN_c 3 rfl
 have hi:PC E 182 [.agg (ofT x).view,.i 4] (.bool (x.kind==4)):=is_c (ofT x) 4
 by_cases hk:x.kind=4
 ·obtain ⟨a,b,hab⟩:=Ty.args_two ((Ty.err_iff x).1 ex).1 (.inr hk)
  have hx:x=funT a b:=(Ty.eq_iff _ _).2 ⟨hk,hab⟩
  subst hx
  have ea:a.err=0:=Ty.err_args ex (by simp)
  have eb:b.err=0:=Ty.err_args ex (by simp)
  have p0:PC E 196 [.agg (ofT (funT a b)).view,.i 0] (.agg (ofT a).view):=part_c (ofT (funT a b)) 0 (by simp[ofT]) (by have:=sz_big ex;show(funT a b).size<_;omega)
  have p1:PC E 196 [.agg (ofT (funT a b)).view,.i 1] (.agg (ofT b).view):=part_c (ofT (funT a b)) 1 (by simp[ofT]) (by have:=sz_big ex;show(funT a b).size<_;omega)
  have sm:=sameSz_ok a y ea ey
  rw[show(Ty.kind (funT a b)==4)=true from rfl] at hi
  refine M.F Tryz.func192 ?_
  repeat'(first|refine M.gw ?_|refine M.c2 (hp) ?_|refine M.c2 (hi) ?_|refine M.c2 (p0) ?_|refine M.c2 (p1) ?_|refine M.c2 (sm) ?_|refine M.bl ?_|refine M.cs ?_ ?_<;>intro h|fail)
  ·have h':¬a=y:=by simpa using h
   have er:rule 3 th [funT a b,y]=(noTy,7):=by simp[rule,h']
   rw[er];rfl
  ·have h':a=y:=by simpa using h
   have er:rule 3 th [funT a b,y]=(b,0):=by simp[rule,h']
   rw[er]
   simp[tupV,V.wk,V.wks,constV,Sz.view]
 ·have hi:PC E 182 [.agg (ofT x).view,.i 4] (.bool false):=by rw[show(x.kind==4)=false by simpa using hk] at hi;exact hi
  have er:rule 3 th [x,y]=(noTy,7):=by simp[rule,hk]
  rw[er]
  refine M.F Tryz.func192 ?_
  repeat'(first|refine M.gw ?_|refine M.c2 (hp) ?_|refine M.c2 (hi) ?_|refine M.bl ?_|fail)
  rfl
theorem node10_c(i:Int)(th:Ty)(ts:List Tm)(x:Ty)(ex:x.err=0)(y:Ty)(ey:y.err=0):PC E 192 [.agg (Tm.mk 10 i th ts).view,.agg (pad3 [x,y])] (.tup [.agg (ofT (rule 10 th [x,y]).1).view,.i (rule 10 th [x,y]).2]):=by
 have hp:=plainN_c 10 rfl
 have hj:=join_c 3 (ofT x) (ofT y) (nodes_bd ex) (nodes_bd ey)
 rw[join_ok (.inl rfl) ex ey] at hj
 have er:rule 10 th [x,y]=okT (.mk 3 [x,y]):=by simp[rule,twoT]
 rw[er]
 refine M.F Tryz.func192 ?_
 repeat'(first|refine M.gw ?_|refine M.c2 (hp) ?_|refine M.c2 (hj) ?_|refine M.bl ?_|fail)
 simp[tupV,V.wk,V.wks,constV,Sz.view]
theorem node11_c(i:Int)(th:Ty)(ts:List Tm)(x:Ty)(ex:x.err=0):PC E 192 [.agg (Tm.mk 11 i th ts).view,.agg (pad3 [x])] (.tup [.agg (ofT (rule 11 th [x]).1).view,.i (rule 11 th [x]).2]):=by
 have hp:=plainN_c 11 rfl
 have hi:PC E 182 [.agg (ofT x).view,.i 3] (.bool (x.kind==3)):=is_c (ofT x) 3
 by_cases hk:x.kind=3
 ·obtain ⟨a,b,hab⟩:=Ty.args_two ((Ty.err_iff x).1 ex).1 (.inl hk)
  have hx:x=twoT a b:=(Ty.eq_iff _ _).2 ⟨hk,hab⟩
  subst hx
  have p0:PC E 196 [.agg (ofT (twoT a b)).view,.i 0] (.agg (ofT a).view):=part_c (ofT (twoT a b)) 0 (by simp[ofT]) (by have:=sz_big ex;show(twoT a b).size<_;omega)
  rw[show(Ty.kind (twoT a b)==3)=true from rfl] at hi
  have er:rule 11 th [twoT a b]=(a,0):=by simp[rule]
  rw[er]
  refine M.F Tryz.func192 ?_
  repeat'(first|refine M.gw ?_|refine M.c2 (hp) ?_|refine M.c2 (hi) ?_|refine M.c2 (p0) ?_|refine M.bl ?_|fail)
  simp[tupV,V.wk,V.wks,constV,Sz.view]
 ·have hi:PC E 182 [.agg (ofT x).view,.i 3] (.bool false):=by rw[show(x.kind==3)=false by simpa using hk] at hi;exact hi
  have er:rule 11 th [x]=(noTy,7):=by simp[rule,hk]
  rw[er]
  refine M.F Tryz.func192 ?_
  repeat'(first|refine M.gw ?_|refine M.c2 (hp) ?_|refine M.c2 (hi) ?_|refine M.bl ?_|fail)
  rfl
theorem node12_c(i:Int)(th:Ty)(ts:List Tm)(x:Ty)(ex:x.err=0):PC E 192 [.agg (Tm.mk 12 i th ts).view,.agg (pad3 [x])] (.tup [.agg (ofT (rule 12 th [x]).1).view,.i (rule 12 th [x]).2]):=by
 have hp:=plainN_c 12 rfl
 have hi:PC E 182 [.agg (ofT x).view,.i 3] (.bool (x.kind==3)):=is_c (ofT x) 3
 by_cases hk:x.kind=3
 ·obtain ⟨a,b,hab⟩:=Ty.args_two ((Ty.err_iff x).1 ex).1 (.inl hk)
  have hx:x=twoT a b:=(Ty.eq_iff _ _).2 ⟨hk,hab⟩
  subst hx
  have p0:PC E 196 [.agg (ofT (twoT a b)).view,.i 1] (.agg (ofT b).view):=part_c (ofT (twoT a b)) 1 (by simp[ofT]) (by have:=sz_big ex;show(twoT a b).size<_;omega)
  rw[show(Ty.kind (twoT a b)==3)=true from rfl] at hi
  have er:rule 12 th [twoT a b]=(b,0):=by simp[rule]
  rw[er]
  refine M.F Tryz.func192 ?_
  repeat'(first|refine M.gw ?_|refine M.c2 (hp) ?_|refine M.c2 (hi) ?_|refine M.c2 (p0) ?_|refine M.bl ?_|fail)
  simp[tupV,V.wk,V.wks,constV,Sz.view]
 ·have hi:PC E 182 [.agg (ofT x).view,.i 3] (.bool false):=by rw[show(x.kind==3)=false by simpa using hk] at hi;exact hi
  have er:rule 12 th [x]=(noTy,7):=by simp[rule,hk]
  rw[er]
  refine M.F Tryz.func192 ?_
  repeat'(first|refine M.gw ?_|refine M.c2 (hp) ?_|refine M.c2 (hi) ?_|refine M.bl ?_|fail)
  rfl
theorem node6_c(i:Int)(th:Ty)(ts:List Tm)(eh:th.err=0)(x:Ty)(ex:x.err=0)(y:Ty)(ey:y.err=0)(z:Ty)(ez:z.err=0):PC E 192 [.agg (Tm.mk 6 i th ts).view,.agg (pad3 [x,y,z])] (.tup [.agg (ofT (rule 6 th [x,y,z]).1).view,.i (rule 6 th [x,y,z]).2]):=by
 have hp:=plainN_c 6 rfl
 have ho:=of_c th (by have:=sz_big eh;omega)
 have sm:=sameSz_ok x th ex eh
 have hst:=step_c (Tm.mk 6 i th ts)
 rw[show stepT (Tm.mk 6 i th ts)=funT natT (funT th th) from rfl] at hst
 have s2:=sameTy2_c _ y (funT natT (funT th th)) (Nat.le_refl _) (by have:=sz_big ey;omega)
 have hi:PC E 182 [.agg (ofT z).view,.i 1] (.bool (z.kind==1)):=is_c (ofT z) 1
 have hz:(z.kind==1)=decide (z=natT):=by
  by_cases h:z=natT
  ·subst h;rfl
  ·have:¬z.kind=1:=fun hk=>h (nat_of ez hk)
   rw[decide_eq_false h];simpa using this
 rw[hz] at hi
 refine M.F Tryz.func192 ?_
 repeat'(first|refine M.gw ?_|refine M.c2 (hp) ?_|refine M.c2 (ho) ?_|refine M.c2 (sm) ?_|refine M.c2 (hst) ?_|refine M.c2 (s2) ?_|refine M.c2 (hi) ?_|refine M.gs ?_ ?_<;>intro h|refine M.bl ?_|refine M.cs ?_ ?_<;>intro h|fail)
 all_goals
  clear hp ho sm hst s2 hi hz
  by_cases p1:x=th<;>by_cases p2:y=funT natT (funT th th)<;>by_cases p3:z=natT<;>first
   |(exfalso;simp[p1,p2,p3] at*;done)
   |(have er:rule 6 th [x,y,z]=(noTy,7):=by simp[rule,p1,p2,p3]
     rw[er];rfl)
   |(have er:rule 6 th [x,y,z]=(th,0):=by simp[rule,p1,p2,p3]
     rw[er];simp[tupV,V.wk,V.wks,constV,Sz.view];done)
theorem node9_c(i:Int)(th:Ty)(ts:List Tm)(eh:th.err=0)(x:Ty)(ex:x.err=0)(y:Ty)(ey:y.err=0)(z:Ty)(ez:z.err=0):PC E 192 [.agg (Tm.mk 9 i th ts).view,.agg (pad3 [x,y,z])] (.tup [.agg (ofT (rule 9 th [x,y,z]).1).view,.i (rule 9 th [x,y,z]).2]):=by
 have hp:=plainN_c 9 rfl
 have ho:=of_c th (by have:=sz_big eh;omega)
 have sm:=sameSz_ok x th ex eh
 have hst:=step_c (Tm.mk 9 i th ts)
 rw[show stepT (Tm.mk 9 i th ts)=funT natT (funT listT (funT th th)) from rfl] at hst
 have s2:=sameTy2_c _ y (funT natT (funT listT (funT th th))) (Nat.le_refl _) (by have:=sz_big ey;omega)
 have hi:PC E 182 [.agg (ofT z).view,.i 2] (.bool (z.kind==2)):=is_c (ofT z) 2
 have hz:(z.kind==2)=decide (z=listT):=by
  by_cases h:z=listT
  ·subst h;rfl
  ·have:¬z.kind=2:=fun hk=>h (list_of ez hk)
   rw[decide_eq_false h];simpa using this
 rw[hz] at hi
 refine M.F Tryz.func192 ?_
 repeat'(first|refine M.gw ?_|refine M.c2 (hp) ?_|refine M.c2 (ho) ?_|refine M.c2 (sm) ?_|refine M.c2 (hst) ?_|refine M.c2 (s2) ?_|refine M.c2 (hi) ?_|refine M.gs ?_ ?_<;>intro h|refine M.bl ?_|refine M.cs ?_ ?_<;>intro h|fail)
 all_goals
  clear hp ho sm hst s2 hi hz
  by_cases p1:x=th<;>by_cases p2:y=funT natT (funT listT (funT th th))<;>by_cases p3:z=listT<;>first
   |(exfalso;simp[p1,p2,p3] at*;done)
   |(have er:rule 9 th [x,y,z]=(noTy,7):=by simp[rule,p1,p2,p3]
     rw[er];rfl)
   |(have er:rule 9 th [x,y,z]=(th,0):=by simp[rule,p1,p2,p3]
     rw[er];simp[tupV,V.wk,V.wks,constV,Sz.view];done)
theorem node_c(t:Tm)(L:List Ty)(hsh:t.shape=true)(k1:t.kind≠1)(k2:t.kind≠2)(hl:L.length=t.args.length)(hg:∀x∈L,x.err=0):PC E 192 [.agg t.view,.agg (pad3 L)] (.tup [.agg (ofT (rule t.kind t.ty L).1).view,.i (rule t.kind t.ty L).2]):=by
 have hak:=arK_len hsh
 have hty:=shape_ty hsh
 rw[←hl] at hak
 obtain⟨k,i,th,xs⟩:=t
 simp only[Tm.kind_mk,Tm.ty_mk] at*
 rcases arK_cases hak with⟨hn,hk⟩|⟨hn,hk⟩|⟨hn,hk⟩|⟨hn,hk⟩
 ·have hL:=List.eq_nil_of_length_eq_zero hn
  subst hL
  rcases hk with rfl|rfl|rfl|rfl
  ·exact absurd rfl k1
  ·exact node4_c i th xs
  ·exact node7_c i th xs
  ·exact node13_c i th xs
 ·obtain ⟨x,hL⟩:=len_1 hn
  subst hL
  have ex:=hg x (by simp)
  rcases hk with rfl|rfl|rfl|rfl
  ·exact absurd rfl k2
  ·exact node5_c i th xs x ex
  ·exact node11_c i th xs x ex
  ·exact node12_c i th xs x ex
 ·obtain ⟨x,y,hL⟩:=len_2 hn
  subst hL
  have ex:=hg x (by simp)
  have ey:=hg y (by simp)
  rcases hk with rfl|rfl|rfl
  ·exact node3_c i th xs x ex y ey
  ·exact node8_c i th xs x ex y ey
  ·exact node10_c i th xs x ex y ey
 ·obtain ⟨x,y,z,hL⟩:=len_3 hn
  subst hL
  have ex:=hg x (by simp)
  have ey:=hg y (by simp)
  have ez:=hg z (by simp)
  rcases hk with rfl|rfl
  ·exact node6_c i th xs (hty rfl) x ex y ey z ez
  ·exact node9_c i th xs (hty rfl) x ex y ey z ez
end Go.Ab
namespace Go.Ab
open Go Go.Proofs
set_option maxRecDepth 100000
set_option maxHeartbeats 4000000
set_option linter.all false
abbrev CT(t:Tm)(g:List Ty):Prop:=PC E 181 [.s .sz (g.map ofT),.agg t.view] (.tup [.agg (ofT (t.inf g).1).view,.i (t.inf g).2])
theorem ct1(t:Tm)(g:List Ty)(hsh:t.shape=true)(hgn:g.length<274877906944)(k1:t.kind=1):CT t g:=by
 have hix:=shape_index hsh
 have hinf:=Tm.inf_eq g t
 rw[if_pos k1] at hinf
 refine M.F Tryz.func181 ?_
 by_cases hlt:t.index≥g.length
 ·rw [if_pos hlt] at hinf
  repeat'(first|refine M.gw ?_|refine M.cs ?_ ?_<;>intro h|fail)
  all_goals first
   |(exfalso;simp_all;done)
   |(rw[hinf];rfl)
   |(exfalso;simp at h;omega)
 ·rw [if_neg hlt] at hinf
  have h0:g.length-1-t.index.toNat<g.length:=by omega
  have h1:g.length-1-t.index.toNat<(g.map ofT).length:=by simpa using h0
  have eg:(g.map ofT)[g.length-1-t.index.toNat]=ofT g[g.length-1-t.index.toNat]:=by simp
  rw[at0_lt h0] at hinf
  have hl:(g.map ofT).length=g.length:=by simp
  repeat'(first|refine M.gw ?_|refine M.cs ?_ ?_<;>intro h|fail)
  all_goals first
   |(exfalso;simp_all;done)
   |(exfalso;simp at h;omega)
   |skip
  refine L.ixt (g.length-1-t.index.toNat) rfl rfl rfl rfl (by simp only[hl];omega) rfl rfl h1 ?_
  rw[eg]
  repeat'(first|refine M.gw ?_|fail)
  rw[hinf]
  simp[tupV,V.wk,V.wks,constV,Sz.view,EC.view]
theorem ct2(i:Int)(th:Ty)(a:Tm)(g:List Ty)(hsh:(Tm.mk 2 i th [a]).shape=true)(hg:∀x∈g,x.err=0)(hgn:g.length<274877906944)(ih:CT a (g++[th])):CT (Tm.mk 2 i th [a]) g:=by
 have hth:th.err=0:=shape_ty hsh rfl
 have hg':∀x∈g++[th],x.err=0:=fun x hx=>by
  rcases List.mem_append.1 hx with hx|hx
  ·exact hg x hx
  ·simp at hx;subst hx;exact hth
 have hgood:=Tm.inf_good a (g++[th]) (shape_args hsh a (by simp)) hg'
 have hinf:(Tm.mk 2 i th [a]).inf g=if(a.inf (g++[th])).2≠0 then(noTy,(a.inf (g++[th])).2) else okT (funT th (a.inf (g++[th])).1):=by
  rw[Tm.inf_eq]
  simp only[Tm.kind_mk,Tm.args_mk,Tm.ty_mk,Tm.infs,ne_eq]
  by_cases h:(a.inf (g++[th])).2=0<;>simp[h]
 have hc:PC E 181 [.s .sz (g.map ofT++[ofT th]),.agg a.view] (.tup [.agg (ofT (a.inf (g++[th])).1).view,.i (a.inf (g++[th])).2]):=by
  have:=ih
  unfold CT at this
  rwa [List.map_append] at this
 have ho:=of_c th (by have:=sz_big hth;omega)
 have hj:(a.inf (g++[th])).2=0→PC E 191 _ _:=fun h=>join_c 4 (ofT th) (ofT (a.inf (g++[th])).1) (nodes_bd hth) (nodes_bd (hgood h))
 refine M.F Tryz.func181 ?_
 repeat'(first|refine M.gw ?_|refine M.c2 (ho) ?_|refine M.c2 (hc) ?_|refine M.c2 (hj (by simpa using h)) ?_|refine M.cs ?_ ?_<;>intro h|fail)
 ·have h':(a.inf (g++[th])).2≠0:=by simpa using h
  rw[hinf,if_pos h'];rfl
 ·have h':(a.inf (g++[th])).2=0:=by simpa using h
  rw[hinf,if_neg (by simp[h']),show okT (funT th (a.inf (g++[th])).1)=okT (.mk 4 [th,(a.inf (g++[th])).1]) from rfl,join_ok (.inr rfl) hth (hgood h')]
  simp[tupV,V.wk,V.wks,constV,Sz.view]
theorem cn0(k i:Int)(th:Ty)(g:List Ty)(hsh:(Tm.mk k i th []).shape=true)(k1:k≠1)(k2:k≠2)(hg:∀x∈g,x.err=0):CT (Tm.mk k i th []) g:=by
 have hinf:=Tm.inf_eq g (Tm.mk k i th [])
 simp only[Tm.kind_mk,Tm.ty_mk,Tm.args_mk,k1,k2,if_false] at hinf
 have hnode:PC E 192 [.agg (Tm.mk k i th []).view,.agg (pad3 [])] (.tup [.agg (ofT (rule k th []).1).view,.i (rule k th []).2]):=node_c (Tm.mk k i th []) [] hsh k1 k2 rfl (by intro x hx;simp at hx)
 refine M.F Tryz.func181 ?_
 repeat'(first|refine M.gw ?_|refine M.cs ?_ ?_<;>intro h|fail)
 all_goals first
  |(exfalso;simp_all;done)
  |skip
 refine AW.range 0 (fun m=>True)
  (fun m=>([(0,.s .sz (g.map ofT)),(3,.ptr 0 0),(4,.ptr 1 0),(9,.ptr 2 0),(65,.s .tm []),(66,.i ((0:Nat):Int)),(67,.i m)],⟨3,[(0,.var (Tm.mk k i th []).view),(1,.var [.i 0,.slice .nil (.t .ty []),.i 0]),(2,.var (pad3 []))]⟩))
  (by omega) (fun m=>rfl) (fun m=>rfl) rfl trivial (M.W [some 0,some 1,some 2]) ?_ ?_
 ·intro m hm hP
  omega
 ·intro hP
  have er:(Tm.mk k i th []).inf g=rule k th []:=by rw[hinf];simp[Tm.infs]
  have hnode:=hnode
  repeat'(first|refine M.gw ?_|refine M.c2 (hnode) ?_|fail)
  rw[er]
  simp[tupV,V.wk,V.wks,constV,Sz.view]
theorem cn1(k i:Int)(th:Ty)(a:Tm)(g:List Ty)(hsh:(Tm.mk k i th [a]).shape=true)(k1:k≠1)(k2:k≠2)(hg:∀x∈g,x.err=0)(ia:CT a g):CT (Tm.mk k i th [a]) g:=by
 have hinf:=Tm.inf_eq g (Tm.mk k i th [a])
 simp only[Tm.kind_mk,Tm.ty_mk,Tm.args_mk,k1,k2,if_false] at hinf
 have ga:=Tm.inf_good a g (shape_args hsh a (by simp)) hg
 have hnode:(a.inf g).2=0→PC E 192 [.agg (Tm.mk k i th [a]).view,.agg (pad3 [(a.inf g).1])] (.tup [.agg (ofT (rule k th [(a.inf g).1]).1).view,.i (rule k th [(a.inf g).1]).2]):=fun ha=>node_c (Tm.mk k i th [a]) [(a.inf g).1] hsh k1 k2 rfl (by intro x hx;simp at hx;subst hx;exact ga ha)
 refine M.F Tryz.func181 ?_
 repeat'(first|refine M.gw ?_|refine M.cs ?_ ?_<;>intro h|fail)
 all_goals first
  |(exfalso;simp_all;done)
  |skip
 refine AW.range 1 (fun m=>(0<m→(a.inf g).2=0))
  (fun m=>([(0,.s .sz (g.map ofT)),(3,.ptr 0 0),(4,.ptr 1 0),(9,.ptr 2 0),(65,.s .tm [a]),(66,.i ((1:Nat):Int)),(67,.i m)],⟨3,[(0,.var (Tm.mk k i th [a]).view),(1,.var [.i 0,.slice .nil (.t .ty []),.i 0]),(2,.var (if m=0 then pad3 [] else pad3 [(a.inf g).1]))]⟩))
  (by omega) (fun m=>rfl) (fun m=>rfl) rfl (by simp) (M.W [some 0,some 1,some 2]) ?_ ?_
 ·intro m hm hP
  obtain rfl:m=0:=by omega
  repeat'(first|refine M.gw ?_|refine M.c2 (ia) ?_|refine M.cs ?_ ?_<;>intro h|fail)
  ·have h':(a.inf g).2≠0:=by simpa using h
   have er:(Tm.mk k i th [a]).inf g=(noTy,(a.inf g).2):=by rw[hinf];simp[Tm.infs,h']
   rw[er];rfl
  ·have h':(a.inf g).2=0:=by simpa using h
   exact⟨rfl,fun _=>h',(M.W [some 0,some 1,some 2])⟩
 ·intro hP
  have za:(a.inf g).2=0:=by have:=hP;simp_all
  have er:(Tm.mk k i th [a]).inf g=rule k th [(a.inf g).1]:=by rw[hinf];simp[Tm.infs,za]
  have hnode:=hnode za
  repeat'(first|refine M.gw ?_|refine M.c2 (hnode) ?_|fail)
  rw[er]
  simp[tupV,V.wk,V.wks,constV,Sz.view]
theorem cn2(k i:Int)(th:Ty)(a:Tm)(b:Tm)(g:List Ty)(hsh:(Tm.mk k i th [a,b]).shape=true)(k1:k≠1)(k2:k≠2)(hg:∀x∈g,x.err=0)(ia:CT a g)(ib:CT b g):CT (Tm.mk k i th [a,b]) g:=by
 have hinf:=Tm.inf_eq g (Tm.mk k i th [a,b])
 simp only[Tm.kind_mk,Tm.ty_mk,Tm.args_mk,k1,k2,if_false] at hinf
 have ga:=Tm.inf_good a g (shape_args hsh a (by simp)) hg
 have gb:=Tm.inf_good b g (shape_args hsh b (by simp)) hg
 have hnode:(a.inf g).2=0→(b.inf g).2=0→PC E 192 [.agg (Tm.mk k i th [a,b]).view,.agg (pad3 [(a.inf g).1,(b.inf g).1])] (.tup [.agg (ofT (rule k th [(a.inf g).1,(b.inf g).1]).1).view,.i (rule k th [(a.inf g).1,(b.inf g).1]).2]):=fun ha hb=>node_c (Tm.mk k i th [a,b]) [(a.inf g).1,(b.inf g).1] hsh k1 k2 rfl (by intro x hx;simp at hx;rcases hx with rfl|rfl<;>first|exact ga ha|exact gb hb)
 refine M.F Tryz.func181 ?_
 repeat'(first|refine M.gw ?_|refine M.cs ?_ ?_<;>intro h|fail)
 all_goals first
  |(exfalso;simp_all;done)
  |skip
 refine AW.range 2 (fun m=>(0<m→(a.inf g).2=0)∧(1<m→(b.inf g).2=0))
  (fun m=>([(0,.s .sz (g.map ofT)),(3,.ptr 0 0),(4,.ptr 1 0),(9,.ptr 2 0),(65,.s .tm [a,b]),(66,.i ((2:Nat):Int)),(67,.i m)],⟨3,[(0,.var (Tm.mk k i th [a,b]).view),(1,.var [.i 0,.slice .nil (.t .ty []),.i 0]),(2,.var (if m=0 then pad3 [] else if m=1 then pad3 [(a.inf g).1] else pad3 [(a.inf g).1,(b.inf g).1]))]⟩))
  (by omega) (fun m=>rfl) (fun m=>rfl) rfl (by simp) (M.W [some 0,some 1,some 2]) ?_ ?_
 ·intro m hm hP
  by_cases hm0:m=0
  ·subst hm0
   repeat'(first|refine M.gw ?_|refine M.c2 (ia) ?_|refine M.cs ?_ ?_<;>intro h|fail)
   ·have h':(a.inf g).2≠0:=by simpa using h
    have er:(Tm.mk k i th [a,b]).inf g=(noTy,(a.inf g).2):=by rw[hinf];simp[Tm.infs,h']
    rw[er];rfl
   ·have h':(a.inf g).2=0:=by simpa using h
    exact⟨rfl,⟨by intro _;first|exact h'|(have:=hP;simp_all),by omega⟩,(M.W [some 0,some 1,some 2])⟩
  obtain rfl:m=1:=by omega
  repeat'(first|refine M.gw ?_|refine M.c2 (ib) ?_|refine M.cs ?_ ?_<;>intro h|fail)
  ·have h':(b.inf g).2≠0:=by simpa using h
   have za:(a.inf g).2=0:=by have:=hP;simp_all
   have er:(Tm.mk k i th [a,b]).inf g=(noTy,(b.inf g).2):=by rw[hinf];simp[Tm.infs,h',za]
   rw[er];rfl
  ·have h':(b.inf g).2=0:=by simpa using h
   exact⟨rfl,⟨by intro _;first|exact h'|(have:=hP;simp_all),by intro _;first|exact h'|(have:=hP;simp_all)⟩,(M.W [some 0,some 1,some 2])⟩
 ·intro hP
  have za:(a.inf g).2=0:=by have:=hP;simp_all
  have zb:(b.inf g).2=0:=by have:=hP;simp_all
  have er:(Tm.mk k i th [a,b]).inf g=rule k th [(a.inf g).1,(b.inf g).1]:=by rw[hinf];simp[Tm.infs,za,zb]
  have hnode:=hnode za zb
  repeat'(first|refine M.gw ?_|refine M.c2 (hnode) ?_|fail)
  rw[er]
  simp[tupV,V.wk,V.wks,constV,Sz.view]
theorem cn3(k i:Int)(th:Ty)(a:Tm)(b:Tm)(c:Tm)(g:List Ty)(hsh:(Tm.mk k i th [a,b,c]).shape=true)(k1:k≠1)(k2:k≠2)(hg:∀x∈g,x.err=0)(ia:CT a g)(ib:CT b g)(ic:CT c g):CT (Tm.mk k i th [a,b,c]) g:=by
 have hinf:=Tm.inf_eq g (Tm.mk k i th [a,b,c])
 simp only[Tm.kind_mk,Tm.ty_mk,Tm.args_mk,k1,k2,if_false] at hinf
 have ga:=Tm.inf_good a g (shape_args hsh a (by simp)) hg
 have gb:=Tm.inf_good b g (shape_args hsh b (by simp)) hg
 have gc:=Tm.inf_good c g (shape_args hsh c (by simp)) hg
 have hnode:(a.inf g).2=0→(b.inf g).2=0→(c.inf g).2=0→PC E 192 [.agg (Tm.mk k i th [a,b,c]).view,.agg (pad3 [(a.inf g).1,(b.inf g).1,(c.inf g).1])] (.tup [.agg (ofT (rule k th [(a.inf g).1,(b.inf g).1,(c.inf g).1]).1).view,.i (rule k th [(a.inf g).1,(b.inf g).1,(c.inf g).1]).2]):=fun ha hb hc=>node_c (Tm.mk k i th [a,b,c]) [(a.inf g).1,(b.inf g).1,(c.inf g).1] hsh k1 k2 rfl (by intro x hx;simp at hx;rcases hx with rfl|rfl|rfl<;>first|exact ga ha|exact gb hb|exact gc hc)
 refine M.F Tryz.func181 ?_
 repeat'(first|refine M.gw ?_|refine M.cs ?_ ?_<;>intro h|fail)
 all_goals first
  |(exfalso;simp_all;done)
  |skip
 refine AW.range 3 (fun m=>(0<m→(a.inf g).2=0)∧(1<m→(b.inf g).2=0)∧(2<m→(c.inf g).2=0))
  (fun m=>([(0,.s .sz (g.map ofT)),(3,.ptr 0 0),(4,.ptr 1 0),(9,.ptr 2 0),(65,.s .tm [a,b,c]),(66,.i ((3:Nat):Int)),(67,.i m)],⟨3,[(0,.var (Tm.mk k i th [a,b,c]).view),(1,.var [.i 0,.slice .nil (.t .ty []),.i 0]),(2,.var (if m=0 then pad3 [] else if m=1 then pad3 [(a.inf g).1] else if m=2 then pad3 [(a.inf g).1,(b.inf g).1] else pad3 [(a.inf g).1,(b.inf g).1,(c.inf g).1]))]⟩))
  (by omega) (fun m=>rfl) (fun m=>rfl) rfl (by simp) (M.W [some 0,some 1,some 2]) ?_ ?_
 ·intro m hm hP
  by_cases hm0:m=0
  ·subst hm0
   repeat'(first|refine M.gw ?_|refine M.c2 (ia) ?_|refine M.cs ?_ ?_<;>intro h|fail)
   ·have h':(a.inf g).2≠0:=by simpa using h
    have er:(Tm.mk k i th [a,b,c]).inf g=(noTy,(a.inf g).2):=by rw[hinf];simp[Tm.infs,h']
    rw[er];rfl
   ·have h':(a.inf g).2=0:=by simpa using h
    exact⟨rfl,⟨by intro _;first|exact h'|(have:=hP;simp_all),by omega,by omega⟩,(M.W [some 0,some 1,some 2])⟩
  by_cases hm1:m=1
  ·subst hm1
   repeat'(first|refine M.gw ?_|refine M.c2 (ib) ?_|refine M.cs ?_ ?_<;>intro h|fail)
   ·have h':(b.inf g).2≠0:=by simpa using h
    have za:(a.inf g).2=0:=by have:=hP;simp_all
    have er:(Tm.mk k i th [a,b,c]).inf g=(noTy,(b.inf g).2):=by rw[hinf];simp[Tm.infs,h',za]
    rw[er];rfl
   ·have h':(b.inf g).2=0:=by simpa using h
    exact⟨rfl,⟨by intro _;first|exact h'|(have:=hP;simp_all),by intro _;first|exact h'|(have:=hP;simp_all),by omega⟩,(M.W [some 0,some 1,some 2])⟩
  obtain rfl:m=2:=by omega
  repeat'(first|refine M.gw ?_|refine M.c2 (ic) ?_|refine M.cs ?_ ?_<;>intro h|fail)
  ·have h':(c.inf g).2≠0:=by simpa using h
   have za:(a.inf g).2=0:=by have:=hP;simp_all
   have zb:(b.inf g).2=0:=by have:=hP;simp_all
   have er:(Tm.mk k i th [a,b,c]).inf g=(noTy,(c.inf g).2):=by rw[hinf];simp[Tm.infs,h',za,zb]
   rw[er];rfl
  ·have h':(c.inf g).2=0:=by simpa using h
   exact⟨rfl,⟨by intro _;first|exact h'|(have:=hP;simp_all),by intro _;first|exact h'|(have:=hP;simp_all),by intro _;first|exact h'|(have:=hP;simp_all)⟩,(M.W [some 0,some 1,some 2])⟩
 ·intro hP
  have za:(a.inf g).2=0:=by have:=hP;simp_all
  have zb:(b.inf g).2=0:=by have:=hP;simp_all
  have zc:(c.inf g).2=0:=by have:=hP;simp_all
  have er:(Tm.mk k i th [a,b,c]).inf g=rule k th [(a.inf g).1,(b.inf g).1,(c.inf g).1]:=by rw[hinf];simp[Tm.infs,za,zb,zc]
  have hnode:=hnode za zb zc
  repeat'(first|refine M.gw ?_|refine M.c2 (hnode) ?_|fail)
  rw[er]
  simp[tupV,V.wk,V.wks,constV,Sz.view]
theorem ctypeOf_c:∀(n:Nat) (t:Tm) (g:List Ty),t.full≤n→t.shape=true→(∀x∈g,x.err=0)→g.length+n<274877906944→CT t g:=by
 intro n
 induction n with
 |zero=>intro t g h;have:=t.full_pos;omega
 |succ n ih=>
 intro t g hsz hsh hg hgn
 have hsz':=Tm.full_eq t
 have hak:=arK_len hsh
 have hargs:=shape_args hsh
 by_cases k1:t.kind=1
 ·exact ct1 t g hsh (by omega) k1
 have hih:∀x∈t.args,∀g':List Ty,(∀y∈g',y.err=0)→g'.length+n<274877906944→CT x g':=fun x hx g' hg' hl=>ih x g' (by have:=lsum_mem Tm.full hx;omega) (hargs x hx) hg' hl
 have hth:typedK t.kind=true→t.ty.err=0:=shape_ty hsh
 clear hsz hsz' ih
 obtain⟨k,i,th,xs⟩:=t
 simp only[Tm.kind_mk,Tm.args_mk,Tm.ty_mk] at*
 by_cases k2:k=2
 ·subst k2
  obtain⟨a,rfl⟩:=len_1 (Option.some.inj hak).symm
  refine ct2 i th a g hsh hg (by omega) (hih a (by simp) (g++[th]) ?_ (by simp;omega))
  intro x hx
  rcases List.mem_append.1 hx with hx|hx
  ·exact hg x hx
  ·simp at hx;subst hx;exact hth rfl
 ·have hx:∀x∈xs,CT x g:=fun x hx=>hih x hx g hg (by omega)
  rcases arK_cases hak with⟨hn,hk⟩|⟨hn,hk⟩|⟨hn,hk⟩|⟨hn,hk⟩
  ·have hL:=List.eq_nil_of_length_eq_zero hn
   subst hL
   exact cn0 k i th g hsh k1 k2 hg
  ·obtain ⟨a,rfl⟩:=len_1 hn
   exact cn1 k i th a g hsh k1 k2 hg (hx a (by simp))
  ·obtain ⟨a,b,rfl⟩:=len_2 hn
   exact cn2 k i th a b g hsh k1 k2 hg (hx a (by simp)) (hx b (by simp))
  ·obtain ⟨a,b,c,rfl⟩:=len_3 hn
   exact cn3 k i th a b c g hsh k1 k2 hg (hx a (by simp)) (hx b (by simp)) (hx c (by simp))
theorem tof_c(k:Int)(l:List Tm):PC E 82 [.i k,.s .tm l] (.agg (Tm.mk k 0 (.mk 0 []) l).view):=by
 refine M.F Tryz.func82 ?_
 repeat'(first|refine M.gw ?_|fail)
 simp[tupV,V.wk,V.wks,constV,Ty.view,Tm.view]
theorem ownTm_c:∀(b:Nat) (t:Tm),t.full≤b→b<1099511627776→PC E 122 [.agg t.view] (.agg t.view):=by
 intro b
 induction b with
 |zero=>intro t h;have:=t.full_pos;omega
 |succ b ih=>
 intro t hsz hb
 have hsz':=Tm.full_eq t
 have hlen:=lsum_len Tm.full Tm.full_pos t.args
 have hty:=ownTy_c _ t.ty (Nat.le_refl _) (by omega)
 refine M.F Tryz.func122 ?_
 repeat'(first|refine M.gw ?_|refine M.c2 (hty) ?_|fail)
 refine AW.range t.args.length (fun m=>True)
  (fun m=>([(1,.ptr 0 0),(2,.ptr 1 0),(3,.ptr 2 0),(15,.s .tm t.args),(16,.i t.args.length),(17,.i m)],⟨4,[(0,.var t.view),(1,.var [.i 0,.i 0,.i 0,.slice .nil (.t .ty []),.slice .nil (.t .tm [])]),(2,.var [.i t.kind,.i t.index,.i t.ty.kind,.s .ty t.ty.args,.slice (.own 3) (.t .tm (t.args.take m))]),(3,.row)]⟩))
  (by omega) (fun m=>rfl) (fun m=>rfl) rfl trivial (M.W [some 0,some 1,some 2,none]) ?_ ?_
 ·intro m hm hP
  have hs2:=lsum_mem Tm.full (List.getElem_mem hm)
  repeat'(first|refine M.gw ?_|refine M.c2 (ih _ ?_ ?_) ?_|exact M.le|exact M.lt|fail)
  exact⟨rfl,trivial,(M.W [some 0,some 1,some 2,some 5] (he:=(by(repeat'(first|exact trivial|exact Or.inr ⟨_,U,rfl⟩|refine And.intro ?_ ?_|refine⟨_,U,_,U,_,U,?_⟩|exact VLe.refl _|exact VLe.of_eq (by simp[Sto.upd,List.take_append_getElem])));done)))⟩
 ·intro hP
  repeat'(first|refine M.gw ?_|fail)
  simp[tupV,V.wk,V.wks,constV,Ty.view,Tm.view]
def lamsT(b:Tm)(l:List Ty):Tm:=l.foldr lmT b
def dflS(t:Ty):Tm:=if t.err=0 then dfl t else noTm
theorem quantifier_c(k:Int):PC E 113 [.i k] (.bool (quantK k)):=by
 refine M.F Tryz.func113 ?_
 repeat'(first|refine M.gw ?_|refine M.gs ?_ ?_<;>intro h|fail)
 all_goals(simp_all[tupV,V.wk,V.wks,constV,quantK];try omega)
theorem formed_c(f:Fm)(ht:f.ty.size<1099511627776):PC E 149 [.agg f.view] (.bool f.head):=by
 have h1:=noType_c f.ty
 have h2:=checkTy_c f.ty ht
 have hok:=Ty.ok_err f.ty
 obtain⟨k,h,ts,fs⟩:=f
 simp only[Fm.ty_mk] at*
 have hk:k=1∨k=2∨k=3∨k=4∨k=5∨k=6∨k=7∨(k≠1∧k≠2∧k≠3∧k≠4∧k≠5∧k≠6∧k≠7):=by omega
 rcases hk with rfl|rfl|rfl|rfl|rfl|rfl|rfl|hk
 ·cases hn:h.isNo with
  |false=>
   rw[hn] at h1
   refine M.F Tryz.func149 ?_
   repeat'(first|refine M.gw ?_|refine M.c2 (h1) ?_|refine M.bl ?_|fail)
   simp[tupV,V.wk,V.wks,constV,Fm.head,hn]
  |true=>
   rw[hn] at h1
   refine M.F Tryz.func149 ?_
   repeat'(first|refine M.gw ?_|refine M.c2 (h1) ?_|refine M.gs ?_ ?_<;>intro h|refine M.bl ?_|fail)
   ·have h':ts.length=2:=by simp at h;omega
    have e:((fs.length:Int)==0)=(fs.length==0):=by rw[Bool.eq_iff_iff];simp
    simp[tupV,V.wk,V.wks,constV,Fm.head,hn,h',e]
   ·have h':¬ts.length=2:=by simp at h;omega
    simp[tupV,V.wk,V.wks,constV,Fm.head,hn,h']
 all_goals first
  |(cases hn:h.isNo with
    |false=>
     rw[hn] at h1
     refine M.F Tryz.func149 ?_
     repeat'(first|refine M.gw ?_|refine M.c2 (h1) ?_|refine M.bl ?_|refine M.cs ?_ ?_<;>intro h|fail)
     simp[tupV,V.wk,V.wks,constV,Fm.head,hn]
     done
    |true=>
     rw[hn] at h1
     refine M.F Tryz.func149 ?_
     repeat'(first|refine M.gw ?_|refine M.c2 (h1) ?_|refine M.gs ?_ ?_<;>intro h|refine M.bl ?_|fail)
     ·have h':ts.length=0:=by simp at h;simp[h]
      have e:((fs.length:Int)==2)=(fs.length==2):=by rw[Bool.eq_iff_iff];simp;omega
      simp[tupV,V.wk,V.wks,constV,Fm.head,hn,h',e]
     ·have h':¬ts.length=0:=by simp at h;simpa using h
      simp[tupV,V.wk,V.wks,constV,Fm.head,hn,h']
      done)
  |(by_cases hn:h.err=0
    ·rw [hn] at h2
     refine M.F Tryz.func149 ?_
     repeat'(first|refine M.gw ?_|refine M.c2 (h2) ?_|refine M.gs ?_ ?_<;>intro h|refine M.bl ?_|refine M.cs ?_ ?_<;>intro h|fail)
     ·have h':ts.length=0:=by simp at h;simp[h]
      have e:((fs.length:Int)==1)=(fs.length==1):=by rw[Bool.eq_iff_iff];simp;omega
      simp[tupV,V.wk,V.wks,constV,Fm.head,hok,hn,h',e]
     ·have h':¬ts.length=0:=by simp at h;simpa using h
      simp[tupV,V.wk,V.wks,constV,Fm.head,hok,hn,h']
      done
    ·have hb:(h.err !=0)=true:=by simpa using hn
     refine M.F Tryz.func149 ?_
     repeat'(first|refine M.gw ?_|refine M.c2 (h2) ?_|refine M.gs ?_ ?_<;>intro h|refine M.bl ?_|refine M.cs ?_ ?_<;>intro h|fail)
     ·simp [tupV,V.wk,V.wks,constV,Fm.head,hok,hn]
     all_goals(exfalso;simp_all;done))
  |(refine M.F Tryz.func149 ?_
    repeat'(first|refine M.gw ?_|refine M.bl ?_|refine M.cs ?_ ?_<;>intro h|fail)
    all_goals first
     |(exfalso;simp_all;done)
     |(simp[tupV,V.wk,V.wks,constV,Fm.head,hk];done))
theorem formulaNodes_c:∀(b:Nat) (f:Fm),f.full≤b→b<1099511627776→PC E 112 [.agg f.view] (.tup [.i f.nodes,.bool f.shape]):=by
 intro b
 induction b with
 |zero=>intro f h;have:=f.full_pos;omega
 |succ b ih=>
 intro f hsz hb
 have hsz':=f.full_eq
 have hse:=f.size_eq
 have hle:=f.size_le_full
 have hlen:=lsum_len Fm.full Fm.full_pos f.args
 have hlen2:=lsum_len Tm.full Tm.full_pos f.terms
 have hsh:=f.shape_eq
 have h1:=formed_c f (by omega)
 cases hh:f.head with
 |false=>
  rw[hh] at h1 hsh
  have e:f.shape=false:=by rw[hsh];rfl
  rw[show f.nodes=0 by simp[Fm.nodes,e],e]
  refine M.F Tryz.func112 ?_
  repeat'(first|refine M.gw ?_|refine M.c2 (h1) ?_|fail)
  rfl
 |true=>
 rw[hh] at h1 hsh
 refine M.F Tryz.func112 ?_
 repeat'(first|refine M.gw ?_|refine M.c2 (h1) ?_|fail)
 refine AW.range f.terms.length (fun m=>∀j (hj:j<f.terms.length),j<m→(f.terms[j]).shape=true)
  (fun m=>([(1,.ptr 0 0),(4,.i (1+((f.terms.take m).map Tm.size).sum:Nat)),(17,.s .tm f.terms),(18,.i f.terms.length),(19,.i m)],⟨1,[(0,.var f.view)]⟩))
  (by omega) (fun m=>rfl) (fun m=>rfl) rfl (fun j hj h=>by omega) (M.W [some 0]) ?_ ?_
 ·intro m hm hP
  have hs1:=lsum_take Tm.size f.terms m hm
  have hs2:=lsum_mem Tm.full (List.getElem_mem hm)
  have hs3:=lsum_take_le Tm.size f.terms m
  have hs4:=lsum_le (f:=Tm.size) (g:=Tm.full) f.terms fun x _=>x.size_le_full
  have hs5:=f.terms[m].size_le_full
  have hc:=termNodes_c _ f.terms[m] (Nat.le_refl _) (by omega)
  cases hx:(f.terms[m]).shape with
  |false=>
   rw[show nodesM f.terms[m]= .tup [.i 0,.bool false] by simp[nodesM,Tm.nodes,hx]] at hc
   have e:f.shape=false:=by rw[hsh,all_not Tm.shape hm hx];rfl
   rw[show f.nodes=0 by simp[Fm.nodes,e],e]
   repeat'(first|refine M.gw ?_|refine M.c2 (hc) ?_|fail)
   rfl
  |true=>
   rw[show nodesM f.terms[m]= .tup [.i f.terms[m].size,.bool true] by simp[nodesM,Tm.nodes,hx]] at hc
   repeat'(first|refine M.gw ?_|refine M.c2 (hc) ?_|fail)
   refine⟨rfl,all_step (p:=fun t=>Tm.shape t=true) hm hP hx,?_⟩
   simp only[hs1]
   exact(M.W [some 0] (hf:=(by(repeat'(first|exact trivial|refine And.intro ?_ ?_|refine⟨_,U,_,U,?_⟩|exact VLe.refl _|exact VLe.of_eq (by simp[Sto.upd,Int.natCast_add,Int.add_assoc])));done)))
 ·intro hP
  have hpt:=all_of Tm.shape f.terms fun j hj=>hP j hj hj
  rw[hpt] at hsh
  simp only[List.take_length]
  repeat'(first|refine M.gw ?_|fail)
  refine AW.range f.args.length (fun m=>∀j (hj:j<f.args.length),j<m→(f.args[j]).shape=true)
   (fun m=>([(1,.ptr 0 0),(4,.i (1+(f.terms.map Tm.size).sum+((f.args.take m).map Fm.size).sum:Nat)),(35,.s .fm f.args),(36,.i f.args.length),(37,.i m)],⟨1,[(0,.var f.view)]⟩))
   (by omega) (fun m=>rfl) (fun m=>rfl) rfl (fun j hj h=>by omega) (M.W [some 0]) ?_ ?_
  ·intro m hm hP
   have hs0:=lsum_le (f:=Tm.size) (g:=Tm.full) f.terms fun x _=>x.size_le_full
   have hs1:=lsum_take Fm.size f.args m hm
   have hs2:=lsum_mem Fm.full (List.getElem_mem hm)
   have hs3:=lsum_take_le Fm.size f.args m
   have hs4:=lsum_le (f:=Fm.size) (g:=Fm.full) f.args fun x _=>x.size_le_full
   have hs5:=f.args[m].size_le_full
   have hc:=ih f.args[m] (by omega) (by omega)
   cases hx:(f.args[m]).shape with
   |false=>
    rw[hx,show(f.args[m]).nodes=0 by simp[Fm.nodes,hx]] at hc
    have e:f.shape=false:=by rw[hsh,all_not Fm.shape hm hx];rfl
    rw[show f.nodes=0 by simp[Fm.nodes,e],e]
    repeat'(first|refine M.gw ?_|refine M.c2 (hc) ?_|fail)
    rfl
   |true=>
    rw[hx,show(f.args[m]).nodes=(f.args[m]).size by simp[Fm.nodes,hx]] at hc
    repeat'(first|refine M.gw ?_|refine M.c2 (hc) ?_|fail)
    refine⟨rfl,all_step (p:=fun t=>Fm.shape t=true) hm hP hx,?_⟩
    simp only[hs1]
    exact(M.W [some 0] (hf:=(by(repeat'(first|exact trivial|refine And.intro ?_ ?_|refine⟨_,U,_,U,?_⟩|exact VLe.refl _|exact VLe.of_eq (by simp[Sto.upd,Int.natCast_add,Int.add_assoc])));done)))
  ·intro hP
   have hpa:=all_of Fm.shape f.args fun j hj=>hP j hj hj
   rw[hpa] at hsh
   have e:f.shape=true:=hsh
   rw[show f.nodes=f.size by simp[Fm.nodes,e],e,hse]
   simp only[List.take_length]
   repeat'(first|refine M.gw ?_|fail)
   rfl
theorem checkFm_c(f:Fm)(hf:f.full<1099511627776):PC E 62 [.agg f.view] (.tup [.i f.num,.i f.err]):=by
 have h1:=formulaNodes_c _ f (Nat.le_refl _) hf
 have hle:=f.size_le_full
 cases hs:f.shape with
 |false=>
  have e:f.err=2:=by simp[Fm.err,hs]
  rw[hs,show f.nodes=0 by simp[Fm.nodes,hs]] at h1
  rw[show f.num=0 by simp[Fm.num,e],e]
  refine M.F Tryz.func62 ?_
  repeat'(first|refine M.gw ?_|refine M.c2 (h1) ?_|refine M.zb ?_|fail)
  rfl
 |true=>
  rw[hs,show f.nodes=f.size by simp[Fm.nodes,hs]] at h1
  by_cases hz:f.size>4096
  ·have e:f.err=4:=by simp[Fm.err,hs,hz]
   rw[show f.num=0 by simp[Fm.num,e],e]
   refine M.F Tryz.func62 ?_
   repeat'(first|refine M.gw ?_|refine M.c2 (h1) ?_|refine M.zb ?_|refine M.cs ?_ ?_<;>intro h|fail)
   ·rfl
   ·exfalso;simp at h;omega
  ·have e:f.err=0:=by simp[Fm.err,hs,hz]
   rw[show f.num=f.size by simp[Fm.num,e],e]
   refine M.F Tryz.func62 ?_
   repeat'(first|refine M.gw ?_|refine M.c2 (h1) ?_|refine M.zb ?_|refine M.cs ?_ ?_<;>intro h|fail)
   ·exfalso;simp at h;omega
   ·rfl
theorem fcheck_c(f:Fm)(hf:f.full<1099511627776):PC E 21 [.agg f.view] (.i f.err):=by
 have h1:=checkFm_c f hf
 refine M.F Tryz.func21 ?_
 repeat'(first|refine M.gw ?_|refine M.c2 (h1) ?_|fail)
 rfl
theorem copyFm_c:∀(b:Nat) (f:Fm),f.full≤b→b<1099511627776→PC E 49 [.agg f.view] (.agg f.view):=by
 intro b
 induction b with
 |zero=>intro f h;have:=f.full_pos;omega
 |succ b ih=>
 intro f hsz hb
 have hsz':=f.full_eq
 have hlen:=lsum_len Fm.full Fm.full_pos f.args
 have hlen2:=lsum_len Tm.full Tm.full_pos f.terms
 have hty:=copyTy_c _ f.ty (Nat.le_refl _) (by omega)
 refine M.F Tryz.func49 ?_
 repeat'(first|refine M.gw ?_|refine M.c2 (hty) ?_|fail)
 refine AW.range f.terms.length (fun m=>True)
  (fun m=>([(1,.ptr 0 0),(2,.ptr 1 0),(3,.ptr 2 0),(15,.s .tm f.terms),(16,.i f.terms.length),(17,.i m)],⟨4,[(0,.var f.view),(1,.var [.i 0,.i 0,.slice .nil (.t .ty []),.slice .nil (.t .tm []),.slice .nil (.t .fm [])]),(2,.var [.i f.kind,.i f.ty.kind,.s .ty f.ty.args,.slice (.own 3) (.t .tm (f.terms.take m)),.slice .nil (.t .fm [])]),(3,.row)]⟩))
  (by omega) (fun m=>rfl) (fun m=>rfl) rfl trivial (M.W [some 0,some 1,some 2,none]) ?_ ?_
 ·intro m hm _
  have hs2:=lsum_mem Tm.full (List.getElem_mem hm)
  repeat'(first|refine M.gw ?_|refine M.c2 (copyTm_c _ _ (Nat.le_refl _) ?_) ?_|exact M.lt|fail)
  exact⟨rfl,trivial,(M.W [some 0,some 1,some 2,some 5] (he:=(by(repeat'(first|exact trivial|exact Or.inr ⟨_,U,rfl⟩|refine And.intro ?_ ?_|refine⟨_,U,_,U,_,U,?_⟩|exact VLe.refl _|exact VLe.of_eq (by simp[Sto.upd,List.take_append_getElem])));done)))⟩
 ·intro _
  simp only[List.take_length]
  repeat'(first|refine M.gw ?_|fail)
  refine AW.range f.args.length (fun m=>True)
   (fun m=>([(1,.ptr 0 0),(2,.ptr 1 0),(3,.ptr 2 0),(30,.s .fm f.args),(31,.i f.args.length),(32,.i m)],⟨5,[(0,.var f.view),(1,.var [.i 0,.i 0,.slice .nil (.t .ty []),.slice .nil (.t .tm []),.slice .nil (.t .fm [])]),(2,.var [.i f.kind,.i f.ty.kind,.s .ty f.ty.args,.slice (.own 3) (.t .tm f.terms),.slice (.own 4) (.t .fm (f.args.take m))]),(3,.row),(4,.row)]⟩))
   (by omega) (fun m=>rfl) (fun m=>rfl) rfl trivial (M.W [some 0,some 1,some 2,some 3,none]) ?_ ?_
  ·intro m hm _
   have hs2:=lsum_mem Fm.full (List.getElem_mem hm)
   repeat'(first|refine M.gw ?_|refine M.c2 (ih _ ?_ ?_) ?_|exact M.le|exact M.lt|fail)
   exact⟨rfl,trivial,(M.W [some 0,some 1,some 2,some 3,some 6] (he:=(by(repeat'(first|exact trivial|exact Or.inr ⟨_,U,rfl⟩|refine And.intro ?_ ?_|refine⟨_,U,_,U,_,U,?_⟩|exact VLe.refl _|exact VLe.of_eq (by simp[Sto.upd,List.take_append_getElem])));done)))⟩
  ·intro _
   simp only[List.take_length]
   repeat'(first|refine M.gw ?_|fail)
   rfl
theorem eqFm_c(a b:Tm)(ha:a.full<1099511627776)(hb:b.full<1099511627776):PC E 48 [.agg a.view,.agg b.view] (.agg (eqF a b).view):=by
 have h1:=copyTm_c _ a (Nat.le_refl _) ha
 have h2:=copyTm_c _ b (Nat.le_refl _) hb
 refine M.F Tryz.func48 ?_
 repeat'(first|refine M.gw ?_|refine M.c2 (h1) ?_|refine M.c2 (h2) ?_|fail)
 rfl
theorem twoFm_c(k:Int)(a b:Fm)(ha:a.full<1099511627776)(hb:b.full<1099511627776):PC E 44 [.i k,.agg a.view,.agg b.view] (.agg (Fm.mk k (.mk 0 []) [] [a,b]).view):=by
 have h1:=copyFm_c _ a (Nat.le_refl _) ha
 have h2:=copyFm_c _ b (Nat.le_refl _) hb
 refine M.F Tryz.func44 ?_
 repeat'(first|refine M.gw ?_|refine M.c2 (h1) ?_|refine M.c2 (h2) ?_|fail)
 rfl
theorem qFm_c(k:Int)(s:Ty)(f:Fm)(hs:s.size<1099511627776)(hf:f.full<1099511627776):PC E 45 [.i k,.agg s.view,.agg f.view] (.agg (Fm.mk k s [] [f]).view):=by
 have h1:=copyTy_c _ s (Nat.le_refl _) hs
 have h2:=copyFm_c _ f (Nat.le_refl _) hf
 refine M.F Tryz.func45 ?_
 repeat'(first|refine M.gw ?_|refine M.c2 (h1) ?_|refine M.c2 (h2) ?_|fail)
 rfl
theorem ownFmCb(t:Tm)(b:Int)(ht:t.full<1099511627776):PC E 121 [.agg t.view,.i b] (.agg t.view):=by
 have h1:=ownTm_c _ t (Nat.le_refl _) ht
 refine M.F Tryz.func121 ?_
 repeat'(first|refine M.gw ?_|refine M.c2 (h1) ?_|fail)
 simp[tupV,V.wk,V.wks,constV,Ty.view,Tm.view]
theorem ownFmRe:∀(n:Nat) (f:Fm) (bl:Int),f.full≤n→n<549755813888→0≤bl→bl+n<549755813888→PC E 120 [.agg f.view,.i bl,.fn (.func 121) [] []] (.agg f.view):=by
 intro n
 induction n with
 |zero=>intro f bl h;have:=f.full_pos;omega
 |succ n ih=>
 intro f bl hsz hb hbl hbn
 have hsz':=f.full_eq
 have hlen:=lsum_len Fm.full Fm.full_pos f.args
 have hlen2:=lsum_len Tm.full Tm.full_pos f.terms
 have hty:=ownTy_c _ f.ty (Nat.le_refl _) (by omega)
 have hq:=quantifier_c f.kind
 refine M.F Tryz.func120 ?_
 repeat'(first|refine M.gw ?_|refine M.c2 (hty) ?_|fail)
 refine AW.range f.terms.length (fun m=>True)
  (fun m=>([(1,.i bl),(2,.fn (.func 121) [] []),(3,.ptr 0 0),(6,.ptr 1 0),(7,.ptr 2 0),(19,.s .tm f.terms),(20,.i f.terms.length),(21,.i m)],⟨4,[(0,.var f.view),(1,.var [.i 0,.i 0,.slice .nil (.t .ty []),.slice .nil (.t .tm []),.slice .nil (.t .fm [])]),(2,.var [.i f.kind,.i f.ty.kind,.s .ty f.ty.args,.slice (.own 3) (.t .tm (f.terms.take m)),.slice .nil (.t .fm [])]),(3,.row)]⟩))
  (by omega) (fun m=>rfl) (fun m=>rfl) rfl trivial (M.W [some 0,some 1,some 2,none]) ?_ ?_
 ·intro m hm _
  have hs2:=lsum_mem Tm.full (List.getElem_mem hm)
  have hc:=ownFmCb f.terms[m] bl (by omega)
  repeat'(first|refine M.gw ?_|refine M.cv (hc) [] 0 ?_|fail)
  exact⟨rfl,trivial,(M.W [some 0,some 1,some 2,some 5] (he:=(by(repeat'(first|exact trivial|exact Or.inr ⟨_,U,rfl⟩|refine And.intro ?_ ?_|refine⟨_,U,_,U,_,U,?_⟩|exact VLe.refl _|exact VLe.of_eq (by simp[Sto.upd,List.take_append_getElem])));done)))⟩
 ·intro _
  simp only[List.take_length]
  cases hqk:quantK f.kind with
  |true=>
   rw[hqk] at hq
   repeat'(first|refine M.gw ?_|refine M.c2 (hq) ?_|fail)
   refine AW.range f.args.length (fun m=>True)
    (fun m=>([(1,.i (bl+1)),(2,.fn (.func 121) [] []),(3,.ptr 0 0),(6,.ptr 1 0),(7,.ptr 2 0),(41,.s .fm f.args),(42,.i f.args.length),(43,.i m)],⟨5,[(0,.var f.view),(1,.var [.i 0,.i 0,.slice .nil (.t .ty []),.slice .nil (.t .tm []),.slice .nil (.t .fm [])]),(2,.var [.i f.kind,.i f.ty.kind,.s .ty f.ty.args,.slice (.own 3) (.t .tm f.terms),.slice (.own 4) (.t .fm (f.args.take m))]),(3,.row),(4,.row)]⟩))
    (by omega) (fun m=>rfl) (fun m=>rfl) rfl trivial (M.W [some 0,some 1,some 2,some 3,none]) ?_ ?_
   ·intro m hm _
    have hs2:=lsum_mem Fm.full (List.getElem_mem hm)
    have hc:=ih f.args[m] (bl+1) (by omega) (by omega) (by omega) (by omega)
    repeat'(first|refine M.gw ?_|refine M.c2 (hc) ?_|fail)
    exact⟨rfl,trivial,(M.W [some 0,some 1,some 2,some 3,some 6] (he:=(by(repeat'(first|exact trivial|exact Or.inr ⟨_,U,rfl⟩|refine And.intro ?_ ?_|refine⟨_,U,_,U,_,U,?_⟩|exact VLe.refl _|exact VLe.of_eq (by simp[Sto.upd,List.take_append_getElem])));done)))⟩
   ·intro _
    simp only[List.take_length]
    repeat'(first|refine M.gw ?_|fail)
    rfl
  |false=>
   rw[hqk] at hq
   repeat'(first|refine M.gw ?_|refine M.c2 (hq) ?_|fail)
   refine AW.range f.args.length (fun m=>True)
    (fun m=>([(1,.i bl),(2,.fn (.func 121) [] []),(3,.ptr 0 0),(6,.ptr 1 0),(7,.ptr 2 0),(41,.s .fm f.args),(42,.i f.args.length),(43,.i m)],⟨5,[(0,.var f.view),(1,.var [.i 0,.i 0,.slice .nil (.t .ty []),.slice .nil (.t .tm []),.slice .nil (.t .fm [])]),(2,.var [.i f.kind,.i f.ty.kind,.s .ty f.ty.args,.slice (.own 3) (.t .tm f.terms),.slice (.own 4) (.t .fm (f.args.take m))]),(3,.row),(4,.row)]⟩))
    (by omega) (fun m=>rfl) (fun m=>rfl) rfl trivial (M.W [some 0,some 1,some 2,some 3,none]) ?_ ?_
   ·intro m hm _
    have hs2:=lsum_mem Fm.full (List.getElem_mem hm)
    have hc:=ih f.args[m] bl (by omega) (by omega) (by omega) (by omega)
    repeat'(first|refine M.gw ?_|refine M.c2 (hc) ?_|fail)
    exact⟨rfl,trivial,(M.W [some 0,some 1,some 2,some 3,some 6] (he:=(by(repeat'(first|exact trivial|exact Or.inr ⟨_,U,rfl⟩|refine And.intro ?_ ?_|refine⟨_,U,_,U,_,U,?_⟩|exact VLe.refl _|exact VLe.of_eq (by simp[Sto.upd,List.take_append_getElem])));done)))⟩
   ·intro _
    simp only[List.take_length]
    repeat'(first|refine M.gw ?_|fail)
    rfl
theorem ownFm_c(f:Fm)(hf:f.full<274877906944):PC E 74 [.agg f.view] (.agg f.view):=by
 have h1:=ownFmRe _ f 0 (Nat.le_refl _) (by omega) (by omega) (by omega)
 refine M.F Tryz.func74 ?_
 repeat'(first|refine M.gw ?_|refine M.c2 (h1) ?_|fail)
 rfl
theorem type0_c(d:Dk)(h:d.ok):AC E 14 [.ptr 0 0,.i 0] ⟨1,[(0,.var d.cells)]⟩ (.agg (d.type 0).1.view) ⟨1,[(0,.var (d.type 0).2.cells)]⟩:=type_c 0 0 d (by omega) (by omega) (by omega) h
theorem mkFm_c:∀(n:Nat) (d:Dk) (g:List Ty) (k:Int),n≤3→k=n→d.ok→smalls g→g.length+n≤5000→
 AC E 11 [.ptr 0 0,.s .ty g,.i k] ⟨1,[(0,.var d.cells)]⟩ (.agg (Dk.fm n d g).1.view) ⟨1,[(0,.var (Dk.fm n d g).2.cells)]⟩:=by
 have bd:∀(n:Nat) (d:Dk) (g:List Ty),n≤3→smalls g→(Dk.fm n d g).1.full≤10000:=fun n d g hn hg=>by
  have h1:=(Dk.fm_good n d g hg).2.2
  have h2:2^n≤2^3:=Nat.pow_le_pow_right (by omega) hn
  omega
 have eqc:∀(d:Dk) (g:List Ty),d.ok→smalls g→g.length≤5000→∃(x:Tm) (d1:Dk) (y:Tm) (d2:Dk),d.eqf g=(eqF x y,d2)∧x.full≤1000∧y.full≤1000∧
  AC E 13 [.ptr 0 0,.s .ty g,.agg natT.view,.i 1] ⟨1,[(0,.var d.cells)]⟩ (.agg x.view) ⟨1,[(0,.var d1.cells)]⟩∧
  AC E 13 [.ptr 0 0,.s .ty g,.agg natT.view,.i 1] ⟨1,[(0,.var d1.cells)]⟩ (.agg y.view) ⟨1,[(0,.var d2.cells)]⟩:=fun d g hd hg hl=>by
  have d1:=Dk.tm_ok 3 d g natT hd
  have m1:=(Dk.tm_mk 3 d g natT hg small_nat (by omega) (by omega)).full hg small_nat
  have m2:=(Dk.tm_mk 3 (Dk.tm 3 d g natT).2 g natT hg small_nat (by omega) (by omega)).full hg small_nat
  exact⟨_,_,_,_,rfl,by omega,by omega,term_c 3 (by omega) d g natT 1 (by omega) hd hg small_nat (by omega) (by omega) (by omega),
   term_c 3 (by omega) (Dk.tm 3 d g natT).2 g natT 1 (by omega) d1 hg small_nat (by omega) (by omega) (by omega)⟩
 intro n
 induction n with
 |zero=>
  intro d g k _ hk hd hg hl
  obtain⟨x,d1,y,d2,e,fx,fy,h1,h2⟩:=eqc d g hd hg (by omega)
  have he:=eqFm_c x y (by omega) (by omega)
  rw[show Dk.fm 0 d g=(eqF x y,d2) from e]
  obtain rfl:k=0:=hk
  refine M.F Tryz.func11 ?_
  repeat'(first|refine M.gw ?_|refine M.c2 (nat_c) ?_|refine M.cb (h1) [0] 0 ?_|refine M.cb (h2) [0] 0 ?_|refine M.c2 (he) ?_|fail)
  (exact M.n2 [some 0] (h8:=(by simp[tupV,V.wk,V.wks,constV,Ty.view,Tm.view,eqF,Fm.view])))
 |succ n ih=>
 intro d g k hn hk hd hg hl
 have h9:=next_c d 9 hd (by omega)
 have hbd:=Dk.next_bd d 9 (by omega)
 have d9:=Dk.next_ok hd 9
 have hkp:k>0:=by omega
 have efm:Dk.fm (n+1) d g=Dk.fm (n+1) d g:=rfl
 conv at efm=>rhs;rw[Dk.fm]
 generalize hr:(d.next 9).1=r at*
 generalize (d.next 9).2=e1 at*
 have hr9:r=0∨r=1∨r=2∨r=3∨r=4∨r=5∨r=6∨r=7∨r=8:=by omega
 rcases hr9 with rfl|rfl|rfl|rfl|rfl|rfl|rfl|rfl|rfl
 ·simp only[show((0:Int)=1)=False by simp,show((0:Int)=2)=False by simp,show((0:Int)=3)=False by simp,show((0:Int)=4)=False by simp,show((0:Int)=5)=False by simp,show((0:Int)=6)=False by simp,if_false,if_true,or_self,or_true,true_or,or_false,false_or] at efm
  rw[efm]
  have a1:=ih e1 g (k-1) (by omega) (by omega) d9 hg (by omega)
  have f1:=bd n e1 g (by omega) hg
  have k1:=Dk.fm_ok n e1 g d9
  generalize (Dk.fm n e1 g).1=x at*
  generalize (Dk.fm n e1 g).2=e2 at*
  have a2:=ih e2 g (k-1) (by omega) (by omega) k1 hg (by omega)
  have f2:=bd n e2 g (by omega) hg
  generalize (Dk.fm n e2 g).1=y at*
  generalize (Dk.fm n e2 g).2=e3 at*
  have hw:=twoFm_c 2 x y (by omega) (by omega)
  refine M.F Tryz.func11 ?_
  repeat'(first|refine M.gw ?_|refine M.cb (h9) [0] 0 ?_|refine M.cb (a1) [0] 0 ?_|refine M.cb (a2) [0] 0 ?_|refine M.c2 (hw) ?_|refine M.bl ?_|refine M.cs ?_ ?_<;>intro h|fail)
  all_goals first
   |(exfalso;simp at h;omega)
   |skip
  (exact M.n2 [some 0] (h8:=(by simp[tupV,V.wk,V.wks,constV,Ty.view,Tm.view,twoF,Fm.view])))
 ·simp only[show((1:Int)=0)=False by simp,show((1:Int)=2)=False by simp,show((1:Int)=3)=False by simp,show((1:Int)=4)=False by simp,show((1:Int)=5)=False by simp,show((1:Int)=6)=False by simp,if_false,if_true,or_self,or_true,true_or,or_false,false_or] at efm
  rw[efm]
  have a1:=ih e1 g (k-1) (by omega) (by omega) d9 hg (by omega)
  have f1:=bd n e1 g (by omega) hg
  have k1:=Dk.fm_ok n e1 g d9
  generalize (Dk.fm n e1 g).1=x at*
  generalize (Dk.fm n e1 g).2=e2 at*
  have a2:=ih e2 g (k-1) (by omega) (by omega) k1 hg (by omega)
  have f2:=bd n e2 g (by omega) hg
  generalize (Dk.fm n e2 g).1=y at*
  generalize (Dk.fm n e2 g).2=e3 at*
  have hw:=twoFm_c 3 x y (by omega) (by omega)
  refine M.F Tryz.func11 ?_
  repeat'(first|refine M.gw ?_|refine M.cb (h9) [0] 0 ?_|refine M.cb (a1) [0] 0 ?_|refine M.cb (a2) [0] 0 ?_|refine M.c2 (hw) ?_|refine M.bl ?_|refine M.cs ?_ ?_<;>intro h|fail)
  all_goals first
   |(exfalso;simp at h;omega)
   |skip
  (exact M.n2 [some 0] (h8:=(by simp[tupV,V.wk,V.wks,constV,Ty.view,Tm.view,twoF,Fm.view])))
 ·simp only[show((2:Int)=0)=False by simp,show((2:Int)=1)=False by simp,show((2:Int)=3)=False by simp,show((2:Int)=4)=False by simp,show((2:Int)=5)=False by simp,show((2:Int)=6)=False by simp,if_false,if_true,or_self,or_true,true_or,or_false,false_or] at efm
  rw[efm]
  have a1:=ih e1 g (k-1) (by omega) (by omega) d9 hg (by omega)
  have f1:=bd n e1 g (by omega) hg
  have k1:=Dk.fm_ok n e1 g d9
  generalize (Dk.fm n e1 g).1=x at*
  generalize (Dk.fm n e1 g).2=e2 at*
  have a2:=ih e2 g (k-1) (by omega) (by omega) k1 hg (by omega)
  have f2:=bd n e2 g (by omega) hg
  generalize (Dk.fm n e2 g).1=y at*
  generalize (Dk.fm n e2 g).2=e3 at*
  have hw:=twoFm_c 3 x y (by omega) (by omega)
  refine M.F Tryz.func11 ?_
  repeat'(first|refine M.gw ?_|refine M.cb (h9) [0] 0 ?_|refine M.cb (a1) [0] 0 ?_|refine M.cb (a2) [0] 0 ?_|refine M.c2 (hw) ?_|refine M.bl ?_|refine M.cs ?_ ?_<;>intro h|fail)
  all_goals first
   |(exfalso;simp at h;omega)
   |skip
  (exact M.n2 [some 0] (h8:=(by simp[tupV,V.wk,V.wks,constV,Ty.view,Tm.view,twoF,Fm.view])))
 ·simp only[show((3:Int)=0)=False by simp,show((3:Int)=1)=False by simp,show((3:Int)=2)=False by simp,show((3:Int)=4)=False by simp,show((3:Int)=5)=False by simp,show((3:Int)=6)=False by simp,if_false,if_true,or_self,or_true,true_or,or_false,false_or] at efm
  rw[efm]
  have ts:=type1_c e1 d9
  have ss:=Dk.type1 e1
  have k1:=Dk.type_ok 1 e1 d9
  generalize (e1.type 1).1=s at*
  generalize (e1.type 1).2=e2 at*
  have gs:=smalls_app hg (smalls_cons ss smalls_nil)
  have hlg:=longer_c g [s] (by simp;omega)
  have a1:=ih e2 (g++[s]) (k-1) (by omega) (by omega) k1 gs (by simp;omega)
  have f1:=bd n e2 (g++[s]) (by omega) gs
  generalize (Dk.fm n e2 (g++[s])).1=x at*
  generalize (Dk.fm n e2 (g++[s])).2=e3 at*
  have hw:=qFm_c 4 s x (by have:=ss.2;omega) (by omega)
  refine M.F Tryz.func11 ?_
  repeat'(first|refine M.gw ?_|refine M.cb (h9) [0] 0 ?_|refine M.cb (ts) [0] 0 ?_|refine M.c2 (hlg) ?_|refine M.cb (a1) [0] 0 ?_|refine M.c2 (hw) ?_|refine M.bl ?_|refine M.cs ?_ ?_<;>intro h|fail)
  all_goals first
   |(exfalso;simp at h;omega)
   |skip
  (exact M.n2 [some 0] (h8:=(by simp[tupV,V.wk,V.wks,constV,Ty.view,Tm.view,quF,Fm.view])))
 ·simp only[show((4:Int)=0)=False by simp,show((4:Int)=1)=False by simp,show((4:Int)=2)=False by simp,show((4:Int)=3)=False by simp,show((4:Int)=5)=False by simp,show((4:Int)=6)=False by simp,if_false,if_true,or_self,or_true,true_or,or_false,false_or] at efm
  rw[efm]
  have ts:=type1_c e1 d9
  have ss:=Dk.type1 e1
  have k1:=Dk.type_ok 1 e1 d9
  generalize (e1.type 1).1=s at*
  generalize (e1.type 1).2=e2 at*
  have gs:=smalls_app hg (smalls_cons ss smalls_nil)
  have hlg:=longer_c g [s] (by simp;omega)
  have a1:=ih e2 (g++[s]) (k-1) (by omega) (by omega) k1 gs (by simp;omega)
  have f1:=bd n e2 (g++[s]) (by omega) gs
  generalize (Dk.fm n e2 (g++[s])).1=x at*
  generalize (Dk.fm n e2 (g++[s])).2=e3 at*
  have hw:=qFm_c 4 s x (by have:=ss.2;omega) (by omega)
  refine M.F Tryz.func11 ?_
  repeat'(first|refine M.gw ?_|refine M.cb (h9) [0] 0 ?_|refine M.cb (ts) [0] 0 ?_|refine M.c2 (hlg) ?_|refine M.cb (a1) [0] 0 ?_|refine M.c2 (hw) ?_|refine M.bl ?_|refine M.cs ?_ ?_<;>intro h|fail)
  all_goals first
   |(exfalso;simp at h;omega)
   |skip
  (exact M.n2 [some 0] (h8:=(by simp[tupV,V.wk,V.wks,constV,Ty.view,Tm.view,quF,Fm.view])))
 ·simp only[show((5:Int)=0)=False by simp,show((5:Int)=1)=False by simp,show((5:Int)=2)=False by simp,show((5:Int)=3)=False by simp,show((5:Int)=4)=False by simp,show((5:Int)=6)=False by simp,if_false,if_true,or_self,or_true,true_or,or_false,false_or] at efm
  rw[efm]
  have ts:=type1_c e1 d9
  have ss:=Dk.type1 e1
  have k1:=Dk.type_ok 1 e1 d9
  generalize (e1.type 1).1=s at*
  generalize (e1.type 1).2=e2 at*
  have gs:=smalls_app hg (smalls_cons ss smalls_nil)
  have hlg:=longer_c g [s] (by simp;omega)
  have a1:=ih e2 (g++[s]) (k-1) (by omega) (by omega) k1 gs (by simp;omega)
  have f1:=bd n e2 (g++[s]) (by omega) gs
  generalize (Dk.fm n e2 (g++[s])).1=x at*
  generalize (Dk.fm n e2 (g++[s])).2=e3 at*
  have hw:=qFm_c 5 s x (by have:=ss.2;omega) (by omega)
  refine M.F Tryz.func11 ?_
  repeat'(first|refine M.gw ?_|refine M.cb (h9) [0] 0 ?_|refine M.cb (ts) [0] 0 ?_|refine M.c2 (hlg) ?_|refine M.cb (a1) [0] 0 ?_|refine M.c2 (hw) ?_|refine M.bl ?_|refine M.cs ?_ ?_<;>intro h|fail)
  all_goals first
   |(exfalso;simp at h;omega)
   |skip
  (exact M.n2 [some 0] (h8:=(by simp[tupV,V.wk,V.wks,constV,Ty.view,Tm.view,quF,Fm.view])))
 ·simp only[show((6:Int)=0)=False by simp,show((6:Int)=1)=False by simp,show((6:Int)=2)=False by simp,show((6:Int)=3)=False by simp,show((6:Int)=4)=False by simp,show((6:Int)=5)=False by simp,if_false,if_true,or_self,or_true,true_or,or_false,false_or] at efm
  rw[efm]
  have ts:=type0_c e1 d9
  have ss0:=Dk.type0 e1
  have ss:=small_one ss0.1 ss0.2
  have k1:=Dk.type_ok 0 e1 d9
  generalize (e1.type 0).1=s at*
  generalize (e1.type 0).2=e2 at*
  have h2:=next_c e2 2 k1 (by omega)
  have hb2:=Dk.next_bd e2 2 (by omega)
  have k2:=Dk.next_ok k1 2
  generalize (e2.next 2).1=u at*
  generalize (e2.next 2).2=e3 at*
  have gs:=smalls_app hg (smalls_cons ss smalls_nil)
  have hlg:=longer_c g [s] (by simp;omega)
  have a1:=ih e3 (g++[s]) (k-1) (by omega) (by omega) k2 gs (by simp;omega)
  have f1:=bd n e3 (g++[s]) (by omega) gs
  generalize (Dk.fm n e3 (g++[s])).1=x at*
  generalize (Dk.fm n e3 (g++[s])).2=e4 at*
  have hw:=qFm_c (6+u) s x (by have:=ss.2;omega) (by omega)
  refine M.F Tryz.func11 ?_
  repeat'(first|refine M.gw ?_|refine M.cb (h9) [0] 0 ?_|refine M.cb (ts) [0] 0 ?_|refine M.cb (h2) [0] 0 ?_|refine M.c2 (hlg) ?_|refine M.cb (a1) [0] 0 ?_|refine M.c2 (hw) ?_|refine M.bl ?_|refine M.cs ?_ ?_<;>intro h|fail)
  all_goals first
   |(exfalso;simp at h;omega)
   |skip
  (exact M.n2 [some 0] (h8:=(by simp[tupV,V.wk,V.wks,constV,Ty.view,Tm.view,quF,Fm.view])))
 ·simp only[show((7:Int)=0)=False by simp,show((7:Int)=1)=False by simp,show((7:Int)=2)=False by simp,show((7:Int)=3)=False by simp,show((7:Int)=4)=False by simp,show((7:Int)=5)=False by simp,show((7:Int)=6)=False by simp,if_false,if_true,or_self,or_true,true_or,or_false,false_or] at efm
  rw[efm]
  obtain⟨x,d1,y,d2,e,fx,fy,h1,h2⟩:=eqc e1 g d9 hg (by omega)
  rw[e]
  have he:=eqFm_c x y (by omega) (by omega)
  refine M.F Tryz.func11 ?_
  repeat'(first|refine M.gw ?_|refine M.cb (h9) [0] 0 ?_|refine M.c2 (nat_c) ?_|refine M.cb (h1) [0] 0 ?_|refine M.cb (h2) [0] 0 ?_|refine M.c2 (he) ?_|refine M.bl ?_|refine M.cs ?_ ?_<;>intro h|fail)
  all_goals first
   |(exfalso;simp at h;omega)
   |skip
  (exact M.n2 [some 0] (h8:=(by simp[tupV,V.wk,V.wks,constV,Ty.view,Tm.view,eqF,Fm.view])))
 ·simp only[show((8:Int)=0)=False by simp,show((8:Int)=1)=False by simp,show((8:Int)=2)=False by simp,show((8:Int)=3)=False by simp,show((8:Int)=4)=False by simp,show((8:Int)=5)=False by simp,show((8:Int)=6)=False by simp,if_false,if_true,or_self,or_true,true_or,or_false,false_or] at efm
  rw[efm]
  obtain⟨x,d1,y,d2,e,fx,fy,h1,h2⟩:=eqc e1 g d9 hg (by omega)
  rw[e]
  have he:=eqFm_c x y (by omega) (by omega)
  refine M.F Tryz.func11 ?_
  repeat'(first|refine M.gw ?_|refine M.cb (h9) [0] 0 ?_|refine M.c2 (nat_c) ?_|refine M.cb (h1) [0] 0 ?_|refine M.cb (h2) [0] 0 ?_|refine M.c2 (he) ?_|refine M.bl ?_|refine M.cs ?_ ?_<;>intro h|fail)
  all_goals first
   |(exfalso;simp at h;omega)
   |skip
  (exact M.n2 [some 0] (h8:=(by simp[tupV,V.wk,V.wks,constV,Ty.view,Tm.view,eqF,Fm.view])))
theorem sameAllTm_r(l:List Tm)(h:(l.map Tm.full).sum<1099511627776):PC E 77 [.s .tm l,.s .tm l] (.bool true):=by
 have hlen:=lsum_len Tm.full Tm.full_pos l
 refine M.F Tryz.func77 ?_
 repeat'(first|refine M.gw ?_|refine M.cs ?_ ?_<;>intro h|fail)
 ·exfalso;simp at h
 refine AW.range l.length (fun m=>True) (fun m=>([(0,.s .tm l),(1,.s .tm l),(11,.s .tm l),(12,.i l.length),(13,.i m)],⟨0,[]⟩))
  (by omega) (fun m=>rfl) (fun m=>rfl) rfl trivial (M.W []) ?_ ?_
 ·intro m hm _
  have hs2:=lsum_mem Tm.full (List.getElem_mem hm)
  have hc:=sameTm_r l[m] (by omega)
  repeat'(first|refine M.gw ?_|refine M.c2 (hc) ?_|fail)
  exact⟨rfl,trivial,(M.W [])⟩
 ·intro _
  repeat'(first|refine M.gw ?_|fail)
  rfl
theorem sameFm_r:∀(n:Nat) (f:Fm),f.full≤n→n<1099511627776→PC E 24 [.agg f.view,.agg f.view] (.bool true):=by
 intro n
 induction n with
 |zero=>intro f h;have:=f.full_pos;omega
 |succ n ih=>
 intro f hsz hn
 have hsz':=f.full_eq
 have hlen:=lsum_len Fm.full Fm.full_pos f.args
 have h1:=sameTy_r f.ty (by omega)
 have h2:=sameAllTm_r f.terms (by omega)
 refine M.F Tryz.func24 ?_
 repeat'(first|refine M.gw ?_|refine M.c2 (h1) ?_|refine M.c2 (h2) ?_|refine M.gs ?_ ?_<;>intro h|refine M.cs ?_ ?_<;>intro h|fail)
 all_goals first
  |(exfalso;simp at h;done)
  |skip
 refine AW.range f.args.length (fun m=>True) (fun m=>([(2,.ptr 0 0),(3,.ptr 1 0),(37,.s .fm f.args),(38,.i f.args.length),(39,.i m)],⟨2,[(0,.var f.view),(1,.var f.view)]⟩))
  (by omega) (fun m=>rfl) (fun m=>rfl) rfl trivial (M.W [some 0,some 1]) ?_ ?_
 ·intro m hm _
  have hs2:=lsum_mem Fm.full (List.getElem_mem hm)
  have hc:=ih f.args[m] (by omega) (by omega)
  repeat'(first|refine M.gw ?_|refine M.c2 (hc) ?_|fail)
  exact⟨rfl,trivial,(M.W [some 0,some 1])⟩
 ·intro _
  repeat'(first|refine M.gw ?_|fail)
  rfl
end Go.Ab
