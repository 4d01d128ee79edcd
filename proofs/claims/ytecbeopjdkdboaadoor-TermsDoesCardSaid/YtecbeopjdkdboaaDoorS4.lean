/- A part of the proofs of this seat's statements: S23, S24, S25, S26, S27, S30, S31, S61. It has no conditions of its own. -/
import Derived.Test.YtecbeopjdkdboaaDoorA2
import Derived.Test.YtecbeopjdkdboaaDoorS2
import Derived.Test.YtecbeopjdkdboaaDoorD1
import Derived.Test.YtecbeopjdkdboaaDoorS1
namespace Go.Ab
open Go Go.Proofs
set_option maxRecDepth 100000
set_option linter.all false
theorem check2Ty_c(t:Ty)(ht:t.size<1099511627776):PC E 56 [.agg t.view] (.i t.err):=by
 have h1:=checkTy_c t ht
 refine M.F Tryd.func56 ?_
 repeat'(first|refine M.gw ?_|refine M.c2 (h1) ?_|fail)
 simp[tupV,V.wk,V.wks,constV,Ty.view,Tm.view]
theorem context2_c(l:List Ty)(hl:(l.map Ty.size).sum<1099511627776):PC E 48 [.s .ty l] (.i (ctxErr l)):=by
 have hlen:=lsum_len Ty.size Ty.size_pos l
 refine M.F Tryd.func48 ?_
 repeat'(first|refine M.gw ?_|refine M.cs ?_ ?_<;>intro h|fail)
 ·have h':l.length>16:=by simp at h;omega
  simp[tupV,V.wk,V.wks,constV,ctxErr,h']
 have h':¬l.length>16:=by simp at h;omega
 refine AW.range l.length (fun m=>∀j (hj:j<l.length),j<m→l[j].err=0)
  (fun m=>([(9,.s .ty l),(10,.i l.length),(11,.i m)],⟨0,[]⟩))
  (by omega) (fun m=>rfl) (fun m=>rfl) rfl (by intro j hj h;omega) (M.W []) ?_ ?_
 ·intro m hm hP
  have hs2:=lsum_mem Ty.size (List.getElem_mem hm)
  repeat'(first|refine M.gw ?_|refine M.c2 (check2Ty_c _ ?_) ?_|refine M.cs ?_ ?_<;>intro h|exact M.lt|fail)
  ·have h1:¬l[m].err=0:=by simpa using h
   simp[tupV,V.wk,V.wks,constV,ctxErr,h',firstErr_at l m hm hP h1]
  ·exact ⟨rfl,all_step (p:=fun t=>Ty.err t=0) hm hP (by simpa using h),(M.W [])⟩
 ·intro hP
  repeat'(first|refine M.gw ?_|fail)
  simp[tupV,V.wk,V.wks,constV,ctxErr,h',firstErr_none l hP]
theorem of_c(t:Ty)(ht:t.size<1099511627776):PC E 71 [.agg t.view] (.agg (ofT t).view):=by
 have h1:=checkTy_c t ht
 refine M.F Tryd.func71 ?_
 repeat'(first|refine M.gw ?_|refine M.c2 (h1) ?_|fail)
 simp[tupV,V.wk,V.wks,constV,Ty.view,Sz.view,ofT]
theorem from_c(l:List Ty)(hl:(l.map Ty.size).sum<1099511627776):PC E 49 [.s .ty l] (.s .sz (l.map ofT)):=by
 have hlen:=lsum_len Ty.size Ty.size_pos l
 refine M.F Tryd.func49 ?_
 repeat'(first|refine M.gw ?_|fail)
 refine AW.range l.length (fun m=>True)
  (fun m=>([(3,.slice (.own 0) (.t .sz ((l.take m).map ofT))),(6,.s .ty l),(7,.i l.length),(8,.i m)],⟨1,[(0,.row)]⟩))
  (by omega) (fun m=>rfl) (fun m=>rfl) rfl trivial (M.W [none]) ?_ ?_
 ·intro m hm hP
  have hs2:=lsum_mem Ty.size (List.getElem_mem hm)
  repeat'(first|refine M.gw ?_|refine M.c2 (of_c _ ?_) ?_|exact M.lt|fail)
  exact⟨rfl,trivial,(M.W [some 2] (hf:=(by(repeat'(first|exact trivial|refine And.intro ?_ ?_|refine⟨_,U,_,U,?_⟩|exact VLe.refl _|exact VLe.of_eq (by simp[Sto.upd,map_take _ _ _ hm])));done)))⟩
 ·intro _
  repeat'(first|refine M.gw ?_|fail)
  simp[tupV,V.wk,V.wks]
theorem is_c(s:Sz)(k:Int):PC E 85 [.agg s.view,.i k] (.bool (s.ty.kind==k)):=by
 refine M.F Tryd.func85 ?_
 repeat'(first|refine M.gw ?_|fail)
 simp[tupV,V.wk,V.wks]
theorem part_c(s:Sz)(i:Nat)(hi:i<s.ty.args.length)(hs:s.ty.size<1099511627776):PC E 86 [.agg s.view,.i i] (.agg (ofT s.ty.args[i]).view):=by
 have hs2:=lsum_mem Ty.size (List.getElem_mem hi)
 have hsz:=s.ty.size_eq
 have h1:=of_c s.ty.args[i] (by omega)
 refine M.F Tryd.func86 ?_
 repeat'(first|refine M.gw ?_|refine M.c2 (h1) ?_|fail)
 simp[tupV,V.wk,V.wks,Sz.view,ofT]
theorem sameSz_c(s u:Sz)(hs:s.ty.size<1099511627776):PC E 87 [.agg s.view,.agg u.view] (.bool (s.nodes==u.nodes&&decide (s.ty=u.ty))):=by
 have h1:=sameTy2_c _ s.ty u.ty (Nat.le_refl _) hs
 refine M.F Tryd.func87 ?_
 repeat'(first|refine M.gw ?_|refine M.c2 (h1) ?_|refine M.gs ?_ ?_<;>intro h|fail)
 all_goals(simp at h;simp[tupV,V.wk,V.wks,h])
theorem join_c(k:Int)(a b:Sz)(ha:0≤a.nodes∧a.nodes<1099511627776)(hb:0≤b.nodes∧b.nodes<1099511627776):PC E 72 [.i k,.agg a.view,.agg b.view] (.tup [.agg (joinS k a b).1.view,.i (joinS k a b).2]):=by
 refine M.F Tryd.func72 ?_
 repeat'(first|refine M.gw ?_|refine M.cs ?_ ?_<;>intro h|fail)
 ·have h':1+a.nodes+b.nodes>64:=by simpa using h
  have e:joinS k a b=(zSz,4):=if_pos h'
  simp[tupV,V.wk,V.wks,constV,Sz.view,zSz,noTy,e]
 ·have h':¬1+a.nodes+b.nodes>64:=by simpa using h
  have e:joinS k a b=(⟨.mk k [a.ty,b.ty],1+a.nodes+b.nodes⟩,0):=if_neg h'
  simp[tupV,V.wk,V.wks,constV,Sz.view,e]
theorem plain_c(k:Int):PC E 84 [.i k] (.s .int (plainK k)):=by
 refine M.F Tryd.func84 ?_
 repeat'(first|refine M.gw ?_|refine M.bl ?_|refine M.cs ?_ ?_<;>intro h|fail)
 all_goals
  simp only[beq_iff_eq,beq_eq_false_iff_ne,ne_eq] at*
  first
   |(simp[tupV,V.wk,V.wks,constV,plainK, *];done)
   |(simp[tupV,V.wk,V.wks,constV,plainK, *];rfl)
theorem tnat_c:PC E 92 [] (.agg natT.view):=by
 refine M.F Tryd.func92 ?_
 repeat'(first|refine M.gw ?_|fail)
 rfl
theorem tlist_c:PC E 93 [] (.agg listT.view):=by
 refine M.F Tryd.func93 ?_
 repeat'(first|refine M.gw ?_|fail)
 rfl
theorem tfun_c(r:Ty)(l:List Ty)(hl:l.length<1000000):PC E 91 [.agg r.view,.s .ty l] (.agg (funs r l).view):=by
 refine M.F Tryd.func91 ?_
 repeat'(first|refine M.gw ?_|fail)
 refine AW.downG l.length (fun m=>True)
  (fun m=>([(1,.s .ty l),(2,.ptr 0 0),(4,.ptr 1 0),(5,.i ((m:Int)-1))],⟨2,[(0,.var (funs r (l.drop m)).view),(1,.var [.i 0,.slice .nil (.t .ty [])])]⟩))
  (by omega) (fun m=>rfl) rfl trivial ?_ ?_ ?_
 ·simp only[List.drop_length]
  exact(M.W [some 0,some 1])
 ·intro m hm _
  have e:funs r (l.drop m)=funT l[m] (funs r (l.drop (m+1))):=by rw[List.drop_eq_getElem_cons hm];rfl
  repeat'(first|refine M.gw ?_|fail)
  refine L.ixt m rfl rfl rfl rfl (by omega) rfl rfl hm ?_
  repeat'(first|refine M.gw ?_|fail)
  refine⟨rfl,trivial,?_⟩
  simp only[e]
  exact(M.W [some 0,some 1])
 ·intro _
  repeat'(first|refine M.gw ?_|fail)
  simp[tupV,V.wk,V.wks,Ty.view]
theorem step_c(t:Tm):PC E 88 [.agg t.view] (.agg (stepT t).view):=by
 have h1:=tfun_c t.ty [natT,listT,t.ty] (by simp)
 have h2:=tfun_c t.ty [natT,t.ty] (by simp)
 refine M.F Tryd.func88 ?_
 repeat'(first|refine M.gw ?_|refine M.c2 (tnat_c) ?_|refine M.c2 (tlist_c) ?_|refine M.c2 (h1) ?_|refine M.c2 (h2) ?_|refine M.cs ?_ ?_<;>intro h|fail)
 ·have h':t.kind=9:=by simpa using h
  have e:stepT t=funs t.ty [natT,listT,t.ty]:=if_pos h'
  simp[tupV,V.wk,V.wks,constV,Ty.view,e]
 ·have h':¬t.kind=9:=by simpa using h
  have e:stepT t=funs t.ty [natT,t.ty]:=if_neg h'
  simp[tupV,V.wk,V.wks,constV,Ty.view,e]
end Go.Ab
namespace Go.Ab
open Go Go.Proofs
set_option maxRecDepth 100000
set_option maxHeartbeats 2000000
set_option linter.all false
theorem nat_of{x:Ty}(h:x.err=0)(hk:x.kind=1):x=natT:=(Ty.eq_iff _ _).2 ⟨hk,shape_zero ((Ty.err_iff x).1 h).1 (by omega)⟩
theorem list_of{x:Ty}(h:x.err=0)(hk:x.kind=2):x=listT:=(Ty.eq_iff _ _).2 ⟨hk,shape_zero ((Ty.err_iff x).1 h).1 (by omega)⟩
theorem sz_big{x:Ty}(h:x.err=0):x.size≤64:=((Ty.err_iff x).1 h).2
theorem node4_c(i:Int)(th:Ty)(ts:List Tm):PC E 73 [.agg (Tm.mk 4 i th ts).view,.agg (pad3 [])] (.tup [.agg (ofT (rule 4 th []).1).view,.i (rule 4 th []).2]):=by
 have hp:=plain_c 4
 rw[show plainK 4=[1] from rfl] at hp
 have ho:=of_c (.mk 1 []) (by decide)
 refine M.F Tryd.func73 ?_
 repeat'(first|refine M.gw ?_|refine M.c2 (hp) ?_|fail)
 refine AW.range 0 (fun m=>True)
  (fun m=>([(2,.ptr 0 0),(3,.ptr 1 0),(4,.ptr 2 0),(6,.s .int [1]),(18,.s .int []),(19,.i ((0:Nat):Int)),(20,.i m)],⟨3,[(0,.var (Tm.mk 4 i th ts).view),(1,.var (pad3 [])),(2,.var [.i 0,.slice .nil (.t .ty []),.i 0])]⟩))
  (by omega) (fun m=>rfl) (fun m=>rfl) rfl trivial (M.W [some 0,some 1,some 2]) ?_ ?_
 ·intro m hm hP
  omega
 ·intro hP
  repeat'(first|refine M.gw ?_|refine M.c2 (ho) ?_|fail)
  have er:rule 4 th []=(natT,0):=by simp[rule]
  rw[er]
  rfl
theorem node7_c(i:Int)(th:Ty)(ts:List Tm):PC E 73 [.agg (Tm.mk 7 i th ts).view,.agg (pad3 [])] (.tup [.agg (ofT (rule 7 th []).1).view,.i (rule 7 th []).2]):=by
 have hp:=plain_c 7
 rw[show plainK 7=[2] from rfl] at hp
 have ho:=of_c (.mk 2 []) (by decide)
 refine M.F Tryd.func73 ?_
 repeat'(first|refine M.gw ?_|refine M.c2 (hp) ?_|fail)
 refine AW.range 0 (fun m=>True)
  (fun m=>([(2,.ptr 0 0),(3,.ptr 1 0),(4,.ptr 2 0),(6,.s .int [2]),(18,.s .int []),(19,.i ((0:Nat):Int)),(20,.i m)],⟨3,[(0,.var (Tm.mk 7 i th ts).view),(1,.var (pad3 [])),(2,.var [.i 0,.slice .nil (.t .ty []),.i 0])]⟩))
  (by omega) (fun m=>rfl) (fun m=>rfl) rfl trivial (M.W [some 0,some 1,some 2]) ?_ ?_
 ·intro m hm hP
  omega
 ·intro hP
  repeat'(first|refine M.gw ?_|refine M.c2 (ho) ?_|fail)
  have er:rule 7 th []=(listT,0):=by simp[rule]
  rw[er]
  rfl
theorem node13_c(i:Int)(th:Ty)(ts:List Tm):PC E 73 [.agg (Tm.mk 13 i th ts).view,.agg (pad3 [])] (.tup [.agg (ofT (rule 13 th []).1).view,.i (rule 13 th []).2]):=by
 have hp:=plain_c 13
 rw[show plainK 13=[5] from rfl] at hp
 have ho:=of_c (.mk 5 []) (by decide)
 refine M.F Tryd.func73 ?_
 repeat'(first|refine M.gw ?_|refine M.c2 (hp) ?_|fail)
 refine AW.range 0 (fun m=>True)
  (fun m=>([(2,.ptr 0 0),(3,.ptr 1 0),(4,.ptr 2 0),(6,.s .int [5]),(18,.s .int []),(19,.i ((0:Nat):Int)),(20,.i m)],⟨3,[(0,.var (Tm.mk 13 i th ts).view),(1,.var (pad3 [])),(2,.var [.i 0,.slice .nil (.t .ty []),.i 0])]⟩))
  (by omega) (fun m=>rfl) (fun m=>rfl) rfl trivial (M.W [some 0,some 1,some 2]) ?_ ?_
 ·intro m hm hP
  omega
 ·intro hP
  repeat'(first|refine M.gw ?_|refine M.c2 (ho) ?_|fail)
  have er:rule 13 th []=(unitT,0):=by simp[rule]
  rw[er]
  rfl
theorem node5_c(i:Int)(th:Ty)(ts:List Tm)(x:Ty)(ex:x.err=0):PC E 73 [.agg (Tm.mk 5 i th ts).view,.agg (pad3 [x])] (.tup [.agg (ofT (rule 5 th [x]).1).view,.i (rule 5 th [x]).2]):=by
 have hp:=plain_c 5
 rw[show plainK 5=[1,1] from rfl] at hp
 have ho:=of_c (.mk 1 []) (by decide)
 have i0:=is_c (ofT x) 1
 refine M.F Tryd.func73 ?_
 repeat'(first|refine M.gw ?_|refine M.c2 (hp) ?_|fail)
 refine AW.range 1 (fun m=>(0<m→x.kind=1))
  (fun m=>([(2,.ptr 0 0),(3,.ptr 1 0),(4,.ptr 2 0),(6,.s .int [1,1]),(18,.s .int [1]),(19,.i ((1:Nat):Int)),(20,.i m)],⟨3,[(0,.var (Tm.mk 5 i th ts).view),(1,.var (pad3 [x])),(2,.var [.i 0,.slice .nil (.t .ty []),.i 0])]⟩))
  (by omega) (fun m=>rfl) (fun m=>rfl) rfl (by simp) (M.W [some 0,some 1,some 2]) ?_ ?_
 ·intro m hm hP
  obtain rfl:m=0:=by omega
  repeat'(first|refine M.gw ?_|refine M.c2 (i0) ?_|refine M.cs ?_ ?_<;>intro h|fail)
  ·have h':¬x.kind=1:=by simpa [ofT] using h
   have e:¬x=natT:=fun hc=>h' (by rw[hc];rfl)
   have er:rule 5 th [x]=(noTy,7):=by simp[rule,e]
   rw[er]
   simp[tupV,V.wk,V.wks,constV,Sz.view,ofT,noTy,Ty.num,Ty.err,Ty.shape_eq,arT]
  ·have h':x.kind=1:=by simpa [ofT] using h
   exact⟨rfl,fun _=>h',(M.W [some 0,some 1,some 2])⟩
 ·intro hP
  repeat'(first|refine M.gw ?_|refine M.c2 (ho) ?_|fail)
  have q0:x=natT:=nat_of ex (by have:=hP;simp_all)
  have er:rule 5 th [x]=(natT,0):=by simp[rule,q0]
  rw[er]
  rfl
theorem node8_c(i:Int)(th:Ty)(ts:List Tm)(x:Ty)(ex:x.err=0)(y:Ty)(ey:y.err=0):PC E 73 [.agg (Tm.mk 8 i th ts).view,.agg (pad3 [x,y])] (.tup [.agg (ofT (rule 8 th [x,y]).1).view,.i (rule 8 th [x,y]).2]):=by
 have hp:=plain_c 8
 rw[show plainK 8=[2,1,2] from rfl] at hp
 have ho:=of_c (.mk 2 []) (by decide)
 have i0:=is_c (ofT x) 1
 have i1:=is_c (ofT y) 2
 refine M.F Tryd.func73 ?_
 repeat'(first|refine M.gw ?_|refine M.c2 (hp) ?_|fail)
 refine AW.range 2 (fun m=>(0<m→x.kind=1)∧(1<m→y.kind=2))
  (fun m=>([(2,.ptr 0 0),(3,.ptr 1 0),(4,.ptr 2 0),(6,.s .int [2,1,2]),(18,.s .int [1,2]),(19,.i ((2:Nat):Int)),(20,.i m)],⟨3,[(0,.var (Tm.mk 8 i th ts).view),(1,.var (pad3 [x,y])),(2,.var [.i 0,.slice .nil (.t .ty []),.i 0])]⟩))
  (by omega) (fun m=>rfl) (fun m=>rfl) rfl (by simp) (M.W [some 0,some 1,some 2]) ?_ ?_
 ·intro m hm hP
  by_cases hm0:m=0
  ·subst hm0
   repeat'(first|refine M.gw ?_|refine M.c2 (i0) ?_|refine M.cs ?_ ?_<;>intro h|fail)
   ·have h':¬x.kind=1:=by simpa [ofT] using h
    have e:¬x=natT:=fun hc=>h' (by rw[hc];rfl)
    have er:rule 8 th [x,y]=(noTy,7):=by simp[rule,e]
    rw[er]
    simp[tupV,V.wk,V.wks,constV,Sz.view,ofT,noTy,Ty.num,Ty.err,Ty.shape_eq,arT]
   ·have h':x.kind=1:=by simpa [ofT] using h
    exact⟨rfl,⟨by intro _;first|exact h'|(have:=hP;simp_all),by omega⟩,(M.W [some 0,some 1,some 2])⟩
  obtain rfl:m=1:=by omega
  repeat'(first|refine M.gw ?_|refine M.c2 (i1) ?_|refine M.cs ?_ ?_<;>intro h|fail)
  ·have h':¬y.kind=2:=by simpa [ofT] using h
   have e:¬y=listT:=fun hc=>h' (by rw[hc];rfl)
   have er:rule 8 th [x,y]=(noTy,7):=by simp[rule,e]
   rw[er]
   simp[tupV,V.wk,V.wks,constV,Sz.view,ofT,noTy,Ty.num,Ty.err,Ty.shape_eq,arT]
  ·have h':y.kind=2:=by simpa [ofT] using h
   exact⟨rfl,⟨by intro _;first|exact h'|(have:=hP;simp_all),by intro _;first|exact h'|(have:=hP;simp_all)⟩,(M.W [some 0,some 1,some 2])⟩
 ·intro hP
  repeat'(first|refine M.gw ?_|refine M.c2 (ho) ?_|fail)
  have q0:x=natT:=nat_of ex (by have:=hP;simp_all)
  have q1:y=listT:=list_of ey (by have:=hP;simp_all)
  have er:rule 8 th [x,y]=(listT,0):=by simp[rule,q0,q1]
  rw[er]
  rfl
theorem plainN_c(k:Int)(h:plainK k=[]):PC E 84 [.i k] (.s .int []):=by
 have:=plain_c k
 rwa [h] at this
theorem sameSz_ok(a b:Ty)(ha:a.err=0)(hb:b.err=0):PC E 87 [.agg (ofT a).view,.agg (ofT b).view] (.bool (decide (a=b))):=by
 have:=sameSz_c (ofT a) (ofT b) (by have:=sz_big ha;show a.size<_;omega)
 rw[show(ofT a).ty=a from rfl,show(ofT b).ty=b from rfl,same_ok ha hb] at this
 exact this
theorem nodes_bd{a:Ty}(h:a.err=0):0≤(ofT a).nodes∧(ofT a).nodes<1099511627776:=by
 have:=sz_big h
 simp only[ofT,num_ok h];omega
theorem node3_c(i:Int)(th:Ty)(ts:List Tm)(x:Ty)(ex:x.err=0)(y:Ty)(ey:y.err=0):PC E 73 [.agg (Tm.mk 3 i th ts).view,.agg (pad3 [x,y])] (.tup [.agg (ofT (rule 3 th [x,y]).1).view,.i (rule 3 th [x,y]).2]):=by
 have hp:=plainN_c 3 rfl
 have hi:PC E 85 [.agg (ofT x).view,.i 4] (.bool (x.kind==4)):=is_c (ofT x) 4
 by_cases hk:x.kind=4
 ·obtain ⟨a,b,hab⟩:=Ty.args_two ((Ty.err_iff x).1 ex).1 (.inr hk)
  have hx:x=funT a b:=(Ty.eq_iff _ _).2 ⟨hk,hab⟩
  subst hx
  have ea:a.err=0:=Ty.err_args ex (by simp)
  have eb:b.err=0:=Ty.err_args ex (by simp)
  have p0:PC E 86 [.agg (ofT (funT a b)).view,.i 0] (.agg (ofT a).view):=part_c (ofT (funT a b)) 0 (by simp[ofT]) (by have:=sz_big ex;show(funT a b).size<_;omega)
  have p1:PC E 86 [.agg (ofT (funT a b)).view,.i 1] (.agg (ofT b).view):=part_c (ofT (funT a b)) 1 (by simp[ofT]) (by have:=sz_big ex;show(funT a b).size<_;omega)
  have sm:=sameSz_ok a y ea ey
  rw[show(Ty.kind (funT a b)==4)=true from rfl] at hi
  refine M.F Tryd.func73 ?_
  repeat'(first|refine M.gw ?_|refine M.c2 (hp) ?_|refine M.c2 (hi) ?_|refine M.c2 (p0) ?_|refine M.c2 (p1) ?_|refine M.c2 (sm) ?_|refine M.bl ?_|refine M.cs ?_ ?_<;>intro h|fail)
  ·have h':¬a=y:=by simpa using h
   have er:rule 3 th [funT a b,y]=(noTy,7):=by simp[rule,h']
   rw[er];rfl
  ·have h':a=y:=by simpa using h
   have er:rule 3 th [funT a b,y]=(b,0):=by simp[rule,h']
   rw[er]
   simp[tupV,V.wk,V.wks,constV,Sz.view]
 ·have hi:PC E 85 [.agg (ofT x).view,.i 4] (.bool false):=by rw[show(x.kind==4)=false by simpa using hk] at hi;exact hi
  have er:rule 3 th [x,y]=(noTy,7):=by simp[rule,hk]
  rw[er]
  refine M.F Tryd.func73 ?_
  repeat'(first|refine M.gw ?_|refine M.c2 (hp) ?_|refine M.c2 (hi) ?_|refine M.bl ?_|fail)
  rfl
theorem node10_c(i:Int)(th:Ty)(ts:List Tm)(x:Ty)(ex:x.err=0)(y:Ty)(ey:y.err=0):PC E 73 [.agg (Tm.mk 10 i th ts).view,.agg (pad3 [x,y])] (.tup [.agg (ofT (rule 10 th [x,y]).1).view,.i (rule 10 th [x,y]).2]):=by
 have hp:=plainN_c 10 rfl
 have hj:=join_c 3 (ofT x) (ofT y) (nodes_bd ex) (nodes_bd ey)
 rw[join_ok (.inl rfl) ex ey] at hj
 have er:rule 10 th [x,y]=okT (.mk 3 [x,y]):=by simp[rule,twoT]
 rw[er]
 refine M.F Tryd.func73 ?_
 repeat'(first|refine M.gw ?_|refine M.c2 (hp) ?_|refine M.c2 (hj) ?_|refine M.bl ?_|fail)
 simp[tupV,V.wk,V.wks,constV,Sz.view]
theorem node11_c(i:Int)(th:Ty)(ts:List Tm)(x:Ty)(ex:x.err=0):PC E 73 [.agg (Tm.mk 11 i th ts).view,.agg (pad3 [x])] (.tup [.agg (ofT (rule 11 th [x]).1).view,.i (rule 11 th [x]).2]):=by
 have hp:=plainN_c 11 rfl
 have hi:PC E 85 [.agg (ofT x).view,.i 3] (.bool (x.kind==3)):=is_c (ofT x) 3
 by_cases hk:x.kind=3
 ·obtain ⟨a,b,hab⟩:=Ty.args_two ((Ty.err_iff x).1 ex).1 (.inl hk)
  have hx:x=twoT a b:=(Ty.eq_iff _ _).2 ⟨hk,hab⟩
  subst hx
  have p0:PC E 86 [.agg (ofT (twoT a b)).view,.i 0] (.agg (ofT a).view):=part_c (ofT (twoT a b)) 0 (by simp[ofT]) (by have:=sz_big ex;show(twoT a b).size<_;omega)
  rw[show(Ty.kind (twoT a b)==3)=true from rfl] at hi
  have er:rule 11 th [twoT a b]=(a,0):=by simp[rule]
  rw[er]
  refine M.F Tryd.func73 ?_
  repeat'(first|refine M.gw ?_|refine M.c2 (hp) ?_|refine M.c2 (hi) ?_|refine M.c2 (p0) ?_|refine M.bl ?_|fail)
  simp[tupV,V.wk,V.wks,constV,Sz.view]
 ·have hi:PC E 85 [.agg (ofT x).view,.i 3] (.bool false):=by rw[show(x.kind==3)=false by simpa using hk] at hi;exact hi
  have er:rule 11 th [x]=(noTy,7):=by simp[rule,hk]
  rw[er]
  refine M.F Tryd.func73 ?_
  repeat'(first|refine M.gw ?_|refine M.c2 (hp) ?_|refine M.c2 (hi) ?_|refine M.bl ?_|fail)
  rfl
theorem node12_c(i:Int)(th:Ty)(ts:List Tm)(x:Ty)(ex:x.err=0):PC E 73 [.agg (Tm.mk 12 i th ts).view,.agg (pad3 [x])] (.tup [.agg (ofT (rule 12 th [x]).1).view,.i (rule 12 th [x]).2]):=by
 have hp:=plainN_c 12 rfl
 have hi:PC E 85 [.agg (ofT x).view,.i 3] (.bool (x.kind==3)):=is_c (ofT x) 3
 by_cases hk:x.kind=3
 ·obtain ⟨a,b,hab⟩:=Ty.args_two ((Ty.err_iff x).1 ex).1 (.inl hk)
  have hx:x=twoT a b:=(Ty.eq_iff _ _).2 ⟨hk,hab⟩
  subst hx
  have p0:PC E 86 [.agg (ofT (twoT a b)).view,.i 1] (.agg (ofT b).view):=part_c (ofT (twoT a b)) 1 (by simp[ofT]) (by have:=sz_big ex;show(twoT a b).size<_;omega)
  rw[show(Ty.kind (twoT a b)==3)=true from rfl] at hi
  have er:rule 12 th [twoT a b]=(b,0):=by simp[rule]
  rw[er]
  refine M.F Tryd.func73 ?_
  repeat'(first|refine M.gw ?_|refine M.c2 (hp) ?_|refine M.c2 (hi) ?_|refine M.c2 (p0) ?_|refine M.bl ?_|fail)
  simp[tupV,V.wk,V.wks,constV,Sz.view]
 ·have hi:PC E 85 [.agg (ofT x).view,.i 3] (.bool false):=by rw[show(x.kind==3)=false by simpa using hk] at hi;exact hi
  have er:rule 12 th [x]=(noTy,7):=by simp[rule,hk]
  rw[er]
  refine M.F Tryd.func73 ?_
  repeat'(first|refine M.gw ?_|refine M.c2 (hp) ?_|refine M.c2 (hi) ?_|refine M.bl ?_|fail)
  rfl
theorem node6_c(i:Int)(th:Ty)(ts:List Tm)(eh:th.err=0)(x:Ty)(ex:x.err=0)(y:Ty)(ey:y.err=0)(z:Ty)(ez:z.err=0):PC E 73 [.agg (Tm.mk 6 i th ts).view,.agg (pad3 [x,y,z])] (.tup [.agg (ofT (rule 6 th [x,y,z]).1).view,.i (rule 6 th [x,y,z]).2]):=by
 have hp:=plainN_c 6 rfl
 have ho:=of_c th (by have:=sz_big eh;omega)
 have sm:=sameSz_ok x th ex eh
 have hst:=step_c (Tm.mk 6 i th ts)
 rw[show stepT (Tm.mk 6 i th ts)=funT natT (funT th th) from rfl] at hst
 have s2:=sameTy2_c _ y (funT natT (funT th th)) (Nat.le_refl _) (by have:=sz_big ey;omega)
 have hi:PC E 85 [.agg (ofT z).view,.i 1] (.bool (z.kind==1)):=is_c (ofT z) 1
 have hz:(z.kind==1)=decide (z=natT):=by
  by_cases h:z=natT
  ·subst h;rfl
  ·have:¬z.kind=1:=fun hk=>h (nat_of ez hk)
   rw[decide_eq_false h];simpa using this
 rw[hz] at hi
 refine M.F Tryd.func73 ?_
 repeat'(first|refine M.gw ?_|refine M.c2 (hp) ?_|refine M.c2 (ho) ?_|refine M.c2 (sm) ?_|refine M.c2 (hst) ?_|refine M.c2 (s2) ?_|refine M.c2 (hi) ?_|refine M.gs ?_ ?_<;>intro h|refine M.bl ?_|refine M.cs ?_ ?_<;>intro h|fail)
 all_goals
  clear hp ho sm hst s2 hi hz
  by_cases p1:x=th<;>by_cases p2:y=funT natT (funT th th)<;>by_cases p3:z=natT<;>first
   |(exfalso;simp[p1,p2,p3] at*;done)
   |(have er:rule 6 th [x,y,z]=(noTy,7):=by simp[rule,p1,p2,p3]
     rw[er];rfl)
   |(have er:rule 6 th [x,y,z]=(th,0):=by simp[rule,p1,p2,p3]
     rw[er];simp[tupV,V.wk,V.wks,constV,Sz.view];done)
theorem node9_c(i:Int)(th:Ty)(ts:List Tm)(eh:th.err=0)(x:Ty)(ex:x.err=0)(y:Ty)(ey:y.err=0)(z:Ty)(ez:z.err=0):PC E 73 [.agg (Tm.mk 9 i th ts).view,.agg (pad3 [x,y,z])] (.tup [.agg (ofT (rule 9 th [x,y,z]).1).view,.i (rule 9 th [x,y,z]).2]):=by
 have hp:=plainN_c 9 rfl
 have ho:=of_c th (by have:=sz_big eh;omega)
 have sm:=sameSz_ok x th ex eh
 have hst:=step_c (Tm.mk 9 i th ts)
 rw[show stepT (Tm.mk 9 i th ts)=funT natT (funT listT (funT th th)) from rfl] at hst
 have s2:=sameTy2_c _ y (funT natT (funT listT (funT th th))) (Nat.le_refl _) (by have:=sz_big ey;omega)
 have hi:PC E 85 [.agg (ofT z).view,.i 2] (.bool (z.kind==2)):=is_c (ofT z) 2
 have hz:(z.kind==2)=decide (z=listT):=by
  by_cases h:z=listT
  ·subst h;rfl
  ·have:¬z.kind=2:=fun hk=>h (list_of ez hk)
   rw[decide_eq_false h];simpa using this
 rw[hz] at hi
 refine M.F Tryd.func73 ?_
 repeat'(first|refine M.gw ?_|refine M.c2 (hp) ?_|refine M.c2 (ho) ?_|refine M.c2 (sm) ?_|refine M.c2 (hst) ?_|refine M.c2 (s2) ?_|refine M.c2 (hi) ?_|refine M.gs ?_ ?_<;>intro h|refine M.bl ?_|refine M.cs ?_ ?_<;>intro h|fail)
 all_goals
  clear hp ho sm hst s2 hi hz
  by_cases p1:x=th<;>by_cases p2:y=funT natT (funT listT (funT th th))<;>by_cases p3:z=listT<;>first
   |(exfalso;simp[p1,p2,p3] at*;done)
   |(have er:rule 9 th [x,y,z]=(noTy,7):=by simp[rule,p1,p2,p3]
     rw[er];rfl)
   |(have er:rule 9 th [x,y,z]=(th,0):=by simp[rule,p1,p2,p3]
     rw[er];simp[tupV,V.wk,V.wks,constV,Sz.view];done)
theorem node_c(t:Tm)(L:List Ty)(hsh:t.shape=true)(k1:t.kind≠1)(k2:t.kind≠2)(hl:L.length=t.args.length)(hg:∀x∈L,x.err=0):PC E 73 [.agg t.view,.agg (pad3 L)] (.tup [.agg (ofT (rule t.kind t.ty L).1).view,.i (rule t.kind t.ty L).2]):=by
 have hak:=arK_len hsh
 have hty:=shape_ty hsh
 rw[←hl] at hak
 obtain⟨k,i,th,xs⟩:=t
 simp only[Tm.kind_mk,Tm.ty_mk] at*
 rcases arK_cases hak with⟨hn,hk⟩|⟨hn,hk⟩|⟨hn,hk⟩|⟨hn,hk⟩
 ·have hL:=List.eq_nil_of_length_eq_zero hn
  subst hL
  rcases hk with rfl|rfl|rfl|rfl
  ·exact absurd rfl k1
  ·exact node4_c i th xs
  ·exact node7_c i th xs
  ·exact node13_c i th xs
 ·obtain ⟨x,hL⟩:=len_1 hn
  subst hL
  have ex:=hg x (by simp)
  rcases hk with rfl|rfl|rfl|rfl
  ·exact absurd rfl k2
  ·exact node5_c i th xs x ex
  ·exact node11_c i th xs x ex
  ·exact node12_c i th xs x ex
 ·obtain ⟨x,y,hL⟩:=len_2 hn
  subst hL
  have ex:=hg x (by simp)
  have ey:=hg y (by simp)
  rcases hk with rfl|rfl|rfl
  ·exact node3_c i th xs x ex y ey
  ·exact node8_c i th xs x ex y ey
  ·exact node10_c i th xs x ex y ey
 ·obtain ⟨x,y,z,hL⟩:=len_3 hn
  subst hL
  have ex:=hg x (by simp)
  have ey:=hg y (by simp)
  have ez:=hg z (by simp)
  rcases hk with rfl|rfl
  ·exact node6_c i th xs (hty rfl) x ex y ey z ez
  ·exact node9_c i th xs (hty rfl) x ex y ey z ez
end Go.Ab
namespace Go.Ab
open Go Go.Proofs
set_option maxRecDepth 100000
set_option maxHeartbeats 4000000
set_option linter.all false
abbrev CT(t:Tm)(g:List Ty):Prop:=PC E 50 [.s .sz (g.map ofT),.agg t.view] (.tup [.agg (ofT (t.inf g).1).view,.i (t.inf g).2])
theorem ct1(t:Tm)(g:List Ty)(hsh:t.shape=true)(hgn:g.length<274877906944)(k1:t.kind=1):CT t g:=by
 have hix:=shape_index hsh
 have hinf:=Tm.inf_eq g t
 rw[if_pos k1] at hinf
 refine M.F Tryd.func50 ?_
 by_cases hlt:t.index≥g.length
 ·rw [if_pos hlt] at hinf
  repeat'(first|refine M.gw ?_|refine M.cs ?_ ?_<;>intro h|fail)
  all_goals first
   |(exfalso;simp_all;done)
   |(rw[hinf];rfl)
   |(exfalso;simp at h;omega)
 ·rw [if_neg hlt] at hinf
  have h0:g.length-1-t.index.toNat<g.length:=by omega
  have h1:g.length-1-t.index.toNat<(g.map ofT).length:=by simpa using h0
  have eg:(g.map ofT)[g.length-1-t.index.toNat]=ofT g[g.length-1-t.index.toNat]:=by simp
  rw[at0_lt h0] at hinf
  have hl:(g.map ofT).length=g.length:=by simp
  repeat'(first|refine M.gw ?_|refine M.cs ?_ ?_<;>intro h|fail)
  all_goals first
   |(exfalso;simp_all;done)
   |(exfalso;simp at h;omega)
   |skip
  refine L.ixt (g.length-1-t.index.toNat) rfl rfl rfl rfl (by simp only[hl];omega) rfl rfl h1 ?_
  rw[eg]
  repeat'(first|refine M.gw ?_|fail)
  rw[hinf]
  simp[tupV,V.wk,V.wks,constV,Sz.view,EC.view]
theorem ct2(i:Int)(th:Ty)(a:Tm)(g:List Ty)(hsh:(Tm.mk 2 i th [a]).shape=true)(hg:∀x∈g,x.err=0)(hgn:g.length<274877906944)(ih:CT a (g++[th])):CT (Tm.mk 2 i th [a]) g:=by
 have hth:th.err=0:=shape_ty hsh rfl
 have hg':∀x∈g++[th],x.err=0:=fun x hx=>by
  rcases List.mem_append.1 hx with hx|hx
  ·exact hg x hx
  ·simp at hx;subst hx;exact hth
 have hgood:=Tm.inf_good a (g++[th]) (shape_args hsh a (by simp)) hg'
 have hinf:(Tm.mk 2 i th [a]).inf g=if(a.inf (g++[th])).2≠0 then(noTy,(a.inf (g++[th])).2) else okT (funT th (a.inf (g++[th])).1):=by
  rw[Tm.inf_eq]
  simp only[Tm.kind_mk,Tm.args_mk,Tm.ty_mk,Tm.infs,ne_eq]
  by_cases h:(a.inf (g++[th])).2=0<;>simp[h]
 have hc:PC E 50 [.s .sz (g.map ofT++[ofT th]),.agg a.view] (.tup [.agg (ofT (a.inf (g++[th])).1).view,.i (a.inf (g++[th])).2]):=by
  have:=ih
  unfold CT at this
  rwa [List.map_append] at this
 have ho:=of_c th (by have:=sz_big hth;omega)
 have hj:(a.inf (g++[th])).2=0→PC E 72 _ _:=fun h=>join_c 4 (ofT th) (ofT (a.inf (g++[th])).1) (nodes_bd hth) (nodes_bd (hgood h))
 refine M.F Tryd.func50 ?_
 repeat'(first|refine M.gw ?_|refine M.c2 (ho) ?_|refine M.c2 (hc) ?_|refine M.c2 (hj (by simpa using h)) ?_|refine M.cs ?_ ?_<;>intro h|fail)
 ·have h':(a.inf (g++[th])).2≠0:=by simpa using h
  rw[hinf,if_pos h'];rfl
 ·have h':(a.inf (g++[th])).2=0:=by simpa using h
  rw[hinf,if_neg (by simp[h']),show okT (funT th (a.inf (g++[th])).1)=okT (.mk 4 [th,(a.inf (g++[th])).1]) from rfl,join_ok (.inr rfl) hth (hgood h')]
  simp[tupV,V.wk,V.wks,constV,Sz.view]
theorem cn0(k i:Int)(th:Ty)(g:List Ty)(hsh:(Tm.mk k i th []).shape=true)(k1:k≠1)(k2:k≠2)(hg:∀x∈g,x.err=0):CT (Tm.mk k i th []) g:=by
 have hinf:=Tm.inf_eq g (Tm.mk k i th [])
 simp only[Tm.kind_mk,Tm.ty_mk,Tm.args_mk,k1,k2,if_false] at hinf
 have hnode:PC E 73 [.agg (Tm.mk k i th []).view,.agg (pad3 [])] (.tup [.agg (ofT (rule k th []).1).view,.i (rule k th []).2]):=node_c (Tm.mk k i th []) [] hsh k1 k2 rfl (by intro x hx;simp at hx)
 refine M.F Tryd.func50 ?_
 repeat'(first|refine M.gw ?_|refine M.cs ?_ ?_<;>intro h|fail)
 all_goals first
  |(exfalso;simp_all;done)
  |skip
 refine AW.range 0 (fun m=>True)
  (fun m=>([(0,.s .sz (g.map ofT)),(3,.ptr 0 0),(4,.ptr 1 0),(9,.ptr 2 0),(65,.s .tm []),(66,.i ((0:Nat):Int)),(67,.i m)],⟨3,[(0,.var (Tm.mk k i th []).view),(1,.var [.i 0,.slice .nil (.t .ty []),.i 0]),(2,.var (pad3 []))]⟩))
  (by omega) (fun m=>rfl) (fun m=>rfl) rfl trivial (M.W [some 0,some 1,some 2]) ?_ ?_
 ·intro m hm hP
  omega
 ·intro hP
  have er:(Tm.mk k i th []).inf g=rule k th []:=by rw[hinf];simp[Tm.infs]
  have hnode:=hnode
  repeat'(first|refine M.gw ?_|refine M.c2 (hnode) ?_|fail)
  rw[er]
  simp[tupV,V.wk,V.wks,constV,Sz.view]
theorem cn1(k i:Int)(th:Ty)(a:Tm)(g:List Ty)(hsh:(Tm.mk k i th [a]).shape=true)(k1:k≠1)(k2:k≠2)(hg:∀x∈g,x.err=0)(ia:CT a g):CT (Tm.mk k i th [a]) g:=by
 have hinf:=Tm.inf_eq g (Tm.mk k i th [a])
 simp only[Tm.kind_mk,Tm.ty_mk,Tm.args_mk,k1,k2,if_false] at hinf
 have ga:=Tm.inf_good a g (shape_args hsh a (by simp)) hg
 have hnode:(a.inf g).2=0→PC E 73 [.agg (Tm.mk k i th [a]).view,.agg (pad3 [(a.inf g).1])] (.tup [.agg (ofT (rule k th [(a.inf g).1]).1).view,.i (rule k th [(a.inf g).1]).2]):=fun ha=>node_c (Tm.mk k i th [a]) [(a.inf g).1] hsh k1 k2 rfl (by intro x hx;simp at hx;subst hx;exact ga ha)
 refine M.F Tryd.func50 ?_
 repeat'(first|refine M.gw ?_|refine M.cs ?_ ?_<;>intro h|fail)
 all_goals first
  |(exfalso;simp_all;done)
  |skip
 refine AW.range 1 (fun m=>(0<m→(a.inf g).2=0))
  (fun m=>([(0,.s .sz (g.map ofT)),(3,.ptr 0 0),(4,.ptr 1 0),(9,.ptr 2 0),(65,.s .tm [a]),(66,.i ((1:Nat):Int)),(67,.i m)],⟨3,[(0,.var (Tm.mk k i th [a]).view),(1,.var [.i 0,.slice .nil (.t .ty []),.i 0]),(2,.var (if m=0 then pad3 [] else pad3 [(a.inf g).1]))]⟩))
  (by omega) (fun m=>rfl) (fun m=>rfl) rfl (by simp) (M.W [some 0,some 1,some 2]) ?_ ?_
 ·intro m hm hP
  obtain rfl:m=0:=by omega
  repeat'(first|refine M.gw ?_|refine M.c2 (ia) ?_|refine M.cs ?_ ?_<;>intro h|fail)
  ·have h':(a.inf g).2≠0:=by simpa using h
   have er:(Tm.mk k i th [a]).inf g=(noTy,(a.inf g).2):=by rw[hinf];simp[Tm.infs,h']
   rw[er];rfl
  ·have h':(a.inf g).2=0:=by simpa using h
   exact⟨rfl,fun _=>h',(M.W [some 0,some 1,some 2])⟩
 ·intro hP
  have za:(a.inf g).2=0:=by have:=hP;simp_all
  have er:(Tm.mk k i th [a]).inf g=rule k th [(a.inf g).1]:=by rw[hinf];simp[Tm.infs,za]
  have hnode:=hnode za
  repeat'(first|refine M.gw ?_|refine M.c2 (hnode) ?_|fail)
  rw[er]
  simp[tupV,V.wk,V.wks,constV,Sz.view]
theorem cn2(k i:Int)(th:Ty)(a:Tm)(b:Tm)(g:List Ty)(hsh:(Tm.mk k i th [a,b]).shape=true)(k1:k≠1)(k2:k≠2)(hg:∀x∈g,x.err=0)(ia:CT a g)(ib:CT b g):CT (Tm.mk k i th [a,b]) g:=by
 have hinf:=Tm.inf_eq g (Tm.mk k i th [a,b])
 simp only[Tm.kind_mk,Tm.ty_mk,Tm.args_mk,k1,k2,if_false] at hinf
 have ga:=Tm.inf_good a g (shape_args hsh a (by simp)) hg
 have gb:=Tm.inf_good b g (shape_args hsh b (by simp)) hg
 have hnode:(a.inf g).2=0→(b.inf g).2=0→PC E 73 [.agg (Tm.mk k i th [a,b]).view,.agg (pad3 [(a.inf g).1,(b.inf g).1])] (.tup [.agg (ofT (rule k th [(a.inf g).1,(b.inf g).1]).1).view,.i (rule k th [(a.inf g).1,(b.inf g).1]).2]):=fun ha hb=>node_c (Tm.mk k i th [a,b]) [(a.inf g).1,(b.inf g).1] hsh k1 k2 rfl (by intro x hx;simp at hx;rcases hx with rfl|rfl<;>first|exact ga ha|exact gb hb)
 refine M.F Tryd.func50 ?_
 repeat'(first|refine M.gw ?_|refine M.cs ?_ ?_<;>intro h|fail)
 all_goals first
  |(exfalso;simp_all;done)
  |skip
 refine AW.range 2 (fun m=>(0<m→(a.inf g).2=0)∧(1<m→(b.inf g).2=0))
  (fun m=>([(0,.s .sz (g.map ofT)),(3,.ptr 0 0),(4,.ptr 1 0),(9,.ptr 2 0),(65,.s .tm [a,b]),(66,.i ((2:Nat):Int)),(67,.i m)],⟨3,[(0,.var (Tm.mk k i th [a,b]).view),(1,.var [.i 0,.slice .nil (.t .ty []),.i 0]),(2,.var (if m=0 then pad3 [] else if m=1 then pad3 [(a.inf g).1] else pad3 [(a.inf g).1,(b.inf g).1]))]⟩))
  (by omega) (fun m=>rfl) (fun m=>rfl) rfl (by simp) (M.W [some 0,some 1,some 2]) ?_ ?_
 ·intro m hm hP
  by_cases hm0:m=0
  ·subst hm0
   repeat'(first|refine M.gw ?_|refine M.c2 (ia) ?_|refine M.cs ?_ ?_<;>intro h|fail)
   ·have h':(a.inf g).2≠0:=by simpa using h
    have er:(Tm.mk k i th [a,b]).inf g=(noTy,(a.inf g).2):=by rw[hinf];simp[Tm.infs,h']
    rw[er];rfl
   ·have h':(a.inf g).2=0:=by simpa using h
    exact⟨rfl,⟨by intro _;first|exact h'|(have:=hP;simp_all),by omega⟩,(M.W [some 0,some 1,some 2])⟩
  obtain rfl:m=1:=by omega
  repeat'(first|refine M.gw ?_|refine M.c2 (ib) ?_|refine M.cs ?_ ?_<;>intro h|fail)
  ·have h':(b.inf g).2≠0:=by simpa using h
   have za:(a.inf g).2=0:=by have:=hP;simp_all
   have er:(Tm.mk k i th [a,b]).inf g=(noTy,(b.inf g).2):=by rw[hinf];simp[Tm.infs,h',za]
   rw[er];rfl
  ·have h':(b.inf g).2=0:=by simpa using h
   exact⟨rfl,⟨by intro _;first|exact h'|(have:=hP;simp_all),by intro _;first|exact h'|(have:=hP;simp_all)⟩,(M.W [some 0,some 1,some 2])⟩
 ·intro hP
  have za:(a.inf g).2=0:=by have:=hP;simp_all
  have zb:(b.inf g).2=0:=by have:=hP;simp_all
  have er:(Tm.mk k i th [a,b]).inf g=rule k th [(a.inf g).1,(b.inf g).1]:=by rw[hinf];simp[Tm.infs,za,zb]
  have hnode:=hnode za zb
  repeat'(first|refine M.gw ?_|refine M.c2 (hnode) ?_|fail)
  rw[er]
  simp[tupV,V.wk,V.wks,constV,Sz.view]
theorem cn3(k i:Int)(th:Ty)(a:Tm)(b:Tm)(c:Tm)(g:List Ty)(hsh:(Tm.mk k i th [a,b,c]).shape=true)(k1:k≠1)(k2:k≠2)(hg:∀x∈g,x.err=0)(ia:CT a g)(ib:CT b g)(ic:CT c g):CT (Tm.mk k i th [a,b,c]) g:=by
 have hinf:=Tm.inf_eq g (Tm.mk k i th [a,b,c])
 simp only[Tm.kind_mk,Tm.ty_mk,Tm.args_mk,k1,k2,if_false] at hinf
 have ga:=Tm.inf_good a g (shape_args hsh a (by simp)) hg
 have gb:=Tm.inf_good b g (shape_args hsh b (by simp)) hg
 have gc:=Tm.inf_good c g (shape_args hsh c (by simp)) hg
 have hnode:(a.inf g).2=0→(b.inf g).2=0→(c.inf g).2=0→PC E 73 [.agg (Tm.mk k i th [a,b,c]).view,.agg (pad3 [(a.inf g).1,(b.inf g).1,(c.inf g).1])] (.tup [.agg (ofT (rule k th [(a.inf g).1,(b.inf g).1,(c.inf g).1]).1).view,.i (rule k th [(a.inf g).1,(b.inf g).1,(c.inf g).1]).2]):=fun ha hb hc=>node_c (Tm.mk k i th [a,b,c]) [(a.inf g).1,(b.inf g).1,(c.inf g).1] hsh k1 k2 rfl (by intro x hx;simp at hx;rcases hx with rfl|rfl|rfl<;>first|exact ga ha|exact gb hb|exact gc hc)
 refine M.F Tryd.func50 ?_
 repeat'(first|refine M.gw ?_|refine M.cs ?_ ?_<;>intro h|fail)
 all_goals first
  |(exfalso;simp_all;done)
  |skip
 refine AW.range 3 (fun m=>(0<m→(a.inf g).2=0)∧(1<m→(b.inf g).2=0)∧(2<m→(c.inf g).2=0))
  (fun m=>([(0,.s .sz (g.map ofT)),(3,.ptr 0 0),(4,.ptr 1 0),(9,.ptr 2 0),(65,.s .tm [a,b,c]),(66,.i ((3:Nat):Int)),(67,.i m)],⟨3,[(0,.var (Tm.mk k i th [a,b,c]).view),(1,.var [.i 0,.slice .nil (.t .ty []),.i 0]),(2,.var (if m=0 then pad3 [] else if m=1 then pad3 [(a.inf g).1] else if m=2 then pad3 [(a.inf g).1,(b.inf g).1] else pad3 [(a.inf g).1,(b.inf g).1,(c.inf g).1]))]⟩))
  (by omega) (fun m=>rfl) (fun m=>rfl) rfl (by simp) (M.W [some 0,some 1,some 2]) ?_ ?_
 ·intro m hm hP
  by_cases hm0:m=0
  ·subst hm0
   repeat'(first|refine M.gw ?_|refine M.c2 (ia) ?_|refine M.cs ?_ ?_<;>intro h|fail)
   ·have h':(a.inf g).2≠0:=by simpa using h
    have er:(Tm.mk k i th [a,b,c]).inf g=(noTy,(a.inf g).2):=by rw[hinf];simp[Tm.infs,h']
    rw[er];rfl
   ·have h':(a.inf g).2=0:=by simpa using h
    exact⟨rfl,⟨by intro _;first|exact h'|(have:=hP;simp_all),by omega,by omega⟩,(M.W [some 0,some 1,some 2])⟩
  by_cases hm1:m=1
  ·subst hm1
   repeat'(first|refine M.gw ?_|refine M.c2 (ib) ?_|refine M.cs ?_ ?_<;>intro h|fail)
   ·have h':(b.inf g).2≠0:=by simpa using h
    have za:(a.inf g).2=0:=by have:=hP;simp_all
    have er:(Tm.mk k i th [a,b,c]).inf g=(noTy,(b.inf g).2):=by rw[hinf];simp[Tm.infs,h',za]
    rw[er];rfl
   ·have h':(b.inf g).2=0:=by simpa using h
    exact⟨rfl,⟨by intro _;first|exact h'|(have:=hP;simp_all),by intro _;first|exact h'|(have:=hP;simp_all),by omega⟩,(M.W [some 0,some 1,some 2])⟩
  obtain rfl:m=2:=by omega
  repeat'(first|refine M.gw ?_|refine M.c2 (ic) ?_|refine M.cs ?_ ?_<;>intro h|fail)
  ·have h':(c.inf g).2≠0:=by simpa using h
   have za:(a.inf g).2=0:=by have:=hP;simp_all
   have zb:(b.inf g).2=0:=by have:=hP;simp_all
   have er:(Tm.mk k i th [a,b,c]).inf g=(noTy,(c.inf g).2):=by rw[hinf];simp[Tm.infs,h',za,zb]
   rw[er];rfl
  ·have h':(c.inf g).2=0:=by simpa using h
   exact⟨rfl,⟨by intro _;first|exact h'|(have:=hP;simp_all),by intro _;first|exact h'|(have:=hP;simp_all),by intro _;first|exact h'|(have:=hP;simp_all)⟩,(M.W [some 0,some 1,some 2])⟩
 ·intro hP
  have za:(a.inf g).2=0:=by have:=hP;simp_all
  have zb:(b.inf g).2=0:=by have:=hP;simp_all
  have zc:(c.inf g).2=0:=by have:=hP;simp_all
  have er:(Tm.mk k i th [a,b,c]).inf g=rule k th [(a.inf g).1,(b.inf g).1,(c.inf g).1]:=by rw[hinf];simp[Tm.infs,za,zb,zc]
  have hnode:=hnode za zb zc
  repeat'(first|refine M.gw ?_|refine M.c2 (hnode) ?_|fail)
  rw[er]
  simp[tupV,V.wk,V.wks,constV,Sz.view]
theorem ctypeOf_c:∀(n:Nat) (t:Tm) (g:List Ty),t.full≤n→t.shape=true→(∀x∈g,x.err=0)→g.length+n<274877906944→CT t g:=by
 intro n
 induction n with
 |zero=>intro t g h;have:=t.full_pos;omega
 |succ n ih=>
 intro t g hsz hsh hg hgn
 have hsz':=Tm.full_eq t
 have hak:=arK_len hsh
 have hargs:=shape_args hsh
 by_cases k1:t.kind=1
 ·exact ct1 t g hsh (by omega) k1
 have hih:∀x∈t.args,∀g':List Ty,(∀y∈g',y.err=0)→g'.length+n<274877906944→CT x g':=fun x hx g' hg' hl=>ih x g' (by have:=lsum_mem Tm.full hx;omega) (hargs x hx) hg' hl
 have hth:typedK t.kind=true→t.ty.err=0:=shape_ty hsh
 clear hsz hsz' ih
 obtain⟨k,i,th,xs⟩:=t
 simp only[Tm.kind_mk,Tm.args_mk,Tm.ty_mk] at*
 by_cases k2:k=2
 ·subst k2
  obtain⟨a,rfl⟩:=len_1 (Option.some.inj hak).symm
  refine ct2 i th a g hsh hg (by omega) (hih a (by simp) (g++[th]) ?_ (by simp;omega))
  intro x hx
  rcases List.mem_append.1 hx with hx|hx
  ·exact hg x hx
  ·simp at hx;subst hx;exact hth rfl
 ·have hx:∀x∈xs,CT x g:=fun x hx=>hih x hx g hg (by omega)
  rcases arK_cases hak with⟨hn,hk⟩|⟨hn,hk⟩|⟨hn,hk⟩|⟨hn,hk⟩
  ·have hL:=List.eq_nil_of_length_eq_zero hn
   subst hL
   exact cn0 k i th g hsh k1 k2 hg
  ·obtain ⟨a,rfl⟩:=len_1 hn
   exact cn1 k i th a g hsh k1 k2 hg (hx a (by simp))
  ·obtain ⟨a,b,rfl⟩:=len_2 hn
   exact cn2 k i th a b g hsh k1 k2 hg (hx a (by simp)) (hx b (by simp))
  ·obtain ⟨a,b,c,rfl⟩:=len_3 hn
   exact cn3 k i th a b c g hsh k1 k2 hg (hx a (by simp)) (hx b (by simp)) (hx c (by simp))
theorem termsTypeOf_c(g:List Ty)(t:Tm)(ht:t.full<137438953472)(hg:(g.map Ty.size).sum<1099511627776):PC E 19 [.s .ty g,.agg t.view] (.tup [.agg (typeOf g t).1.view,.i (typeOf g t).2]):=by
 have h1:=context2_c g hg
 have h2:=check_c t (by omega)
 have h3:=from_c g hg
 by_cases hc:ctxErr g=0
 case neg=>
  have e:typeOf g t=(noTy,ctxErr g):=if_pos hc
  rw[e]
  refine M.F Tryd.func19 ?_
  repeat'(first|refine M.gw ?_|refine M.c2 (h1) ?_|refine M.cs ?_ ?_<;>intro h|fail)
  ·rfl
  ·exfalso;simp_all;done
 by_cases he:t.err=0
 case neg=>
  have e:typeOf g t=(noTy,t.err):=by unfold typeOf typed;rw[if_neg (by simp[hc]),if_pos he]
  rw[e];rw[hc] at h1
  refine M.F Tryd.func19 ?_
  repeat'(first|refine M.gw ?_|refine M.c2 (h1) ?_|refine M.c2 (h2) ?_|refine M.cs ?_ ?_<;>intro h|fail)
  ·rfl
  ·exfalso;simp_all;done
 have h4:=ctypeOf_c _ t g (Nat.le_refl _) ((Tm.err_iff t).1 he).1 (ctxErr_all hc).2 (by have:=(ctxErr_all hc).1;omega)
 have e:typeOf g t=t.inf g:=by unfold typeOf typed;rw[if_neg (by simp[hc]),if_neg (by simp[he])]
 rw[e];rw[hc] at h1;rw[he] at h2
 have hgood:=Tm.inf_good t g ((Tm.err_iff t).1 he).1 (ctxErr_all hc).2
 have hno:=inf_no t g
 unfold CT at h4
 generalize t.inf g=r at*
 obtain⟨u,er⟩:=r
 dsimp only at*
 by_cases hi:er=0
 ·subst hi
  have h5:=ownTy_c _ u (Nat.le_refl _) (by have:=(Ty.err_iff _).1 (hgood rfl);omega)
  refine M.F Tryd.func19 ?_
  repeat'(first|refine M.gw ?_|refine M.c2 (h1) ?_|refine M.c2 (h2) ?_|refine M.c2 (h3) ?_|refine M.c2 (h4) ?_|refine M.c2 (h5) ?_|fail)
  rfl
 ·obtain rfl:=hno hi
  refine M.F Tryd.func19 ?_
  repeat'(first|refine M.gw ?_|refine M.c2 (h1) ?_|refine M.c2 (h2) ?_|refine M.c2 (h3) ?_|refine M.c2 (h4) ?_|refine M.cs ?_ ?_<;>intro h|fail)
  ·rfl
  ·exfalso;simp_all;done
theorem sane02_c:PC E 4 [] (.bool true):=by
 have hv0:=var_c 0
 have ht:=t_c 2 natT [vT 0] (by decide) (by decide)
 have hq:=termsTypeOf_c [] (lmT natT (vT 0)) (by decide) (by decide)
 have e:typeOf [] (lmT natT (vT 0))=(funT natT natT,0):=by decide
 rw[e] at hq
 have hf:=fun_c natT natT (by decide) (by decide)
 have hs:=sameTy_r (funT natT natT) (by decide)
 refine M.F Tryd.func4 ?_
 repeat'(first|refine M.gw ?_|refine M.c2 (hv0) ?_|refine M.c2 (nat_c) ?_|refine M.c2 (ht) ?_|refine M.c2 (hq) ?_|refine M.c2 (hf) ?_|refine M.c2 (hs) ?_|fail)
 all_goals rfl
theorem appT_full(f:Tm)(l:List Tm):(appT f l).full=f.full+(l.map fun x=>2+x.full).sum:=by
 induction l generalizing f with
 |nil=>simp[appT]
 |cons x l ih=>
  rw[show appT f (x::l)=appT (.mk 3 0 (.mk 0 []) [f,x]) l from rfl,ih]
  simp only[Tm.full,Tm.fulls,Ty.size,Ty.sizes,List.map_cons,List.sum_cons]
  omega
theorem sum_two(l:List Tm):(l.map fun x=>2+x.full).sum≤3*(l.map Tm.full).sum:=by
 induction l with
 |nil=>simp
 |cons x l ih=>have:=x.full_pos;simp only[List.map_cons,List.sum_cons];omega
theorem tof_c(k:Int)(l:List Tm):PC E 75 [.i k,.s .tm l] (.agg (Tm.mk k 0 (.mk 0 []) l).view):=by
 refine M.F Tryd.func75 ?_
 repeat'(first|refine M.gw ?_|fail)
 simp[tupV,V.wk,V.wks,constV,Ty.view,Tm.view]
theorem ownTm_c:∀(b:Nat) (t:Tm),t.full≤b→b<1099511627776→PC E 54 [.agg t.view] (.agg t.view):=by
 intro b
 induction b with
 |zero=>intro t h;have:=t.full_pos;omega
 |succ b ih=>
 intro t hsz hb
 have hsz':=Tm.full_eq t
 have hlen:=lsum_len Tm.full Tm.full_pos t.args
 have hty:=ownTy_c _ t.ty (Nat.le_refl _) (by omega)
 refine M.F Tryd.func54 ?_
 repeat'(first|refine M.gw ?_|refine M.c2 (hty) ?_|fail)
 refine AW.range t.args.length (fun m=>True)
  (fun m=>([(1,.ptr 0 0),(2,.ptr 1 0),(3,.ptr 2 0),(15,.s .tm t.args),(16,.i t.args.length),(17,.i m)],⟨4,[(0,.var t.view),(1,.var [.i 0,.i 0,.i 0,.slice .nil (.t .ty []),.slice .nil (.t .tm [])]),(2,.var [.i t.kind,.i t.index,.i t.ty.kind,.s .ty t.ty.args,.slice (.own 3) (.t .tm (t.args.take m))]),(3,.row)]⟩))
  (by omega) (fun m=>rfl) (fun m=>rfl) rfl trivial (M.W [some 0,some 1,some 2,none]) ?_ ?_
 ·intro m hm hP
  have hs2:=lsum_mem Tm.full (List.getElem_mem hm)
  repeat'(first|refine M.gw ?_|refine M.c2 (ih _ ?_ ?_) ?_|exact M.le|exact M.lt|fail)
  exact⟨rfl,trivial,(M.W [some 0,some 1,some 2,some 5] (he:=(by(repeat'(first|exact trivial|exact Or.inr ⟨_,U,rfl⟩|refine And.intro ?_ ?_|refine⟨_,U,_,U,_,U,?_⟩|exact VLe.refl _|exact VLe.of_eq (by simp[Sto.upd,List.take_append_getElem])));done)))⟩
 ·intro hP
  repeat'(first|refine M.gw ?_|fail)
  simp[tupV,V.wk,V.wks,constV,Ty.view,Tm.view]
theorem tapp_c(f:Tm)(l:List Tm)(hl:l.length<1000000000):PC E 55 [.agg f.view,.s .tm l] (.agg (appT f l).view):=by
 refine M.F Tryd.func55 ?_
 repeat'(first|refine M.gw ?_|fail)
 refine AW.range l.length (fun m=>True)
  (fun m=>([(1,.s .tm l),(2,.ptr 0 0),(4,.ptr 1 0),(7,.s .tm l),(8,.i l.length),(9,.i m)],⟨2,[(0,.var (appT f (l.take m)).view),(1,.var [.i 0,.i 0,.i 0,.slice .nil (.t .ty []),.slice .nil (.t .tm [])])]⟩))
  (by omega) (fun m=>rfl) (fun m=>rfl) rfl trivial ?_ ?_ ?_
 ·simp only[List.take_zero]
  exact(M.W [some 0,some 1])
 ·intro m hm hP
  have e:appT f (l.take (m+1))=apT (appT f (l.take m)) l[m]:=by rw[←List.take_append_getElem hm,appT_snoc]
  have ho:=tof_c 3 [appT f (l.take m),l[m]]
  repeat'(first|refine M.gw ?_|refine M.c2 (ho) ?_|fail)
  refine⟨rfl,trivial,?_⟩
  simp only[e]
  exact(M.W [some 0,some 1])
 ·intro hP
  repeat'(first|refine M.gw ?_|fail)
  simp[tupV,V.wk,V.wks,Tm.view]
theorem applyN_take(f:Tm)(l:List Tm)(m:Nat)(hm:m<l.length):applyN f (l.take (m+1))=applyN f (l.take m)+(1+l[m].size):=by
 unfold applyN
 rw[lsum_take (fun x:Tm=>1+x.size) l m hm];omega
theorem applyN_le(f:Tm)(l:List Tm):applyN f l≤f.full+2*(l.map Tm.full).sum:=by
 have h1:=f.size_le_full
 have:(l.map fun x=>1+x.size).sum≤2*(l.map Tm.full).sum:=by
  induction l with
  |nil=>simp
  |cons x l ih=>have:=x.full_pos;have:=x.size_le_full;simp only[List.map_cons,List.sum_cons];omega
 unfold applyN
 omega
theorem applyN_mono(f:Tm)(l:List Tm)(m:Nat):applyN f (l.take m)≤f.full+2*(l.map Tm.full).sum:=by
 have h1:=applyN_le f (l.take m)
 have h2:=lsum_take_le Tm.full l m
 omega
theorem num_of{t:Tm}(h:t.err=0):t.num=t.size:=by simp[Tm.num,h]
theorem num_not{t:Tm}(h:¬t.err=0):t.num=0:=by simp[Tm.num,h]
theorem termsApply_c(f:Tm)(l:List Tm)(hf:f.full<100000000000)(hl:(l.map Tm.full).sum<100000000000)(hn:l.length<1000000000):PC E 22 [.agg f.view,.s .tm l] (.tup [.agg (applyS f l).view,.i (applyE f l)]):=by
 have hc:=checkTm_c f (by omega)
 by_cases h0:f.err=0
 case neg=>
  have e1:applyE f l=f.err:=if_pos h0
  have e2:applyS f l=noTm:=by unfold applyS;rw[e1,if_neg h0]
  rw[e1,e2]
  refine M.F Tryd.func22 ?_
  repeat'(first|refine M.gw ?_|refine M.c2 (hc) ?_|refine M.cs ?_ ?_<;>intro h|fail)
  ·rfl
  ·exfalso;simp_all;done
 have hnum:=num_of h0
 rw[h0,hnum] at hc
 have hsz:=f.size_le_full
 have ha:=tapp_c f l hn
 have ho:=ownTm_c _ (appT f l) (Nat.le_refl _) (by rw[appT_full];have:=sum_two l;omega)
 refine M.F Tryd.func22 ?_
 repeat'(first|refine M.gw ?_|refine M.c2 (hc) ?_|fail)
 refine AW.range l.length (fun m=>∀j (hj:j<l.length),j<m→l[j].err=0)
  (fun m=>([(1,.s .tm l),(2,.ptr 0 0),(4,.ptr 1 0),(5,.i 0),(6,.i (applyN f (l.take m))),(21,.s .tm l),(22,.i l.length),(23,.i m)],⟨2,[(0,.var f.view),(1,.var [.i 0,.i 0,.i 0,.slice .nil (.t .ty []),.slice .nil (.t .tm [])])]⟩))
  (by omega) (fun m=>rfl) (fun m=>rfl) rfl (fun j hj h=>by omega) ?_ ?_ ?_
 ·simp only[List.take_zero,show applyN f []=f.size by simp[applyN]]
  exact(M.W [some 0,some 1])
 ·intro m hm hP
  have hs2:=lsum_mem Tm.full (List.getElem_mem hm)
  have hb:=applyN_mono f l m
  have hb2:=l[m].size_le_full
  have hck:=checkTm_c l[m] (by omega)
  by_cases hz:l[m].err=0
  ·have hnm:=num_of hz
   rw[hz,hnm] at hck
   have e:applyN f (l.take (m+1))=applyN f (l.take m)+(l[m].size+1):=by have:=applyN_take f l m hm;omega
   repeat'(first|refine M.gw ?_|refine M.c2 (hck) ?_|fail)
   refine⟨rfl,all_step (p:=fun t:Tm=>t.err=0) hm hP hz,?_⟩
   simp only[e]
   exact(M.W [some 0,some 1])
  ·have hfe:=firstErrM_at l m hm (fun j hj h=>hP j hj h) hz
   have e1:applyE f l=l[m].err:=by unfold applyE;rw[if_neg (by simp[h0]),if_pos (by rw[hfe];exact hz),hfe]
   have e2:applyS f l=noTm:=by unfold applyS;rw[e1,if_neg hz]
   rw[e1,e2]
   repeat'(first|refine M.gw ?_|refine M.c2 (hck) ?_|refine M.cs ?_ ?_<;>intro h|fail)
   ·rfl
   ·exfalso;simp_all;done
 ·intro hP
  have hfe:=firstErrM_none l hP
  have hb:=applyN_mono f l l.length
  rw[List.take_length] at hb
  by_cases hbig:applyN f l>4096
  ·have e1:applyE f l=4:=by unfold applyE;rw[if_neg (by simp[h0]),if_neg (by simp[hfe]),if_pos hbig]
   have e2:applyS f l=noTm:=by unfold applyS;rw[e1];rfl
   rw[e1,e2]
   simp only[List.take_length]
   repeat'(first|refine M.gw ?_|refine M.c2 (ha) ?_|refine M.c2 (ho) ?_|refine M.cs ?_ ?_<;>intro h|fail)
   ·rfl
   ·exfalso;simp at h;omega
  ·have e1:applyE f l=0:=by unfold applyE;rw[if_neg (by simp[h0]),if_neg (by simp[hfe]),if_neg hbig]
   have e2:applyS f l=appT f l:=by unfold applyS;rw[e1];rfl
   rw[e1,e2]
   simp only[List.take_length]
   repeat'(first|refine M.gw ?_|refine M.c2 (ha) ?_|refine M.c2 (ho) ?_|refine M.cs ?_ ?_<;>intro h|fail)
   ·exfalso;simp at h;omega
   ·rfl
theorem refApply_c(f:Tm)(l:List Tm)(hf:f.full<100000000000)(hl:(l.map Tm.full).sum<100000000000)(hn:l.length<1000000000):PC E 23 [.agg f.view,.s .tm l] (.tup [.agg (applyS f l).view,.i (applyE f l)]):=by
 have hc:=checkTmR_c f (by omega)
 by_cases h0:f.err=0
 case neg=>
  have e1:applyE f l=f.err:=if_pos h0
  have e2:applyS f l=noTm:=by unfold applyS;rw[e1,if_neg h0]
  rw[e1,e2]
  refine M.F Tryd.func23 ?_
  repeat'(first|refine M.gw ?_|refine M.c2 (hc) ?_|refine M.cs ?_ ?_<;>intro h|fail)
  ·rfl
  ·exfalso;simp_all;done
 rw[h0] at hc
 have hsz:=f.size_le_full
 have hct:=countTm_c _ f (Nat.le_refl _) (by omega)
 have hcp:=copyTm_c _ f (Nat.le_refl _) (by omega)
 refine M.F Tryd.func23 ?_
 repeat'(first|refine M.gw ?_|refine M.c2 (hc) ?_|refine M.c2 (hct) ?_|fail)
 refine AW.range l.length (fun m=>∀j (hj:j<l.length),j<m→l[j].err=0)
  (fun m=>([(1,.s .tm l),(2,.ptr 0 0),(4,.ptr 1 0),(7,.i (applyN f (l.take m))),(21,.s .tm l),(22,.i l.length),(23,.i m)],⟨2,[(0,.var f.view),(1,.var [.i 0,.i 0,.i 0,.slice .nil (.t .ty []),.slice .nil (.t .tm [])])]⟩))
  (by omega) (fun m=>rfl) (fun m=>rfl) rfl (fun j hj h=>by omega) ?_ ?_ ?_
 ·simp only[List.take_zero,show applyN f []=f.size by simp[applyN]]
  exact(M.W [some 0,some 1])
 ·intro m hm hP
  have hs2:=lsum_mem Tm.full (List.getElem_mem hm)
  have hb:=applyN_mono f l m
  have hb2:=l[m].size_le_full
  have hck:=checkTmR_c l[m] (by omega)
  have hcn:=countTm_c _ l[m] (Nat.le_refl _) (by omega)
  by_cases hz:l[m].err=0
  ·rw [hz] at hck
   have e:=applyN_take f l m hm
   repeat'(first|refine M.gw ?_|refine M.c2 (hck) ?_|refine M.c2 (hcn) ?_|fail)
   refine⟨rfl,all_step (p:=fun t:Tm=>t.err=0) hm hP hz,?_⟩
   simp only[e]
   exact(M.W [some 0,some 1])
  ·have hfe:=firstErrM_at l m hm (fun j hj h=>hP j hj h) hz
   have e1:applyE f l=l[m].err:=by unfold applyE;rw[if_neg (by simp[h0]),if_pos (by rw[hfe];exact hz),hfe]
   have e2:applyS f l=noTm:=by unfold applyS;rw[e1,if_neg hz]
   rw[e1,e2]
   repeat'(first|refine M.gw ?_|refine M.c2 (hck) ?_|refine M.c2 (hcn) ?_|refine M.cs ?_ ?_<;>intro h|fail)
   ·rfl
   ·exfalso;simp_all;done
 ·intro hP
  have hfe:=firstErrM_none l hP
  have hb:=applyN_mono f l l.length
  rw[List.take_length] at hb
  by_cases hbig:applyN f l>4096
  ·have e1:applyE f l=4:=by unfold applyE;rw[if_neg (by simp[h0]),if_neg (by simp[hfe]),if_pos hbig]
   have e2:applyS f l=noTm:=by unfold applyS;rw[e1];rfl
   rw[e1,e2]
   simp only[List.take_length]
   repeat'(first|refine M.gw ?_|refine M.c2 (hcp) ?_|refine M.cs ?_ ?_<;>intro h|fail)
   ·rfl
   ·exfalso;simp at h;omega
  ·have e1:applyE f l=0:=by unfold applyE;rw[if_neg (by simp[h0]),if_neg (by simp[hfe]),if_neg hbig]
   have e2:applyS f l=appT f l:=by unfold applyS;rw[e1];rfl
   rw[e1,e2]
   simp only[List.take_length]
   repeat'(first|refine M.gw ?_|refine M.c2 (hcp) ?_|refine M.cs ?_ ?_<;>intro h|fail)
   ·exfalso;simp at h;omega
   refine AW.range l.length (fun m=>True)
    (fun m=>([(1,.s .tm l),(2,.ptr 0 0),(4,.ptr 1 0),(44,.s .tm l),(45,.i l.length),(46,.i m)],⟨2,[(0,.var (appT f (l.take m)).view),(1,.var [.i 0,.i 0,.i 0,.slice .nil (.t .ty []),.slice .nil (.t .tm [])])]⟩))
    (by omega) (fun m=>rfl) (fun m=>rfl) rfl trivial ?_ ?_ ?_
   ·simp only[List.take_zero]
    exact(M.W [some 0,some 1])
   ·intro m hm _
    have e:appT f (l.take (m+1))=apT (appT f (l.take m)) l[m]:=by rw[←List.take_append_getElem hm,appT_snoc]
    have hs2:=lsum_mem Tm.full (List.getElem_mem hm)
    have hs3:=lsum_take_le Tm.full l m
    have hs4:=sum_two (l.take m)
    have hs5:=appT_full f (l.take m)
    have ho:=n_c 3 [appT f (l.take m),l[m]] (by simp;omega)
    repeat'(first|refine M.gw ?_|refine M.c2 (ho) ?_|fail)
    refine⟨rfl,trivial,?_⟩
    simp only[e]
    exact(M.W [some 0,some 1])
   ·intro _
    repeat'(first|refine M.gw ?_|fail)
    simp[tupV,V.wk,V.wks,Tm.view]
def lamsT(b:Tm)(l:List Ty):Tm:=l.foldr lmT b
theorem tlam_c(b:Tm)(l:List Ty)(hl:l.length<1000000):PC E 77 [.agg b.view,.s .ty l] (.agg (lamsT b l).view):=by
 refine M.F Tryd.func77 ?_
 repeat'(first|refine M.gw ?_|fail)
 refine AW.downG l.length (fun m=>True)
  (fun m=>([(1,.s .ty l),(2,.ptr 0 0),(4,.ptr 1 0),(5,.i ((m:Int)-1))],⟨2,[(0,.var (lamsT b (l.drop m)).view),(1,.var [.i 0,.i 0,.i 0,.slice .nil (.t .ty []),.slice .nil (.t .tm [])])]⟩))
  (by omega) (fun m=>rfl) rfl trivial ?_ ?_ ?_
 ·simp only[List.drop_length]
  exact(M.W [some 0,some 1])
 ·intro m hm _
  have e:lamsT b (l.drop m)=lmT l[m] (lamsT b (l.drop (m+1))):=by rw[List.drop_eq_getElem_cons hm];rfl
  repeat'(first|refine M.gw ?_|fail)
  refine L.ixt m rfl rfl rfl rfl (by omega) rfl rfl hm ?_
  repeat'(first|refine M.gw ?_|fail)
  refine⟨rfl,trivial,?_⟩
  simp only[e]
  exact(M.W [some 0,some 1])
 ·intro _
  repeat'(first|refine M.gw ?_|fail)
  simp[tupV,V.wk,V.wks,Tm.view]
theorem dfl_full{t:Ty}(h:t.shape=true)(h64:t.size≤64):(dfl t).full≤5000:=by
 have:=(dfl_facts t h h64).2.2.2;omega
theorem inhab_c:∀(n:Nat) (t:Ty),t.size≤n→n≤64→t.shape=true→PC E 57 [.agg t.view] (.agg (dfl t).view):=by
 intro n
 induction n with
 |zero=>intro t h;have:=t.size_pos;omega
 |succ n ih=>
 intro t hsz hn hs
 rcases shape_cases hs with rfl|rfl|rfl|⟨a,b,ha,hb,rfl|rfl⟩
 ·have ho:=tof_c 4 []
  refine M.F Tryd.func57 ?_
  repeat'(first|refine M.gw ?_|refine M.c2 (ho) ?_|refine M.bl ?_|fail)
  rfl
 ·have ho:=tof_c 7 []
  refine M.F Tryd.func57 ?_
  repeat'(first|refine M.gw ?_|refine M.c2 (ho) ?_|refine M.bl ?_|fail)
  rfl
 ·have ho:=tof_c 13 []
  refine M.F Tryd.func57 ?_
  repeat'(first|refine M.gw ?_|refine M.c2 (ho) ?_|refine M.bl ?_|fail)
  rfl
 ·rw [two_size] at hsz
  have h1:=ih a (by omega) (by omega) ha
  have h2:=ih b (by omega) (by omega) hb
  have ho:=tof_c 10 [dfl a,dfl b]
  rw[dfl_two]
  unfold twoT
  refine M.F Tryd.func57 ?_
  repeat'(first|refine M.gw ?_|refine M.c2 (h1) ?_|refine M.c2 (h2) ?_|refine M.c2 (ho) ?_|refine M.bl ?_|fail)
  rfl
 ·rw [fun_size] at hsz
  have h2:=ih b (by omega) (by omega) hb
  have h1:=ownTy_c _ a (Nat.le_refl _) (by omega)
  have ho:=tlam_c (dfl b) [a] (by simp)
  rw[dfl_fun]
  unfold funT
  refine M.F Tryd.func57 ?_
  repeat'(first|refine M.gw ?_|refine M.c2 (h1) ?_|refine M.c2 (h2) ?_|refine M.c2 (ho) ?_|refine M.bl ?_|fail)
  rfl
theorem closed_c:∀(n:Nat) (t:Ty),t.size≤n→n≤64→t.shape=true→PC E 59 [.agg t.view] (.agg (dfl t).view):=by
 intro n
 induction n with
 |zero=>intro t h;have:=t.size_pos;omega
 |succ n ih=>
 intro t hsz hn hs
 rcases shape_cases hs with rfl|rfl|rfl|⟨a,b,ha,hb,rfl|rfl⟩
 ·have ho:=n_c 4 [] (by simp)
  refine M.F Tryd.func59 ?_
  repeat'(first|refine M.gw ?_|refine M.c2 (ho) ?_|refine M.bl ?_|fail)
  rfl
 ·have ho:=n_c 7 [] (by simp)
  refine M.F Tryd.func59 ?_
  repeat'(first|refine M.gw ?_|refine M.c2 (ho) ?_|refine M.bl ?_|fail)
  rfl
 ·have ho:=n_c 13 [] (by simp)
  refine M.F Tryd.func59 ?_
  repeat'(first|refine M.gw ?_|refine M.c2 (ho) ?_|refine M.bl ?_|fail)
  rfl
 ·rw [two_size] at hsz
  have h1:=ih a (by omega) (by omega) ha
  have h2:=ih b (by omega) (by omega) hb
  have f1:=dfl_full ha (by omega)
  have f2:=dfl_full hb (by omega)
  have ho:=n_c 10 [dfl a,dfl b] (by simp;omega)
  rw[dfl_two]
  unfold twoT
  refine M.F Tryd.func59 ?_
  repeat'(first|refine M.gw ?_|refine M.c2 (h1) ?_|refine M.c2 (h2) ?_|refine M.c2 (ho) ?_|refine M.bl ?_|fail)
  rfl
 ·rw [fun_size] at hsz
  have h2:=ih b (by omega) (by omega) hb
  have f2:=dfl_full hb (by omega)
  have ho:=t_c 2 a [dfl b] (by simp;omega) (by omega)
  rw[dfl_fun]
  unfold funT
  refine M.F Tryd.func59 ?_
  repeat'(first|refine M.gw ?_|refine M.c2 (h2) ?_|refine M.c2 (ho) ?_|refine M.bl ?_|fail)
  rfl
def dflS(t:Ty):Tm:=if t.err=0 then dfl t else noTm
theorem termsDefault_c(t:Ty)(ht:t.size<1099511627776):PC E 24 [.agg t.view] (.tup [.agg (dflS t).view,.i t.err]):=by
 have h1:=check2Ty_c t ht
 by_cases h0:t.err=0
 ·have hs:=(Ty.err_iff t).1 h0
  have h2:=inhab_c _ t (Nat.le_refl _) hs.2 hs.1
  rw[show dflS t=dfl t from if_pos h0]
  rw[h0] at h1 ⊢
  refine M.F Tryd.func24 ?_
  repeat'(first|refine M.gw ?_|refine M.c2 (h1) ?_|refine M.c2 (h2) ?_|fail)
  rfl
 ·rw [show dflS t=noTm from if_neg h0]
  refine M.F Tryd.func24 ?_
  repeat'(first|refine M.gw ?_|refine M.c2 (h1) ?_|refine M.cs ?_ ?_<;>intro h|fail)
  ·rfl
  ·exfalso;simp_all;done
theorem refDefault_c(t:Ty)(ht:t.size<1099511627776):PC E 25 [.agg t.view] (.tup [.agg (dflS t).view,.i t.err]):=by
 have h1:=checkTyR_c t ht
 by_cases h0:t.err=0
 ·have hs:=(Ty.err_iff t).1 h0
  have h2:=closed_c _ t (Nat.le_refl _) hs.2 hs.1
  rw[show dflS t=dfl t from if_pos h0]
  rw[h0] at h1 ⊢
  refine M.F Tryd.func25 ?_
  repeat'(first|refine M.gw ?_|refine M.c2 (h1) ?_|refine M.c2 (h2) ?_|fail)
  rfl
 ·rw [show dflS t=noTm from if_neg h0]
  refine M.F Tryd.func25 ?_
  repeat'(first|refine M.gw ?_|refine M.c2 (h1) ?_|refine M.cs ?_ ?_<;>intro h|fail)
  ·rfl
  ·exfalso;simp_all;done
theorem refSize_c(t:Tm)(ht:t.full<1099511627776):PC E 14 [.agg t.view] (.tup [.i t.num,.i t.err]):=by
 have h1:=checkTmR_c t ht
 have h2:=countTm_c _ t (Nat.le_refl _) ht
 by_cases h0:t.err=0
 ·rw [num_of h0]
  rw[h0] at h1 ⊢
  refine M.F Tryd.func14 ?_
  repeat'(first|refine M.gw ?_|refine M.c2 (h1) ?_|refine M.c2 (h2) ?_|fail)
  rfl
 ·rw [num_not h0]
  refine M.F Tryd.func14 ?_
  repeat'(first|refine M.gw ?_|refine M.c2 (h1) ?_|refine M.cs ?_ ?_<;>intro h|fail)
  ·rfl
  ·exfalso;simp_all;done
theorem cntTy_c:∀(b:Nat) (t:Ty) (most:Int),t.size≤b→-1000≤most∧most≤1000000000→PC E 30 [.agg t.view,.i most] (.i (t.cn most)):=by
 intro b
 induction b with
 |zero=>intro t most h;have:=t.size_pos;omega
 |succ b ih=>
 intro t most hsz hm
 have hsz':=t.size_eq
 have he:=Ty.cn_eq most t
 have hbd:=t.cn_bd most
 refine M.F Tryd.func30 ?_
 repeat'(first|refine M.gw ?_|fail)
 refine AW.block (AW.upto t.args.length (fun i=>(i:Int)<Ty.cns most 1 (t.args.take i)∧(Ty.cns most 1 (t.args.take i)≤1∨Ty.cns most 1 (t.args.take i)≤most+1))
  (fun i=>([(1,.i most),(2,.ptr 0 0),(5,.i (Ty.cns most 1 (t.args.take i))),(6,.i i)],⟨1,[(0,.var t.view)]⟩))
  ⟨by simp[Ty.cns],.inl (by simp[Ty.cns])⟩ (M.W [some 0]) fun i hi hP=> ?_)
 obtain⟨p1,p2⟩:=hP
 by_cases hlt:i<t.args.length
 ·by_cases hle:Ty.cns most 1 (t.args.take i)≤most
  ·have htk:=Ty.cns_take hlt hle
   have hs2:=lsum_mem Ty.size (List.getElem_mem hlt)
   have hx:=t.args[i].cn_bd (most-Ty.cns most 1 (t.args.take i))
   have hc:=ih t.args[i] (most-Ty.cns most 1 (t.args.take i)) (by omega) (by omega)
   repeat'(first|refine M.go ?_|refine M.gs ?_ ?_<;>intro h|refine M.z1 5 ?_|refine M.cs ?_ ?_<;>intro h|refine M.gk ?_|fail)
   all_goals first
    |(exfalso;simp at h;omega)
    |(exfalso;simp at*;omega)
    |skip
   refine K.sq (AW.block ?_)
   repeat'(first|refine M.gw ?_|refine M.c2 (hc) ?_|fail)
   refine⟨hlt,(show((i+1:Nat):Int)<Ty.cns most 1 (t.args.take (i+1))∧(Ty.cns most 1 (t.args.take (i+1))≤1∨Ty.cns most 1 (t.args.take (i+1))≤most+1) by omega),?_⟩
   simp only[htk]
   exact(M.W [some 0])
  ·have e:=Ty.cns_end hle
   repeat'(first|refine M.go ?_|refine M.gs ?_ ?_<;>intro h|refine M.z1 5 ?_|refine M.cs ?_ ?_<;>intro h|refine M.gk ?_|fail)
   all_goals first
    |(exfalso;simp at*;omega)
    |(rw[he,e];rfl)
 ·have e:t.args.take i=t.args:=List.take_of_length_le (by omega)
  rw[e]
  repeat'(first|refine M.go ?_|refine M.gs ?_ ?_<;>intro h|refine M.z1 5 ?_|refine M.cs ?_ ?_<;>intro h|refine M.gk ?_|fail)
  all_goals first
   |(exfalso;simp at*;omega)
   |(rw[he];rfl)
theorem cntTm_c:∀(b:Nat) (t:Tm) (most:Int),t.full≤b→-100≤most∧most≤1000000000→PC E 61 [.agg t.view,.i most] (.i (t.cn most)):=by
 intro b
 induction b with
 |zero=>intro t most h;have:=t.full_pos;omega
 |succ b ih=>
 intro t most hsz hm
 have hsz':=t.full_eq
 have he:=Tm.cn_eq most t
 have hbt:=t.ty.cn_bd (most-1)
 have h1:=cntTy_c _ t.ty (most-1) (Nat.le_refl _) (by omega)
 refine M.F Tryd.func61 ?_
 repeat'(first|refine M.gw ?_|refine M.c2 (h1) ?_|fail)
 generalize hn0:1+t.ty.cn (most-1)=n0 at*
 have hn1:2≤n0∧(n0≤2∨n0≤most+1):=by omega
 clear hbt h1 hn0
 refine AW.block (AW.upto t.args.length (fun i=>(i:Int)<Tm.cns most n0 (t.args.take i)∧(Tm.cns most n0 (t.args.take i)≤2∨Tm.cns most n0 (t.args.take i)≤most+2))
  (fun i=>([(1,.i most),(2,.ptr 0 0),(5,.i (Tm.cns most n0 (t.args.take i))),(6,.i i)],⟨1,[(0,.var t.view)]⟩))
  ⟨by simp[Tm.cns];omega,by simp[Tm.cns];omega⟩ (M.W [some 0]) fun i hi hP=> ?_)
 obtain⟨p1,p2⟩:=hP
 by_cases hlt:i<t.args.length
 ·by_cases hle:Tm.cns most n0 (t.args.take i)≤most
  ·have htk:=Tm.cns_take hlt hle
   have hs2:=lsum_mem Tm.full (List.getElem_mem hlt)
   have hx:=t.args[i].cn_bd (most-Tm.cns most n0 (t.args.take i))
   have hc:=ih t.args[i] (most-Tm.cns most n0 (t.args.take i)) (by omega) (by omega)
   repeat'(first|refine M.go ?_|refine M.gs ?_ ?_<;>intro h|refine M.z1 5 ?_|refine M.cs ?_ ?_<;>intro h|refine M.gk ?_|fail)
   all_goals first
    |(exfalso;simp at h;omega)
    |(exfalso;simp at*;omega)
    |skip
   refine K.sq (AW.block ?_)
   repeat'(first|refine M.gw ?_|refine M.c2 (hc) ?_|fail)
   refine⟨hlt,(show((i+1:Nat):Int)<Tm.cns most n0 (t.args.take (i+1))∧(Tm.cns most n0 (t.args.take (i+1))≤2∨Tm.cns most n0 (t.args.take (i+1))≤most+2) by omega),?_⟩
   simp only[htk]
   exact(M.W [some 0])
  ·have e:=Tm.cns_end hle
   repeat'(first|refine M.go ?_|refine M.gs ?_ ?_<;>intro h|refine M.z1 5 ?_|refine M.cs ?_ ?_<;>intro h|refine M.gk ?_|fail)
   all_goals first
    |(exfalso;simp at*;omega)
    |(rw[he,e];rfl)
 ·have e:t.args.take i=t.args:=List.take_of_length_le (by omega)
  rw[e]
  repeat'(first|refine M.go ?_|refine M.gs ?_ ?_<;>intro h|refine M.z1 5 ?_|refine M.cs ?_ ?_<;>intro h|refine M.gk ?_|fail)
  all_goals first
   |(exfalso;simp at*;omega)
   |(rw[he];rfl)
end Go.Ab
