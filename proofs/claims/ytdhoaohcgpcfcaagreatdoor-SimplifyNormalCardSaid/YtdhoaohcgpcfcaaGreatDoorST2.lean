/- A part of the proofs of this seat. No conditions. -/
import Derived.Test.YtdhoaohcgpcfcaaGreatDoorST1
namespace Go.Ab
open Go Go.Proofs
set_option maxRecDepth 100000
set_option maxHeartbeats 4000000
set_option linter.all false
theorem evC_all{C:Nat}{most:Int}(hC:C≤1000000)(hm:0≤most∧most≤1000000):∀n,EvC C most n:=by
 intro n
 induction n with
 |zero=>
  intro g t env cs u Eb T hs hi he hz hE hu0 hu hb hn
  obtain rfl:u=most:=by omega
  exact evOut_c t env
 |succ n ih=>
  intro g t env cs u Eb T hs hi he hz hE hu0 hu hb hn
  by_cases hum:u=most
  ·subst hum
   have e:evalE u (n+1) t env u=(noRs,u,true):=by simp[evalE]
   rw[e];exact evOut_c t env
  by_cases k1:t.kind=1
  ·have e:evalE most (n+1) t env u=(env.getD (env.length-1-t.index.toNat) noRs,u+1,false):=by simp only[evalE];rw[if_neg hum,if_pos k1]
   rw[e]
   have hv:=var_vT hs k1
   have hti:=hi
   rw[Tm.inf_eq,if_pos k1] at hti
   have hlt:¬t.index≥(g.length:Int):=fun h=>by rw[if_pos h] at hti;cases hti
   have hidx:0≤t.index:=by
    rw[Tm.shape_eq,Bool.and_eq_true] at hs
    have h:=hs.1
    simp only[Tm.head,Bool.and_eq_true,decide_eq_true_eq] at h
    exact h.1.1.2
   have hl:=he.l1
   have h:=evVar_c t.index 0 [] env u hidx (by omega) (by omega) hu0 (by omega) hm.2
   generalize t.index=i at*
   rw[hv]
   exact h
  by_cases k2:t.kind=2
  ·have e:evalE most (n+1) t env u=(.mk 0 [] [] (t.arg 0) env,u+1,false):=by simp only[evalE];rw[if_neg hum,if_neg k1,if_pos k2]
   rw[e]
   obtain⟨c1,_,_⟩:=canon hs k1
   obtain⟨i,th,b,rfl,hb⟩:=mkArgs1 hs k2 rfl
   simp only[Tm.index_mk] at c1
   subst c1
   exact evLam_c th b env u hu0 (by omega) hm.2
  have hS:evalE most (n+1) t env u=if(argsE (evalE most n) env t.args (u+1)).2.2=true then(noRs,(argsE (evalE most n) env t.args (u+1)).2.1,true) else headE (callE (evalE most n)) t.kind (argsE (evalE most n) env t.args (u+1)).1 (argsE (evalE most n) env t.args (u+1)).2.1:=by
   simp only[evalE];rw[if_neg hum,if_neg k1,if_neg k2]
  obtain⟨i1,i2⟩:=inf_node k1 k2 hi
  have hszs:∀x∈t.args,x.size+1≤t.size:=fun x hx=>by have:=lsum_mem Tm.size hx;have:=t.size_eq;omega
  have hx:∀z∈t.args,z.shape=true∧(z.inf g).2=0∧g.length+z.size≤C:=fun x hx=>⟨shape_args hs x hx,i1 x hx,by have:=hszs x hx;omega⟩
  generalize evalE most (n+1) t env u=S at*
  obtain⟨c1,c2,c3⟩:=canon hs k1
  have hl:=arK_len hs
  obtain⟨k,i,th,xs⟩:=t
  simp only[Tm.kind_mk,Tm.index_mk,Tm.ty_mk,Tm.args_mk] at*
  subst c1
  have hu2:u<most:=by omega
  rcases arK_cases hl with⟨hn0,hk⟩|⟨hn0,hk⟩|⟨hn0,hk⟩|⟨hn0,hk⟩
  ·obtain rfl:=List.eq_nil_of_length_eq_zero hn0
   rcases hk with rfl|rfl|rfl|rfl
   ·exact absurd rfl k1
   ·exact ev4_c hC hm ih g th env cs u Eb T hi he hx hE hu0 hu2 hb (by omega) S hS
   ·exact ev7_c hC hm ih g th env cs u Eb T hi he hx hE hu0 hu2 hb (by omega) S hS
   ·exact ev13_c hC hm ih g th env cs u Eb T hi he hx hE hu0 hu2 hb (by omega) S hS
  ·obtain ⟨x,rfl⟩:∃x,xs=[x]:=List.length_eq_one_iff.1 hn0
   rcases hk with rfl|rfl|rfl|rfl
   ·exact absurd rfl k2
   ·exact ev5_c hC hm ih g th x env cs u Eb T hi he hx hE hu0 hu2 hb (by omega) S hS
   ·exact ev11_c hC hm ih g th x env cs u Eb T hi he hx hE hu0 hu2 hb (by omega) S hS
   ·exact ev12_c hC hm ih g th x env cs u Eb T hi he hx hE hu0 hu2 hb (by omega) S hS
  ·obtain ⟨x,y,rfl⟩:∃x y,xs=[x,y]:=two_of hn0
   rcases hk with rfl|rfl|rfl
   ·exact ev3_c hC hm ih g th x y env cs u Eb T hi he hx hE hu0 hu2 hb (by omega) S hS
   ·exact ev8_c hC hm ih g th x y env cs u Eb T hi he hx hE hu0 hu2 hb (by omega) S hS
   ·exact ev10_c hC hm ih g th x y env cs u Eb T hi he hx hE hu0 hu2 hb (by omega) S hS
  ·obtain ⟨x,y,z,rfl⟩:∃x y z,xs=[x,y,z]:=three_of hn0
   rcases hk with rfl|rfl
   ·exact ev6_c hC hm ih g th x y z env cs u Eb T hi he hx hE hu0 hu2 hb (by omega) S hS
   ·exact ev9_c hC hm ih g th x y z env cs u Eb T hi he hx hE hu0 hu2 hb (by omega) S hS
theorem plainS_c{C:Nat}{Eb:Int}{T:Ty}{r:Rs}{c:Tm}(hT:splT T)(h:Rep C Eb T r c)(hE:Eb≤3000000)(n:Nat):PC E 59 [.agg r.view,.agg T.view] (.agg (plainF (n+1) T r).view):=by
 rcases hT with rfl|rfl|rfl
 ·have e:plainF (n+1) natT r= .mk 1 r.num [] []:=by simp[plainF,natT,Ty.kind]
  rw[e]
  obtain⟨num,li,pa,⟨bk,bi,⟨bh,bg⟩,ba⟩,en⟩:=r
  refine M.F Tryz.func59 ?_
  repeat'(first|refine M.gw ?_|refine M.bl ?_|fail)
  all_goals first
   |(simp[tupV,V.wk,V.wks,constV,Vl.view,Vl.kind,Vl.num,Vl.list,Vl.args,Rs.num,Rs.list,Rs.pair,EC.view];done)
   |trace_state
 ·have e:plainF (n+1) listT r= .mk 2 0 r.list []:=by simp[plainF,listT,Ty.kind]
  rw[e]
  obtain⟨_,hl,_⟩:=list_inv h rfl
  obtain⟨num,li,pa,⟨bk,bi,⟨bh,bg⟩,ba⟩,en⟩:=r
  have hll:(Rs.mk num li pa (.mk bk bi (.mk bh bg) ba) en).list.length≤3000000:=by omega
  refine M.F Tryz.func59 ?_
  repeat'(first|refine M.gw ?_|refine M.bl ?_|fail)
  all_goals first
   |(simp[tupV,V.wk,V.wks,constV,Vl.view,Vl.kind,Vl.num,Vl.list,Vl.args,Rs.num,Rs.list,Rs.pair,EC.view];done)
   |trace_state
 ·have e:plainF (n+1) unitT r= .mk 4 0 [] []:=by simp[plainF,unitT,Ty.kind]
  rw[e]
  obtain⟨num,li,pa,⟨bk,bi,⟨bh,bg⟩,ba⟩,en⟩:=r
  refine M.F Tryz.func59 ?_
  repeat'(first|refine M.gw ?_|refine M.bl ?_|fail)
  all_goals first
   |(simp[tupV,V.wk,V.wks,constV,Vl.view,Vl.kind,Vl.num,Vl.list,Vl.args,Rs.num,Rs.list,Rs.pair,EC.view];done)
   |trace_state
theorem plainD_c{C:Nat}{Eb:Int}{T:Ty}{r:Rs}{c:Tm}(hT:datT T)(h:Rep C Eb T r c)(hE:Eb≤3000000)(n:Nat):PC E 59 [.agg r.view,.agg T.view] (.agg (plainF (n+2) T r).view):=by
 rcases hT with hT|⟨a,b,rfl,ha,hb⟩
 ·exact plainS_c hT h hE (n+1)
 ·obtain ⟨a1,b1,ra,rb,ca,cb,e1,e2,q1,q2,q3⟩:=pair_inv h rfl
  obtain⟨rfl,rfl⟩:a=a1∧b=b1:=by simpa [twoT] using e1
  have h1:=plainS_c ha q1 hE n
  have h2:=plainS_c hb q2 hE n
  obtain⟨num,li,pa,⟨bk,bi,⟨bh,bg⟩,ba⟩,en⟩:=r
  simp only[Rs.pair] at e2
  subst e2
  rw[show plainF (n+2) (twoT a b) (.mk num li [ra,rb] (.mk bk bi (.mk bh bg) ba) en)= .mk 3 0 [] [plainF (n+1) a ra,plainF (n+1) b rb] from rfl]
  generalize plainF (n+1) a ra=va at*
  generalize plainF (n+1) b rb=vb at*
  obtain⟨k1,m1,l1,s1⟩:=va
  obtain⟨k2,m2,l2,s2⟩:=vb
  unfold twoT
  refine M.F Tryz.func59 ?_
  repeat'(first|refine M.gw ?_|refine M.c2 (h1) ?_|refine M.c2 (h2) ?_|refine M.bl ?_|fail)
  all_goals first
   |(simp[tupV,V.wk,V.wks,constV,Vl.view,Vl.kind,Vl.num,Vl.list,Vl.args,Rs.num,Rs.list,Rs.pair,EC.view];done)
   |trace_state
theorem ints05_c(l:List Int)(hl:l.length<1099511627776):PC E 24 [.s .int l,.s .int l] (.bool true):=by
 refine M.F Tryz.func24 ?_
 repeat'(first|refine M.gw ?_|refine M.cs ?_ ?_<;>intro h|fail)
 all_goals first
  |(exfalso;simp at h;done)
  |skip
 refine AW.range l.length (fun m=>True) (fun m=>([(0,.s .int l),(1,.s .int l),(11,.s .int l),(12,.i l.length),(13,.i m)],⟨0,[]⟩))
  (by omega) (fun m=>rfl) (fun m=>rfl) rfl trivial (M.W []) ?_ ?_
 ·intro m hm _
  repeat'(first|refine M.gw ?_|refine M.cs ?_ ?_<;>intro h|fail)
  ·exfalso;simp at h
  ·exact ⟨rfl,trivial,(M.W [])⟩
 ·intro _
  repeat'(first|refine M.gw ?_|fail)
  rfl
theorem sameVl_c(v:Vl)(hl:v.list.length<1099511627776)(ha:v.args.length<1099511627776)(hx:∀x∈v.args,PC E 12 [.agg x.view,.agg x.view] (.bool true)):PC E 12 [.agg v.view,.agg v.view] (.bool true):=by
 have h1:=ints05_c v.list hl
 refine M.F Tryz.func12 ?_
 repeat'(first|refine M.gw ?_|refine M.c2 (h1) ?_|refine M.gs ?_ ?_<;>intro h|refine M.cs ?_ ?_<;>intro h|fail)
 all_goals first
  |(exfalso;simp at h;done)
  |skip
 refine AW.range v.args.length (fun m=>True) (fun m=>([(2,.ptr 0 0),(3,.ptr 1 0),(37,.i v.args.length),(38,.i m)],⟨2,[(0,.var v.view),(1,.var v.view)]⟩))
  (by omega) (fun m=>rfl) (fun m=>rfl) rfl trivial (M.W [some 0,some 1]) ?_ ?_
 ·intro m hm _
  have h2:=hx _ (List.getElem_mem hm)
  repeat'(first|refine M.gw ?_|refine M.c2 (h2) ?_|fail)
  all_goals first
   |exact⟨rfl,trivial,(M.W [some 0,some 1])⟩
   |trace_state
 ·intro _
  repeat'(first|refine M.gw ?_|fail)
  rfl
theorem samePlain_c{C:Nat}{Eb:Int}{T:Ty}{r:Rs}{c:Tm}(hT:datT T)(h:Rep C Eb T r c)(hE:Eb≤3000000)(n:Nat):PC E 12 [.agg (plainF (n+2) T r).view,.agg (plainF (n+2) T r).view] (.bool true):=by
 have hs:∀{T:Ty} {r:Rs} {c:Tm},splT T→Rep C Eb T r c→∀n,PC E 12 [.agg (plainF (n+1) T r).view,.agg (plainF (n+1) T r).view] (.bool true):=fun {T r c} hT h n=>by
  refine sameVl_c _ ?_ ?_ ?_
  ·rcases hT with rfl|rfl|rfl
   ·simp [plainF,natT,Ty.kind,Vl.list]
   ·obtain ⟨_,hl,_⟩:=list_inv h rfl
    simp[plainF,listT,Ty.kind,Vl.list];omega
   ·simp [plainF,unitT,Ty.kind,Vl.list]
  ·rcases hT with rfl|rfl|rfl<;>simp[plainF,natT,listT,unitT,Ty.kind,Vl.args]
  ·rcases hT with rfl|rfl|rfl<;>simp[plainF,natT,listT,unitT,Ty.kind,Vl.args]
 rcases hT with hT|⟨a,b,rfl,ha,hb⟩
 ·exact hs hT h (n+1)
 ·obtain ⟨a1,b1,ra,rb,ca,cb,e1,e2,q1,q2,q3⟩:=pair_inv h rfl
  obtain⟨rfl,rfl⟩:a=a1∧b=b1:=by simpa [twoT] using e1
  have h1:=hs ha q1 n
  have h2:=hs hb q2 n
  rw[show plainF (n+2) (twoT a b) r= .mk 3 0 [] [plainF (n+1) a (r.pair.getD 0 noRs),plainF (n+1) b (r.pair.getD 1 noRs)] from rfl,e2]
  refine sameVl_c _ (by simp[Vl.list]) (by simp[Vl.args]) fun x hx=> ?_
  simp only[Vl.args,List.getD_cons_zero,List.getD_cons_succ,List.mem_cons,List.not_mem_nil,or_false] at hx
  rcases hx with rfl|rfl
  ·exact h1
  ·exact h2
theorem level_c{T:Ty}(hT:datT T):PC E 87 [.agg T.view] (.i 0):=by
 have hs:∀{T:Ty},splT T→PC E 87 [.agg T.view] (.i 0):=fun {T} hT=>by
  rcases hT with rfl|rfl|rfl
  ·unfold natT
   refine M.F Tryz.func87 ?_
   repeat'(first|refine M.gw ?_|refine M.bl ?_|fail)
   rfl
  ·unfold listT
   refine M.F Tryz.func87 ?_
   repeat'(first|refine M.gw ?_|refine M.bl ?_|fail)
   rfl
  ·unfold unitT
   refine M.F Tryz.func87 ?_
   repeat'(first|refine M.gw ?_|refine M.bl ?_|fail)
   rfl
 rcases hT with hT|⟨a,b,rfl,ha,hb⟩
 ·exact hs hT
 ·have h1:=hs ha
  have h2:=hs hb
  unfold twoT
  refine M.F Tryz.func87 ?_
  repeat'(first|refine M.gw ?_|refine M.c2 (h1) ?_|refine M.c2 (h2) ?_|refine L.mx U U U U ?_|refine M.bl ?_|fail)
  all_goals first
   |rfl
   |trace_state
theorem datT_err{T:Ty}(hT:datT T):T.err=0:=by
 rcases hT with h|⟨a,b,rfl,ha,hb⟩
 ·rcases h with rfl|rfl|rfl<;>decide
 ·rcases ha with rfl|rfl|rfl<;>rcases hb with rfl|rfl|rfl<;>decide
theorem data01_c{T:Ty}(hT:datT T):PC E 55 [.agg T.view] (.tup [.bool true,.i 0]):=by
 have h1:=checkTyR_c T (by rcases hT with h|⟨a,b,rfl,ha,hb⟩;rcases h with rfl|rfl|rfl<;>decide;rcases ha with rfl|rfl|rfl<;>rcases hb with rfl|rfl|rfl<;>decide)
 rw[datT_err hT] at h1
 have h2:=level_c hT
 refine M.F Tryz.func55 ?_
 repeat'(first|refine M.gw ?_|refine M.c2 (h1) ?_|refine M.c2 (h2) ?_|fail)
 rfl
def evV(t:Tm)(T:Ty):V:=if(evalE 20000 20000 t [] 0).2.2=true then .tup [.agg (Vl.mk 0 0 [] []).view,.i 0,.i 5] else .tup [.agg (plainF 2 T (evalE 20000 20000 t [] 0).1).view,.i (evalE 20000 20000 t [] 0).2.1,.i 0]
theorem typeOf1{t:Tm}{T:Ty}(he:t.err=0)(hi:t.inf []=(T,0)):typeOf [] t=(T,0):=by
 unfold typeOf
 rw[if_neg (by decide)]
 unfold typed
 rw[if_neg (by simp[he]),hi]
theorem call06_c(t:Tm)(T:Ty)(hs:t.shape=true)(hi:t.inf []=(T,0))(hz:t.size≤4000)(hT:datT T):PC E 23 [.agg t.view,.s .vl [],.i 20000] (evV t T):=by
 have hf:=shape_full t hs
 have he:t.err=0:=(Tm.err_iff _).2 ⟨hs,by omega⟩
 have h1:=typeOf_c [] t (by omega) (by simp)
 rw[typeOf1 he hi] at h1
 have h2:=data01_c hT
 have h3:=evC_all (C:=5000) (most:=20000) (by omega) (by omega) 20000 [] t [] [] 0 0 T hs hi (nil_ok _) (by simp;omega) (by omega) (by omega) (by omega) (by omega) (by omega)
 obtain⟨k1,k2,k3⟩:=evalE_ok 5000 20000 20000 [] t [] [] 0 0 T hs hi (nil_ok _) (by simp;omega) (by omega) (by omega)
 unfold evV
 generalize evalE 20000 20000 t [] 0=R at*
 obtain⟨r,u,o⟩:=R
 obtain⟨tk,ta⟩:=T
 simp only at h3 k1 k2 k3 ⊢
 cases o with
 |true=>
  rw[if_pos rfl]
  refine M.F Tryz.func23 ?_
  repeat'(first|refine M.gw ?_|refine M.c2 (h1) ?_|fail)
  refine AW.range ([]:List Vl).length (fun m=>True) (fun m=>([(1,.s .vl []),(2,.i 20000),(3,.ptr 0 0),(6,.ptr 1 0),(9,.ptr 2 0),(30,.s .vl []),(31,.i ([]:List Vl).length),(32,.i m)],⟨3,[(0,.var t.view),(1,.var (Vl.mk 0 0 [] []).view),(2,.var (Ty.mk tk ta).view)]⟩))
   (by simp) (fun m=>rfl) (fun m=>rfl) rfl trivial (M.W [some 0,some 1,some 2]) ?_ ?_
  ·intro m hm _;exact absurd hm (by simp)
  intro _
  repeat'(first|refine M.gw ?_|refine M.c2 (h2) ?_|refine M.cb (h3) [3] 0 ?_|fail)
  refine AW.range ([]:List Vl).length (fun m=>True) (fun m=>([(6,.ptr 0 0),(9,.ptr 1 0),(17,.ptr 2 0),(18,.ptr 3 0),(84,.s .vl []),(85,.i ([]:List Vl).length),(86,.i m)],⟨4,[(0,.var (Vl.mk 0 0 [] []).view),(1,.var (Ty.mk tk ta).view),(2,.var [.i u,.i 20000,.bool true]),(3,.var r.view)]⟩))
   (by simp) (fun m=>rfl) (fun m=>rfl) rfl trivial (M.W [some 1,some 2,some 3,some 4]) ?_ ?_
  ·intro m hm _;exact absurd hm (by simp)
  intro _
  repeat'(first|refine M.gw ?_|fail)
  all_goals first
   |rfl
   |(simp[tupV,V.wk,V.wks,constV,Vl.view,Vl.kind,Vl.num,Vl.list,Vl.args,EC.view];done)
   |trace_state
 |false=>
  obtain⟨_,c,q1,_⟩:=k3 rfl
  have h4:=plainD_c hT q1 (by omega) 0
  rw[if_neg (by simp)]
  refine M.F Tryz.func23 ?_
  repeat'(first|refine M.gw ?_|refine M.c2 (h1) ?_|fail)
  refine AW.range ([]:List Vl).length (fun m=>True) (fun m=>([(1,.s .vl []),(2,.i 20000),(3,.ptr 0 0),(6,.ptr 1 0),(9,.ptr 2 0),(30,.s .vl []),(31,.i ([]:List Vl).length),(32,.i m)],⟨3,[(0,.var t.view),(1,.var (Vl.mk 0 0 [] []).view),(2,.var (Ty.mk tk ta).view)]⟩))
   (by simp) (fun m=>rfl) (fun m=>rfl) rfl trivial (M.W [some 0,some 1,some 2]) ?_ ?_
  ·intro m hm _;exact absurd hm (by simp)
  intro _
  repeat'(first|refine M.gw ?_|refine M.c2 (h2) ?_|refine M.cb (h3) [3] 0 ?_|fail)
  refine AW.range ([]:List Vl).length (fun m=>True) (fun m=>([(6,.ptr 0 0),(9,.ptr 1 0),(17,.ptr 2 0),(18,.ptr 3 0),(84,.s .vl []),(85,.i ([]:List Vl).length),(86,.i m)],⟨4,[(0,.var (Vl.mk 0 0 [] []).view),(1,.var (Ty.mk tk ta).view),(2,.var [.i u,.i 20000,.bool false]),(3,.var r.view)]⟩))
   (by simp) (fun m=>rfl) (fun m=>rfl) rfl trivial (M.W [some 1,some 2,some 3,some 4]) ?_ ?_
  ·intro m hm _;exact absurd hm (by simp)
  intro _
  repeat'(first|refine M.gw ?_|refine M.c2 (h4) ?_|fail)
  all_goals first
   |rfl
   |(simp[tupV,V.wk,V.wks,constV,Vl.view,Vl.kind,Vl.num,Vl.list,Vl.args,EC.view];done)
   |trace_state
theorem eval06_c(t:Tm)(T:Ty)(hs:t.shape=true)(hi:t.inf []=(T,0))(hz:t.size≤4000)(hT:datT T):PC E 11 [.agg t.view,.i 20000] (evV t T):=by
 have h1:=call06_c t T hs hi hz hT
 unfold evV at h1 ⊢
 generalize evalE 20000 20000 t [] 0=R at*
 obtain⟨r,u,o⟩:=R
 simp only at h1 ⊢
 cases o with
 |true=>
  rw[if_pos rfl] at h1 ⊢
  refine M.F Tryz.func11 ?_
  repeat'(first|refine M.gw ?_|refine M.c2 (h1) ?_|fail)
  all_goals first
   |rfl
   |trace_state
 |false=>
  rw[if_neg (by simp)] at h1 ⊢
  generalize plainF 2 T r=v at*
  obtain⟨k1,m1,l1,s1⟩:=v
  refine M.F Tryz.func11 ?_
  repeat'(first|refine M.gw ?_|refine M.c2 (h1) ?_|fail)
  all_goals first
   |rfl
   |trace_state
theorem Dk.plain_dat(d:Dk):datT d.plain.1:=by
 unfold Dk.plain
 dsimp only
 split
 ·exact .inl (.inl rfl)
 ·split
  ·exact .inl (.inr (.inl rfl))
  ·split
   ·exact .inl (.inr (.inr rfl))
   ·split
    ·exact .inr ⟨natT,listT,rfl,.inl rfl,.inr (.inl rfl)⟩
    ·exact .inr ⟨natT,natT,rfl,.inl rfl,.inl rfl⟩
theorem simplifyNormal_c(l:List Int):PC E 3 [.s .int l] (.bool true):=by
 by_cases hl:l.length≤500
 case neg=>
  have hf:=few_f l hl
  refine M.F Tryz.func3 ?_
  repeat'(first|refine M.gw ?_|refine M.c2 (awake_c) ?_|refine M.c2 (hf) ?_|fail)
  rfl
 have hf:=few_t l hl
 have hn:=new_c l
 have d0:=deck_ok hl
 have td:=data_c (Dk.mk l 0) d0
 have sp:=Dk.plain_small (Dk.mk l 0)
 have dp:=Dk.plain_dat (Dk.mk l 0)
 generalize (Dk.mk l 0).plain.1=s at*
 generalize (Dk.mk l 0).plain.2=D1 at*
 have ma:=Dk.tm_mk 5 D1 [] s smalls_nil sp (by omega) (by omega)
 generalize (Dk.tm 5 D1 [] s).1=a at*
 generalize (Dk.tm 5 D1 [] s).2=D2 at*
 have za:=ma.small_size smalls_nil sp (by omega)
 have ha:=ma.shape smalls_nil sp
 have ia:=ma.inf smalls_nil sp
 obtain⟨u,n,ra,_,hzu,hu,iu,_⟩:=Red.ex [] s _ a (Nat.le_refl _) ha ia
 have fa:=shape_full a ha
 have fu:=shape_full u hu
 have ca:=Term_c a [] s ha ia (by simp;omega) u n ra
 have ea:a.err=0:=(Tm.err_iff _).2 ⟨ha,by omega⟩
 have eu:u.err=0:=(Tm.err_iff _).2 ⟨hu,by omega⟩
 have na:=near_of (g:=[]) (t:=a) (by rw[ia]) ha (by simp;omega)
 have nu:=near_of (g:=[]) (t:=u) (by rw[iu]) hu (by simp;omega)
 have hp:=red_pst ra ha ia
 have hm:=mtch_pst (steps:=1000) hp ea eu na nu (by omega)
 have cm:=rmtch_c a u (by omega) (by omega) 1000
 have e1:=eval06_c a s ha ia (by omega) dp
 have e2:=eval06_c u s hu iu (by omega) dp
 have cl:=limits36_c _ hm
 have c5:=limits36_c 5 (by omega)
 have hsame:=fun h1 h2=>eval_same (most:=20000) (n:=20000) (m:=20000) (by omega) ha ia hu iu hp dp h1 h2 0
 obtain⟨k1,k2,k3⟩:=evalE_ok 5000 20000 20000 [] a [] [] 0 0 s ha ia (nil_ok _) (by simp;omega) (by omega) (by omega)
 obtain⟨j1,j2,j3⟩:=evalE_ok 5000 20000 20000 [] u [] [] 0 0 s hu iu (nil_ok _) (by simp;omega) (by omega) (by omega)
 unfold evV at e1 e2
 generalize evalE 20000 20000 a [] 0=R1 at*
 generalize evalE 20000 20000 u [] 0=R2 at*
 obtain⟨r1,u1,o1⟩:=R1
 obtain⟨r2,u2,o2⟩:=R2
 simp only at e1 e2 hsame k1 k2 k3 j1 j2 j3
 generalize mtchR a u 1000=e at*
 cases o1 with
 |true=>
  rw[if_pos rfl] at e1
  cases o2 with
  |true=>
   rw[if_pos rfl] at e2
   refine M.F Tryz.func3 ?_
   repeat'(first|refine M.gw ?_|refine M.c2 (awake_c) ?_|refine M.c2 (hf) ?_|refine M.cb (hn) [] 1 ?_|refine M.cb (td) [0] 0 ?_|refine M.c2 (ca) ?_|refine M.c2 (cm) ?_|refine M.c2 (e1) ?_|refine M.c2 (e2) ?_|refine M.c2 (cl) ?_|refine M.c2 (c5) ?_|refine M.gs ?_ ?_<;>intro h|fail)
   all_goals first
    |rfl
    |(exfalso;simp_all;done)
    |trace_state
  |false=>
   rw[if_neg (by simp)] at e2
   generalize plainF 2 s r2=v2 at*
   obtain⟨k6,m6,l6,s6⟩:=v2
   refine M.F Tryz.func3 ?_
   repeat'(first|refine M.gw ?_|refine M.c2 (awake_c) ?_|refine M.c2 (hf) ?_|refine M.cb (hn) [] 1 ?_|refine M.cb (td) [0] 0 ?_|refine M.c2 (ca) ?_|refine M.c2 (cm) ?_|refine M.c2 (e1) ?_|refine M.c2 (e2) ?_|refine M.c2 (cl) ?_|refine M.c2 (c5) ?_|refine M.gs ?_ ?_<;>intro h|fail)
   all_goals first
    |rfl
    |(exfalso;simp_all;done)
    |trace_state
 |false=>
  rw[if_neg (by simp)] at e1
  cases o2 with
  |true=>
   rw[if_pos rfl] at e2
   generalize plainF 2 s r1=v1 at*
   obtain⟨k6,m6,l6,s6⟩:=v1
   have c0:=limits36_c 0 (by omega)
   refine M.F Tryz.func3 ?_
   repeat'(first|refine M.gw ?_|refine M.c2 (awake_c) ?_|refine M.c2 (hf) ?_|refine M.cb (hn) [] 1 ?_|refine M.cb (td) [0] 0 ?_|refine M.c2 (ca) ?_|refine M.c2 (cm) ?_|refine M.c2 (e1) ?_|refine M.c2 (e2) ?_|refine M.c2 (cl) ?_|refine M.c2 (c5) ?_|refine M.c2 (c0) ?_|refine M.gs ?_ ?_<;>intro h|fail)
   all_goals first
    |rfl
    |(exfalso;simp_all;done)
    |trace_state
  |false=>
   rw[if_neg (by simp)] at e2
   have hv:=hsame rfl rfl
   obtain⟨_,c,q1,_⟩:=k3 rfl
   have cs:=samePlain_c dp q1 (by omega) 0
   rw[←hv] at e2
   generalize plainF (0+2) s r1=v1 at*
   obtain⟨k6,m6,l6,s6⟩:=v1
   refine M.F Tryz.func3 ?_
   repeat'(first|refine M.gw ?_|refine M.c2 (awake_c) ?_|refine M.c2 (hf) ?_|refine M.cb (hn) [] 1 ?_|refine M.cb (td) [0] 0 ?_|refine M.c2 (ca) ?_|refine M.c2 (cm) ?_|refine M.c2 (e1) ?_|refine M.c2 (e2) ?_|refine M.c2 (cl) ?_|refine M.c2 (cs) ?_|refine M.gs ?_ ?_<;>intro h|fail)
   all_goals first
    |rfl
    |(exfalso;simp_all;done)
    |(exfalso;simp at h;omega)
    |(simp[tupV,V.wk];omega)
    |trace_state
end Go.Ab
