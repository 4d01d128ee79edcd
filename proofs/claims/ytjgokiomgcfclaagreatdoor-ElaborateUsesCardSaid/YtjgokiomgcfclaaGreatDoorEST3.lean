/- A part of the proofs of this seat. No conditions. -/
import Derived.Test.YtjgokiomgcfclaaGreatDoorES7
import Derived.Test.YtjgokiomgcfclaaGreatDoorEST2
namespace Go.Ab
open Go Go.Proofs
set_option maxRecDepth 100000
set_option maxHeartbeats 4000000
set_option linter.all false
theorem Zyd(l:List Fm)(hyps:List Fm)(tys:List Ty)(g:Fm)(lem:Bool)(i:Int)(hl:l.length<1000000)(hh:hyps.length<1000000)(hib: -9223372036854775808<=i/\i<=9223372036854775807):
 PC E 61 [.s .fm l,.agg [.s .ty tys,.s .fm hyps,.i g.kind,.i g.ty.kind,.s .ty g.ty.args,.s .tm g.terms,.s .fm g.args],.bool lem,.i i]
  (.Ax [.agg (if 0<=i/\i<(if lem=true then l else hyps).length then(if lem=true then l.getD i.toNat Az else hyps.getD (hyps.length-1-i.toNat) Az) else Az).view,.i (if 0<=i/\i<(if lem=true then l else hyps).length then 0 else if lem=true then 9 else 8)]):=by
 cases lem with
 |true=>
  simp only[if_true];by_cases h0:0<=i/\i<l.length
  ·rw[if_pos h0,if_pos h0];have hlt:i.toNat<l.length:=by omega
   rw[show l.getD i.toNat Az=l[i.toNat] by simp[List.getD,hlt]];refine M.F Tryz.func61 ?_;(repeat' first|refine M.gw ?_|refine M.gs ?_ ?_<;>intro h|refine M.cs ?_ ?_<;>intro h|fail);all_goals first
    |(exfalso;simp at h;done)
    |(exfalso;simp at h;omega)
    |(exfalso;simp_all;omega)
    |skip
   refine L.B8 i.toNat rfl rfl rfl rfl (by omega) rfl rfl hlt ?_;(repeat' first|refine M.gw ?_|fail)
   rfl
  ·rw[if_neg h0,if_neg h0];refine M.F Tryz.func61 ?_;(repeat' first|refine M.gw ?_|refine M.gs ?_ ?_<;>intro h|refine M.cs ?_ ?_<;>intro h|fail);all_goals first
    |rfl
    |(exfalso;simp at h;done)
    |(exfalso;simp_all;omega)
    |(exfalso;rename_i h2 h;simp at h2 h;omega)
    |(exfalso;rename_i h2;simp at h2 h;omega)
    |trace_state
 |false=>
  simp only[Bool.false_eq_true,if_false];by_cases h0:0<=i/\i<hyps.length
  ·rw[if_pos h0,if_pos h0];have hlt:hyps.length-1-i.toNat<hyps.length:=by omega
   rw[show hyps.getD (hyps.length-1-i.toNat) Az=hyps[hyps.length-1-i.toNat] by simp[List.getD,hlt]];refine M.F Tryz.func61 ?_;(repeat' first|refine M.gw ?_|refine M.gs ?_ ?_<;>intro h|refine M.cs ?_ ?_<;>intro h|fail);all_goals first
    |(exfalso;simp at h;done)
    |(exfalso;simp at h;omega)
    |(exfalso;simp_all;omega)
    |skip
   refine L.B8 (hyps.length-1-i.toNat) rfl rfl rfl rfl (by omega) rfl rfl hlt ?_;(repeat' first|refine M.gw ?_|fail)
   rfl
  ·rw[if_neg h0,if_neg h0];refine M.F Tryz.func61 ?_;(repeat' first|refine M.gw ?_|refine M.gs ?_ ?_<;>intro h|refine M.cs ?_ ?_<;>intro h|fail);all_goals first
    |rfl
    |(exfalso;simp at h;done)
    |(exfalso;simp_all;omega)
    |(exfalso;rename_i h2 h;simp at h2 h;omega)
    |(exfalso;rename_i h2;simp at h2 h;omega)
    |trace_state
@[simp] theorem Yhu(a:Int)(fs:List Tm)(n m:Nat):(Ez a fs n m).length=m:=by simp[Ez]
@[simp] theorem Yhv(a:Int)(n m:Nat):(Ev a n m).length=m:=by simp[Ev]
@[simp] theorem Yfp(i:Int):(vd false i).length=0:=rfl
@[simp] theorem Yfl(i:Int):(vd true i).length=1:=rfl
def Gx(lem:Bool)(i:Int)(n:Nat)(ps:List Fm)(fs:List Tm)(e:Int):List St×List Fm×Int:=
 if e≠0 then([],[],e)
 else if yw (fun p=>(fill p fs).2) ps≠0 then([],[],yw (fun p=>(fill p fs).2) ps)
 else(vd lem i++Ez (GM lem i) fs n n++Ev (GM lem i) n ps.length++[Q6 (GM lem i) n ps.length],ps.map fun p=>(fill p fs).1,0)
theorem Zwg(lems hyps:List Fm)(tys:List Ty)(g f:Fm)(lem:Bool)(i:Int)(ts:List Ty)(ps:List Fm)(c:Fm)(fs:List Tm)(e:Int)
 (hck:PC E 60 [.s .fm lems,.agg [.s .ty tys,.s .fm hyps,.i g.kind,.i g.ty.kind,.s .ty g.ty.args,.s .tm g.terms,.s .fm g.args]] (.i 0)) (hsrc:PC E 61 [.s .fm lems,.agg [.s .ty tys,.s .fm hyps,.i g.kind,.i g.ty.kind,.s .ty g.ty.args,.s .tm g.terms,.s .fm g.args],.bool lem,.i i] (.Ax [.agg f.view,.i 0])) (hpa:PC E 62 [.agg f.view] (.Ax [.s .ty ts,.s .fm ps,.agg c.view])) (hm:PC E 49 [.agg c.view,.i ts.length,.agg g.view] (.Ax [.s .tm fs,.i e]))
 (hib: -9223372036854775808<=i/\i<=9223372036854775807) (hle:e=0->fs.length=ts.length) (hts:ts.length<1000000) (hpl:ps.length<1000000000) (hfs:∀t∈fs,t.full<1000000000)
 (hfi:∀p∈ps,PC E 64 [.agg p.view,.s .tm fs] (.Ax [.agg (fill p fs).1.view,.i (fill p fs).2])):
 PC E 19 [.s .fm lems,.agg [.s .ty tys,.s .fm hyps,.i g.kind,.i g.ty.kind,.s .ty g.ty.args,.s .tm g.terms,.s .fm g.args],.bool lem,.i i] (.Ax [.s .st (Gx lem i ts.length ps fs e).1,.s .fm (Gx lem i ts.length ps fs e).2.1,.i (Gx lem i ts.length ps fs e).2.2]):=by
 unfold Gx;by_cases he:e=0;case neg=>
  rw[if_pos he];cases lem with
  |false=>
   refine M.F Tryz.func19 ?_;(repeat' first|refine M.go ?_|refine M.c2 (hck) ?_|refine M.c2 (hsrc) ?_|refine M.c2 (hpa) ?_|refine M.c2 (hm) ?_|refine M.z1 11 ?_|refine M.cs ?_ ?_<;>intro h|refine M.gk ?_|fail);all_goals first
    |rfl
    |(exfalso;simp at h;exact he h)
    |(exfalso;simp at h;done)
    |(exfalso;simp_all;omega)
    |trace_state
  |true=>
   refine M.F Tryz.func19 ?_;(repeat' first|refine M.go ?_|refine M.c2 (hck) ?_|refine M.c2 (hsrc) ?_|refine M.c2 (hpa) ?_|refine M.c2 (hm) ?_|refine M.z1 11 ?_|refine M.cs ?_ ?_<;>intro h|refine M.gk ?_|fail);all_goals first
    |rfl
    |(exfalso;simp at h;exact he h)
    |(exfalso;simp at h;done)
    |(exfalso;simp_all;omega)
    |trace_state
 rw[if_neg (by simp[he])];subst he;have hfl:=hle rfl;clear hle;cases lem with
 |false=>
  obtain⟨a,ha⟩:∃a,a=GM false i:=⟨_,rfl⟩;rw[<-ha];refine M.F Tryz.func19 ?_;(repeat' first|refine M.gw ?_|refine M.c2 (hck) ?_|refine M.c2 (hsrc) ?_|refine M.c2 (hpa) ?_|refine M.c2 (hm) ?_|fail);all_goals first
   |(exfalso;simp at h;done)
   |(exfalso;simp_all;omega)
   |skip
  refine AW.range ts.length (fun m=>True) (fun m=>([(3,.i (if m=0 then a else 0)),(14,.s .ty ts),(15,.s .fm ps),(17,.s .tm fs),(18,.slice (.own 0) (.t .st (vd false i++Ez a fs ts.length m))),(67,.i ts.length),(68,.i m)],⟨1,[(0,.row)]⟩))
   (by omega) (fun m=>rfl) (fun m=>rfl) rfl trivial (by first|(subst ha;exact(M.W [none]))|(subst ha;exact(M.W [none]))|trace_state) ?_ ?_
  ·intro m hm _;have hlt:ts.length-1-m<fs.length:=by omega
   have hco:=LL _ fs[ts.length-1-m] (Nat.le_refl _) (by have:=hfs _ (List.getElem_mem hlt);omega);have hst:Gb a fs ts.length m=⟨13,if m=0 then a else 0,[fs[ts.length-1-m]],[]⟩:=by unfold Gb;rw[show fs.getD (ts.length-1-m) va=fs[ts.length-1-m] by simp[List.getD,hlt]]
   (repeat' first|refine M.gw ?_|fail);all_goals try
    refine L.B8 (ts.length-1-m) rfl rfl rfl rfl (by omega) rfl rfl hlt ?_
   (repeat' first|refine M.gw ?_|refine M.c2 (hco) ?_|fail);exact⟨rfl,trivial,(M.W [some 1] (hf:=(by(repeat'(first|exact trivial|refine And.intro ?_ ?_|refine⟨_,U,_,U,?_⟩|exact An.refl _|exact An.of_eq (by simp[Al.Aw,NH,hst,List.append_assoc])));done)))⟩
  ·intro _;(repeat' first|refine M.gw ?_|fail);obtain⟨S1,hS1⟩:∃S1,S1=vd false i++Ez a fs ts.length ts.length:=⟨_,rfl⟩;have hS1l:S1.length<=ts.length+1:=by rw[hS1];simp<;>omega
   rw[<-hS1];refine AW.range ps.length (fun m=>∀j (hj:j<ps.length),j<m->(fill ps[j] fs).2=0) (fun m=>([(3,.i (if m=0 then(if ts.length=0 then a else 0) else 0)),(17,.s .tm fs),(18,.slice (.own 0) (.t .st (S1++Ev a ts.length m))),(20,.slice (.own 1) (.t .fm ((ps.take m).map fun p=>(fill p fs).1))),(87,.s .fm ps),(88,.i ps.length),(89,.i m)],⟨2,[(0,.row),(1,.row)]⟩))
    (by omega) (fun m=>rfl) (fun m=>rfl) U (fun j hj h=>by omega) (M.W [some 0,none] (hf:=(by(repeat'(first|exact trivial|refine And.intro ?_ ?_|refine⟨_,U,_,U,?_⟩|exact An.refl _|exact An.of_eq (by simp[Al.Aw,Ev,List.take_zero,List.map_nil,List.range_zero,List.append_nil])));done))) ?_ ?_
   ·intro m hm hP;have hc:=hfi ps[m] (List.getElem_mem hm);have hst:Il a ts.length m=⟨14,if m=0 then(if ts.length=0 then a else 0) else 0,[],[]⟩:=rfl;have hmt:=yn (fun p=>(fill p fs).1) ps m hm;by_cases hx:(fill ps[m] fs).2=0
    ·rw[hx] at hc;generalize (fill ps[m] fs).1=X at*;(repeat' first|refine M.gw ?_|refine M.c2 (hc) ?_|fail);all_goals first
      |(exfalso;simp at h;done)
      |skip
     exact⟨rfl,z4 (p:=fun p=>(fill p fs).2=0) hm hP hx,(M.W [some 3,some 5] (hf:=(by(repeat'(first|exact trivial|refine And.intro ?_ ?_|refine⟨_,U,_,U,?_⟩|exact An.refl _|exact An.of_eq (by simp[Al.Aw,MU,hst,hmt,List.append_assoc])));done)))⟩
    ·have e1:=yr (f:=fun p=>(fill p fs).2) hm hP hx;rw[e1,if_pos hx];generalize (fill ps[m] fs).1=X at*;(repeat' first|refine M.go ?_|refine M.c2 (hc) ?_|refine M.z1 29 ?_|refine M.cs ?_ ?_<;>intro h|refine M.gk ?_|fail);all_goals first
      |rfl
      |(exfalso;simp at h;exact hx h)
      |trace_state
   ·intro hP;rw[yd (f:=fun p=>(fill p fs).2) fun j hj _=>hP j hj hj,if_neg (by simp)];simp only[List.take_length];(repeat' first|refine M.gw ?_|fail);subst hS1
    first
     |rfl
     |simp[zk,V.wk,V.Ak,zd,Ty.view,Tm.view]
     |trace_state
 |true=>
  obtain⟨a,ha⟩:∃a,a=GM true i:=⟨_,rfl⟩;rw[<-ha];refine M.F Tryz.func19 ?_;(repeat' first|refine M.gw ?_|refine M.c2 (hck) ?_|refine M.c2 (hsrc) ?_|refine M.c2 (hpa) ?_|refine M.c2 (hm) ?_|fail);all_goals first
   |(exfalso;simp at h;done)
   |(exfalso;simp_all;omega)
   |skip
  refine L.Io rfl rfl rfl rfl rfl rfl (by first|exact trivial|exact⟨rfl,trivial⟩) rfl rfl (by simp) ?_;(repeat' first|refine M.gw ?_|fail);refine AW.range ts.length (fun m=>True) (fun m=>([(3,.i (if m=0 then a else 0)),(14,.s .ty ts),(15,.s .fm ps),(17,.s .tm fs),(18,.slice (.own 0) (.t .st (vd true i++Ez a fs ts.length m))),(67,.i ts.length),(68,.i m)],⟨1,[(0,.row)]⟩))
   (by omega) (fun m=>rfl) (fun m=>rfl) rfl trivial (by first|(subst ha;exact(M.W [some 3]))|(subst ha;exact(M.W [some 3]))|trace_state) ?_ ?_
  ·intro m hm _;have hlt:ts.length-1-m<fs.length:=by omega
   have hco:=LL _ fs[ts.length-1-m] (Nat.le_refl _) (by have:=hfs _ (List.getElem_mem hlt);omega);have hst:Gb a fs ts.length m=⟨13,if m=0 then a else 0,[fs[ts.length-1-m]],[]⟩:=by unfold Gb;rw[show fs.getD (ts.length-1-m) va=fs[ts.length-1-m] by simp[List.getD,hlt]]
   (repeat' first|refine M.gw ?_|fail);all_goals try
    refine L.B8 (ts.length-1-m) rfl rfl rfl rfl (by omega) rfl rfl hlt ?_
   (repeat' first|refine M.gw ?_|refine M.c2 (hco) ?_|fail);exact⟨rfl,trivial,(M.W [some 1] (hf:=(by(repeat'(first|exact trivial|refine And.intro ?_ ?_|refine⟨_,U,_,U,?_⟩|exact An.refl _|exact An.of_eq (by simp[Al.Aw,NH,hst,List.append_assoc])));done)))⟩
  ·intro _;(repeat' first|refine M.gw ?_|fail);obtain⟨S1,hS1⟩:∃S1,S1=vd true i++Ez a fs ts.length ts.length:=⟨_,rfl⟩;have hS1l:S1.length<=ts.length+1:=by rw[hS1];simp<;>omega
   rw[<-hS1];refine AW.range ps.length (fun m=>∀j (hj:j<ps.length),j<m->(fill ps[j] fs).2=0) (fun m=>([(3,.i (if m=0 then(if ts.length=0 then a else 0) else 0)),(17,.s .tm fs),(18,.slice (.own 0) (.t .st (S1++Ev a ts.length m))),(20,.slice (.own 1) (.t .fm ((ps.take m).map fun p=>(fill p fs).1))),(87,.s .fm ps),(88,.i ps.length),(89,.i m)],⟨2,[(0,.row),(1,.row)]⟩))
    (by omega) (fun m=>rfl) (fun m=>rfl) U (fun j hj h=>by omega) (M.W [some 0,none] (hf:=(by(repeat'(first|exact trivial|refine And.intro ?_ ?_|refine⟨_,U,_,U,?_⟩|exact An.refl _|exact An.of_eq (by simp[Al.Aw,Ev,List.take_zero,List.map_nil,List.range_zero,List.append_nil])));done))) ?_ ?_
   ·intro m hm hP;have hc:=hfi ps[m] (List.getElem_mem hm);have hst:Il a ts.length m=⟨14,if m=0 then(if ts.length=0 then a else 0) else 0,[],[]⟩:=rfl;have hmt:=yn (fun p=>(fill p fs).1) ps m hm;by_cases hx:(fill ps[m] fs).2=0
    ·rw[hx] at hc;generalize (fill ps[m] fs).1=X at*;(repeat' first|refine M.gw ?_|refine M.c2 (hc) ?_|fail);all_goals first
      |(exfalso;simp at h;done)
      |skip
     exact⟨rfl,z4 (p:=fun p=>(fill p fs).2=0) hm hP hx,(M.W [some 3,some 5] (hf:=(by(repeat'(first|exact trivial|refine And.intro ?_ ?_|refine⟨_,U,_,U,?_⟩|exact An.refl _|exact An.of_eq (by simp[Al.Aw,MU,hst,hmt,List.append_assoc])));done)))⟩
    ·have e1:=yr (f:=fun p=>(fill p fs).2) hm hP hx;rw[e1,if_pos hx];generalize (fill ps[m] fs).1=X at*;(repeat' first|refine M.go ?_|refine M.c2 (hc) ?_|refine M.z1 29 ?_|refine M.cs ?_ ?_<;>intro h|refine M.gk ?_|fail);all_goals first
      |rfl
      |(exfalso;simp at h;exact hx h)
      |trace_state
   ·intro hP;rw[yd (f:=fun p=>(fill p fs).2) fun j hj _=>hP j hj hj,if_neg (by simp)];simp only[List.take_length];(repeat' first|refine M.gw ?_|fail);subst hS1
    first
     |rfl
     |simp[zk,V.wk,V.Ak,zd,Ty.view,Tm.view]
     |trace_state
theorem Zr8(lems hyps:List Fm)(tys:List Ty)(g f:Fm)(lem:Bool)(i:Int)(ts:List Ty)(ps:List Fm)(c:Fm)(fs:List Tm)(e:Int)
 (hck:PC E 65 [.s .fm lems,.agg [.s .ty tys,.s .fm hyps,.i g.kind,.i g.ty.kind,.s .ty g.ty.args,.s .tm g.terms,.s .fm g.args]] (.i 0)) (hhl:hyps.length<1000000) (hll:lems.length<1000000) (hsrc:0<=i/\i<(if lem=true then lems else hyps).length) (hf:f=if lem=true then lems.getD i.toNat Az else hyps.getD (hyps.length-1-i.toNat) Az) (hpa:PC E 66 [.agg f.view] (.Ax [.s .ty ts,.s .fm ps,.agg c.view,.i 0])) (hm:PC E 67 [.agg c.view,.i ts.length,.agg g.view] (.Ax [.s .tm fs,.i e]))
 (hib: -9223372036854775808<=i/\i<=9223372036854775807) (hle:e=0->fs.length=ts.length) (hts:ts.length<1000000) (hpl:ps.length<1000000000) (hfs:∀t∈fs,t.full<1000000000)
 (hfi:∀p∈ps,PC E 17 [.agg p.view,.s .tm fs] (.Ax [.agg (fill p fs).1.view,.i (fill p fs).2])):
 PC E 20 [.s .fm lems,.agg [.s .ty tys,.s .fm hyps,.i g.kind,.i g.ty.kind,.s .ty g.ty.args,.s .tm g.terms,.s .fm g.args],.bool lem,.i i] (.Ax [.s .st (Gx lem i ts.length ps fs e).1,.s .fm (Gx lem i ts.length ps fs e).2.1,.i (Gx lem i ts.length ps fs e).2.2]):=by
 unfold Gx;by_cases he:e=0;case neg=>
  rw[if_pos he];cases lem with
  |false=>
   have hlt:hyps.length-1-i.toNat<hyps.length:=by simp at hsrc;omega
   obtain rfl:f=hyps[hyps.length-1-i.toNat]:=by rw[hf];simp[List.getD,hlt]
   have hb:0<=i/\i<hyps.length:=by simpa using hsrc
   clear hsrc hf;refine M.F Tryz.func20 ?_;(repeat' first|refine M.go ?_|refine M.c2 (hck) ?_|refine M.gs ?_ ?_<;>intro h|refine M.z1 21 ?_|refine M.cs ?_ ?_<;>intro h|refine M.gk ?_|fail);all_goals first
    |(exfalso;simp at h;done)
    |(exfalso;simp at h;omega)
    |(exfalso;simp_all;omega)
    |skip
   refine L.B8 (hyps.length-1-i.toNat) rfl rfl rfl rfl (by omega) rfl rfl hlt ?_;(repeat' first|refine M.go ?_|refine M.c2 (hpa) ?_|refine M.c2 (hm) ?_|refine M.z1 21 ?_|refine M.cs ?_ ?_<;>intro h|refine M.gk ?_|fail);all_goals first
    |rfl
    |(exfalso;simp at h;exact he h)
    |(exfalso;simp at h;done)
    |(exfalso;simp_all;omega)
    |trace_state
  |true=>
   have hlt:i.toNat<lems.length:=by simp at hsrc;omega
   obtain rfl:f=lems[i.toNat]:=by rw[hf];simp[List.getD,hlt]
   have hb:0<=i/\i<lems.length:=by simpa using hsrc
   clear hsrc hf;refine M.F Tryz.func20 ?_;(repeat' first|refine M.go ?_|refine M.c2 (hck) ?_|refine M.gs ?_ ?_<;>intro h|refine M.z1 21 ?_|refine M.cs ?_ ?_<;>intro h|refine M.gk ?_|fail);all_goals first
    |(exfalso;simp at h;done)
    |(exfalso;simp at h;omega)
    |(exfalso;simp_all;omega)
    |skip
   refine L.B8 (i.toNat) rfl rfl rfl rfl (by omega) rfl rfl hlt ?_;(repeat' first|refine M.go ?_|refine M.z1 21 ?_|refine M.gk ?_|fail);refine L.Io rfl rfl rfl rfl rfl rfl (by first|exact trivial|exact⟨rfl,trivial⟩) rfl rfl (by simp) ?_;(repeat' first|refine M.gw ?_|refine M.c2 (hpa) ?_|refine M.c2 (hm) ?_|refine M.cs ?_ ?_<;>intro h|fail);all_goals first
    |rfl
    |(exfalso;simp at h;exact he h)
    |(exfalso;simp at h;done)
    |(exfalso;simp_all;omega)
    |trace_state
 rw[if_neg (by simp[he])];subst he;have hfl:=hle rfl;clear hle;cases lem with
 |false=>
  have hlt:hyps.length-1-i.toNat<hyps.length:=by simp at hsrc;omega
  obtain rfl:f=hyps[hyps.length-1-i.toNat]:=by rw[hf];simp[List.getD,hlt]
  have hb:0<=i/\i<hyps.length:=by simpa using hsrc
  clear hsrc hf;obtain⟨a,ha⟩:∃a,a=GM false i:=⟨_,rfl⟩;rw[<-ha];refine M.F Tryz.func20 ?_;(repeat' first|refine M.gw ?_|refine M.c2 (hck) ?_|refine M.gs ?_ ?_<;>intro h|refine M.cs ?_ ?_<;>intro h|fail);all_goals first
   |(exfalso;simp at h;done)
   |(exfalso;simp_all;omega)
   |skip
  all_goals first
   |(exfalso;simp at h;done)
   |(exfalso;simp at h;omega)
   |(exfalso;simp_all;omega)
   |skip
  refine L.B8 (hyps.length-1-i.toNat) rfl rfl rfl rfl (by omega) rfl rfl hlt ?_;(repeat' first|refine M.gw ?_|refine M.c2 (hpa) ?_|refine M.c2 (hm) ?_|fail);all_goals first
   |(exfalso;simp at h;done)
   |(exfalso;simp at h;omega)
   |(exfalso;simp_all;omega)
   |skip
  refine AW.range ts.length (fun m=>True) (fun m=>([(14,.i (if m=0 then a else 0)),(16,.s .ty ts),(17,.s .fm ps),(20,.s .tm fs),(13,.slice (.own 0) (.t .st (vd false i++Ez a fs ts.length m))),(93,.i ts.length),(94,.i m)],⟨1,[(0,.row)]⟩))
   (by omega) (fun m=>rfl) (fun m=>rfl) rfl trivial (by first|(subst ha;exact(M.W [none]))|(subst ha;exact(M.W [none]))|trace_state) ?_ ?_
  ·intro m hm _;have hlt:ts.length-1-m<fs.length:=by omega
   have hco:=wu _ fs[ts.length-1-m] (Nat.le_refl _) (by have:=hfs _ (List.getElem_mem hlt);omega);have hst:Gb a fs ts.length m=⟨13,if m=0 then a else 0,[fs[ts.length-1-m]],[]⟩:=by unfold Gb;rw[show fs.getD (ts.length-1-m) va=fs[ts.length-1-m] by simp[List.getD,hlt]]
   (repeat' first|refine M.gw ?_|fail);all_goals try
    refine L.B8 (ts.length-1-m) rfl rfl rfl rfl (by omega) rfl rfl hlt ?_
   (repeat' first|refine M.gw ?_|refine M.c2 (hco) ?_|fail);exact⟨rfl,trivial,(M.W [some 1] (hf:=(by(repeat'(first|exact trivial|refine And.intro ?_ ?_|refine⟨_,U,_,U,?_⟩|exact An.refl _|exact An.of_eq (by simp[Al.Aw,NH,hst,List.append_assoc])));done)))⟩
  ·intro _;(repeat' first|refine M.gw ?_|fail);obtain⟨S1,hS1⟩:∃S1,S1=vd false i++Ez a fs ts.length ts.length:=⟨_,rfl⟩;have hS1l:S1.length<=ts.length+1:=by rw[hS1];simp<;>omega
   rw[<-hS1];refine AW.range ps.length (fun m=>∀j (hj:j<ps.length),j<m->(fill ps[j] fs).2=0) (fun m=>([(14,.i (if m=0 then(if ts.length=0 then a else 0) else 0)),(20,.s .tm fs),(13,.slice (.own 0) (.t .st (S1++Ev a ts.length m))),(23,.slice (.own 1) (.t .fm ((ps.take m).map fun p=>(fill p fs).1))),(113,.s .fm ps),(114,.i ps.length),(115,.i m)],⟨2,[(0,.row),(1,.row)]⟩))
    (by omega) (fun m=>rfl) (fun m=>rfl) U (fun j hj h=>by omega) (M.W [some 0,none] (hf:=(by(repeat'(first|exact trivial|refine And.intro ?_ ?_|refine⟨_,U,_,U,?_⟩|exact An.refl _|exact An.of_eq (by simp[Al.Aw,Ev,List.take_zero,List.map_nil,List.range_zero,List.append_nil])));done))) ?_ ?_
   ·intro m hm hP;have hc:=hfi ps[m] (List.getElem_mem hm);have hst:Il a ts.length m=⟨14,if m=0 then(if ts.length=0 then a else 0) else 0,[],[]⟩:=rfl;have hmt:=yn (fun p=>(fill p fs).1) ps m hm;by_cases hx:(fill ps[m] fs).2=0
    ·rw[hx] at hc;generalize (fill ps[m] fs).1=X at*;(repeat' first|refine M.gw ?_|refine M.c2 (hc) ?_|fail);all_goals first
      |(exfalso;simp at h;done)
      |skip
     exact⟨rfl,z4 (p:=fun p=>(fill p fs).2=0) hm hP hx,(M.W [some 5,some 4] (hf:=(by(repeat'(first|exact trivial|refine And.intro ?_ ?_|refine⟨_,U,_,U,?_⟩|exact An.refl _|exact An.of_eq (by simp[Al.Aw,MU,hst,hmt,List.append_assoc])));done)))⟩
    ·have e1:=yr (f:=fun p=>(fill p fs).2) hm hP hx;rw[e1,if_pos hx];generalize (fill ps[m] fs).1=X at*;(repeat' first|refine M.go ?_|refine M.c2 (hc) ?_|refine M.z1 34 ?_|refine M.cs ?_ ?_<;>intro h|refine M.gk ?_|fail);all_goals first
      |rfl
      |(exfalso;simp at h;exact hx h)
      |trace_state
   ·intro hP;rw[yd (f:=fun p=>(fill p fs).2) fun j hj _=>hP j hj hj,if_neg (by simp)];simp only[List.take_length];(repeat' first|refine M.gw ?_|fail);subst hS1
    first
     |rfl
     |simp[zk,V.wk,V.Ak,zd,Ty.view,Tm.view]
     |trace_state
 |true=>
  have hlt:i.toNat<lems.length:=by simp at hsrc;omega
  obtain rfl:f=lems[i.toNat]:=by rw[hf];simp[List.getD,hlt]
  have hb:0<=i/\i<lems.length:=by simpa using hsrc
  clear hsrc hf;obtain⟨a,ha⟩:∃a,a=GM true i:=⟨_,rfl⟩;rw[<-ha];refine M.F Tryz.func20 ?_;(repeat' first|refine M.gw ?_|refine M.c2 (hck) ?_|refine M.gs ?_ ?_<;>intro h|refine M.cs ?_ ?_<;>intro h|fail);all_goals first
   |(exfalso;simp at h;done)
   |(exfalso;simp_all;omega)
   |skip
  all_goals first
   |(exfalso;simp at h;done)
   |(exfalso;simp at h;omega)
   |(exfalso;simp_all;omega)
   |skip
  refine L.B8 (i.toNat) rfl rfl rfl rfl (by omega) rfl rfl hlt ?_;(repeat' first|refine M.gw ?_|fail);all_goals first
   |(exfalso;simp at h;done)
   |(exfalso;simp at h;omega)
   |(exfalso;simp_all;omega)
   |skip
  refine L.Io rfl rfl rfl rfl rfl rfl (by first|exact trivial|exact⟨rfl,trivial⟩) rfl rfl (by simp) ?_;(repeat' first|refine M.gw ?_|refine M.c2 (hpa) ?_|refine M.c2 (hm) ?_|fail);all_goals first
   |(exfalso;simp at h;done)
   |(exfalso;simp_all;omega)
   |skip
  refine AW.range ts.length (fun m=>True) (fun m=>([(14,.i (if m=0 then a else 0)),(16,.s .ty ts),(17,.s .fm ps),(20,.s .tm fs),(13,.slice (.own 0) (.t .st (vd true i++Ez a fs ts.length m))),(93,.i ts.length),(94,.i m)],⟨1,[(0,.row)]⟩))
   (by omega) (fun m=>rfl) (fun m=>rfl) rfl trivial (by first|(subst ha;exact(M.W [some 2]))|(subst ha;exact(M.W [some 2]))|trace_state) ?_ ?_
  ·intro m hm _;have hlt:ts.length-1-m<fs.length:=by omega
   have hco:=wu _ fs[ts.length-1-m] (Nat.le_refl _) (by have:=hfs _ (List.getElem_mem hlt);omega);have hst:Gb a fs ts.length m=⟨13,if m=0 then a else 0,[fs[ts.length-1-m]],[]⟩:=by unfold Gb;rw[show fs.getD (ts.length-1-m) va=fs[ts.length-1-m] by simp[List.getD,hlt]]
   (repeat' first|refine M.gw ?_|fail);all_goals try
    refine L.B8 (ts.length-1-m) rfl rfl rfl rfl (by omega) rfl rfl hlt ?_
   (repeat' first|refine M.gw ?_|refine M.c2 (hco) ?_|fail);exact⟨rfl,trivial,(M.W [some 1] (hf:=(by(repeat'(first|exact trivial|refine And.intro ?_ ?_|refine⟨_,U,_,U,?_⟩|exact An.refl _|exact An.of_eq (by simp[Al.Aw,NH,hst,List.append_assoc])));done)))⟩
  ·intro _;(repeat' first|refine M.gw ?_|fail);obtain⟨S1,hS1⟩:∃S1,S1=vd true i++Ez a fs ts.length ts.length:=⟨_,rfl⟩;have hS1l:S1.length<=ts.length+1:=by rw[hS1];simp<;>omega
   rw[<-hS1];refine AW.range ps.length (fun m=>∀j (hj:j<ps.length),j<m->(fill ps[j] fs).2=0) (fun m=>([(14,.i (if m=0 then(if ts.length=0 then a else 0) else 0)),(20,.s .tm fs),(13,.slice (.own 0) (.t .st (S1++Ev a ts.length m))),(23,.slice (.own 1) (.t .fm ((ps.take m).map fun p=>(fill p fs).1))),(113,.s .fm ps),(114,.i ps.length),(115,.i m)],⟨2,[(0,.row),(1,.row)]⟩))
    (by omega) (fun m=>rfl) (fun m=>rfl) U (fun j hj h=>by omega) (M.W [some 0,none] (hf:=(by(repeat'(first|exact trivial|refine And.intro ?_ ?_|refine⟨_,U,_,U,?_⟩|exact An.refl _|exact An.of_eq (by simp[Al.Aw,Ev,List.take_zero,List.map_nil,List.range_zero,List.append_nil])));done))) ?_ ?_
   ·intro m hm hP;have hc:=hfi ps[m] (List.getElem_mem hm);have hst:Il a ts.length m=⟨14,if m=0 then(if ts.length=0 then a else 0) else 0,[],[]⟩:=rfl;have hmt:=yn (fun p=>(fill p fs).1) ps m hm;by_cases hx:(fill ps[m] fs).2=0
    ·rw[hx] at hc;generalize (fill ps[m] fs).1=X at*;(repeat' first|refine M.gw ?_|refine M.c2 (hc) ?_|fail);all_goals first
      |(exfalso;simp at h;done)
      |skip
     exact⟨rfl,z4 (p:=fun p=>(fill p fs).2=0) hm hP hx,(M.W [some 5,some 4] (hf:=(by(repeat'(first|exact trivial|refine And.intro ?_ ?_|refine⟨_,U,_,U,?_⟩|exact An.refl _|exact An.of_eq (by simp[Al.Aw,MU,hst,hmt,List.append_assoc])));done)))⟩
    ·have e1:=yr (f:=fun p=>(fill p fs).2) hm hP hx;rw[e1,if_pos hx];generalize (fill ps[m] fs).1=X at*;(repeat' first|refine M.go ?_|refine M.c2 (hc) ?_|refine M.z1 34 ?_|refine M.cs ?_ ?_<;>intro h|refine M.gk ?_|fail);all_goals first
      |rfl
      |(exfalso;simp at h;exact hx h)
      |trace_state
   ·intro hP;rw[yd (f:=fun p=>(fill p fs).2) fun j hj _=>hP j hj hj,if_neg (by simp)];simp only[List.take_length];(repeat' first|refine M.gw ?_|fail);subst hS1
    first
     |rfl
     |simp[zk,V.wk,V.Ak,zd,Ty.view,Tm.view]
     |trace_state
theorem UE:∀(b:Nat) (p:Pf),p.full<=b->b<549755813888->PC E 71 [.agg p.view] (.agg p.view):=by
 intro b;induction b with
 |zero=>intro f h;have:=f.Ac;omega
 |succ b ih=>
 intro p hsz hb;have hsz':=p.Af;have hlen:=zh Pf.full Pf.Ac p.args;have hlen1:=zh Fm.full Fm.Ac p.Aq;have hlen2:=zh Tm.full Tm.Ac p.terms;have hty:=x9 _ p.ty (Nat.le_refl _) (by omega);refine M.F Tryz.func71 ?_;(repeat' first|refine M.gw ?_|refine M.c2 (hty) ?_|fail);refine AW.range p.terms.length (fun m=>True)
  (fun m=>([(1,.ptr 0 0),(2,.ptr 1 0),(3,.ptr 2 0),(19,.s .tm p.terms),(20,.i p.terms.length),(21,.i m)],⟨4,[(0,.var p.view),(1,.var [.i 0,.i 0,.i 0,.slice .nil (.t .ty []),.slice .nil (.t .tm []),.slice .nil (.t .fm []),.slice .nil (.t .pf [])]),(2,.var [.i p.kind,.i p.index,.i p.ty.kind,.s .ty p.ty.args,.slice (.own 3) (.t .tm (p.terms.take m)),.slice .nil (.t .fm []),.slice .nil (.t .pf [])]),(3,.row)]⟩))
  (by omega) (fun m=>rfl) (fun m=>rfl) rfl trivial (M.W [some 0,some 1,some 2,none]) ?_ ?_
 ·intro m hm _;have hs2:=ze Tm.full (List.getElem_mem hm);(repeat' first|refine M.gw ?_|refine M.c2 (wu _ _ (Nat.le_refl _) ?_) ?_|exact M.lt|fail);exact⟨rfl,trivial,(M.W [some 0,some 1,some 2,some 5] (he:=(by(repeat'(first|exact trivial|exact Or.inr ⟨_,U,rfl⟩|refine And.intro ?_ ?_|refine⟨_,U,_,U,_,U,?_⟩|exact An.refl _|exact An.of_eq (by simp[Al.Aw,List.take_append_getElem])));done)))⟩
 ·intro _;simp only[List.take_length];(repeat' first|refine M.gw ?_|fail);refine AW.range p.Aq.length (fun m=>True)
   (fun m=>([(1,.ptr 0 0),(2,.ptr 1 0),(3,.ptr 2 0),(34,.s .fm p.Aq),(35,.i p.Aq.length),(36,.i m)],⟨5,[(0,.var p.view),(1,.var [.i 0,.i 0,.i 0,.slice .nil (.t .ty []),.slice .nil (.t .tm []),.slice .nil (.t .fm []),.slice .nil (.t .pf [])]),(2,.var [.i p.kind,.i p.index,.i p.ty.kind,.s .ty p.ty.args,.slice (.own 3) (.t .tm p.terms),.slice (.own 4) (.t .fm (p.Aq.take m)),.slice .nil (.t .pf [])]),(3,.row),(4,.row)]⟩))
   (by omega) (fun m=>rfl) (fun m=>rfl) rfl trivial (M.W [some 0,some 1,some 2,some 3,none]) ?_ ?_
  ·intro m hm _;have hs2:=ze Fm.full (List.getElem_mem hm);(repeat' first|refine M.gw ?_|refine M.c2 (x8 _ _ (Nat.le_refl _) ?_) ?_|exact M.lt|fail);exact⟨rfl,trivial,(M.W [some 0,some 1,some 2,some 3,some 6] (he:=(by(repeat'(first|exact trivial|exact Or.inr ⟨_,U,rfl⟩|refine And.intro ?_ ?_|refine⟨_,U,_,U,_,U,?_⟩|exact An.refl _|exact An.of_eq (by simp[Al.Aw,List.take_append_getElem])));done)))⟩
  ·intro _;simp only[List.take_length];(repeat' first|refine M.gw ?_|fail);refine AW.range p.args.length (fun m=>True)
    (fun m=>([(1,.ptr 0 0),(2,.ptr 1 0),(3,.ptr 2 0),(49,.s .pf p.args),(50,.i p.args.length),(51,.i m)],⟨6,[(0,.var p.view),(1,.var [.i 0,.i 0,.i 0,.slice .nil (.t .ty []),.slice .nil (.t .tm []),.slice .nil (.t .fm []),.slice .nil (.t .pf [])]),(2,.var [.i p.kind,.i p.index,.i p.ty.kind,.s .ty p.ty.args,.slice (.own 3) (.t .tm p.terms),.slice (.own 4) (.t .fm p.Aq),.slice (.own 5) (.t .pf (p.args.take m))]),(3,.row),(4,.row),(5,.row)]⟩))
    (by omega) (fun m=>rfl) (fun m=>rfl) rfl trivial (M.W [some 0,some 1,some 2,some 3,some 4,none]) ?_ ?_
   ·intro m hm _;have hs2:=ze Pf.full (List.getElem_mem hm);(repeat' first|refine M.gw ?_|refine M.c2 (ih _ ?_ ?_) ?_|exact M.le|exact M.lt|fail);exact⟨rfl,trivial,(M.W [some 0,some 1,some 2,some 3,some 4,some 7] (he:=(by(repeat'(first|exact trivial|exact Or.inr ⟨_,U,rfl⟩|refine And.intro ?_ ?_|refine⟨_,U,_,U,_,U,?_⟩|exact An.refl _|exact An.of_eq (by simp[Al.Aw,List.take_append_getElem])));done)))⟩
   ·intro _;simp only[List.take_length];(repeat' first|refine M.gw ?_|fail)
    rfl
theorem Fo(k:Int)(l:List Pf)(hl:l.length<1000000)(h:∀p∈l,p.full<500000000000):PC E 25 [.i k,.s .pf l] (.agg (Pf.mk k 0 (.mk 0 []) [] [] l).view):=by
 refine M.F Tryz.func25 ?_;(repeat' first|refine M.gw ?_|fail);refine AW.range l.length (fun m=>True)
  (fun m=>([(4,.ptr 0 0),(5,.ptr 1 0),(10,.s .pf l),(11,.i l.length),(12,.i m)],⟨3,[(0,.var [.i 0,.i 0,.i 0,.slice .nil (.t .ty []),.slice .nil (.t .tm []),.slice .nil (.t .fm []),.slice .nil (.t .pf [])]),(1,.var [.i k,.i 0,.i 0,.slice .nil (.t .ty []),.slice .nil (.t .tm []),.slice .nil (.t .fm []),.slice (.own 2) (.t .pf (l.take m))]),(2,.row)]⟩))
  (by omega) (fun m=>rfl) (fun m=>rfl) rfl trivial (M.W [some 0,some 1,none]) ?_ ?_
 ·intro m hm _;have hc:=UE _ l[m] (Nat.le_refl _) (by have:=h _ (List.getElem_mem hm);omega);(repeat' first|refine M.gw ?_|refine M.c2 (hc) ?_|fail);exact⟨rfl,trivial,(M.W [some 0,some 1,some 4] (he:=(by(repeat'(first|exact trivial|exact Or.inr ⟨_,U,rfl⟩|refine And.intro ?_ ?_|refine⟨_,U,_,U,_,U,?_⟩|exact An.refl _|exact An.of_eq (by simp[Al.Aw,List.take_append_getElem])));done)))⟩
 ·intro _;simp only[List.take_length];(repeat' first|refine M.gw ?_|fail)
  rfl
theorem MN(k:Int)(t:Tm)(p:Pf)(ht:t.full<500000000000)(hp:p.full<500000000000):PC E 175 [.i k,.agg t.view,.agg p.view] (.agg (Pf.mk k 0 (.mk 0 []) [t] [] [p]).view):=by
 have h1:=Fo k [p] (by simp) (by simp;omega);have h2:=wu _ t (Nat.le_refl _) (by omega);refine M.F Tryz.func175 ?_;(repeat' first|refine M.gw ?_|refine M.c2 (h1) ?_|refine M.c2 (h2) ?_|fail)
 rfl
theorem VK(f:Fm)(p:Pf)(hf:f.full<500000000000)(hp:p.full<500000000000):PC E 171 [.agg f.view,.agg p.view] (.agg (Pf.mk 6 0 (.mk 0 []) [] [f] [p]).view):=by
 have h1:=Fo 6 [p] (by simp) (by simp;omega);have h2:=x8 _ f (Nat.le_refl _) (by omega);refine M.F Tryz.func171 ?_;(repeat' first|refine M.gw ?_|refine M.c2 (h1) ?_|refine M.c2 (h2) ?_|fail)
 rfl
theorem LM(k:Int)(s:Ty)(p:Pf)(hs:s.size<500000000000)(hp:p.full<500000000000):PC E 173 [.i k,.agg s.view,.agg p.view] (.agg (Pf.mk k 0 s [] [] [p]).view):=by
 have h1:=Fo k [p] (by simp) (by simp;omega);have h2:=x9 _ s (Nat.le_refl _) (by omega);refine M.F Tryz.func173 ?_;(repeat' first|refine M.gw ?_|refine M.c2 (h1) ?_|refine M.c2 (h2) ?_|fail)
 rfl
theorem I2(k:Int)(f:Fm)(t:Tm)(p:Pf)(hf:f.full<500000000000)(ht:t.full<500000000000)(hp:p.full<500000000000):PC E 177 [.i k,.agg f.view,.agg t.view,.agg p.view] (.agg (Pf.mk k 0 (.mk 0 []) [t] [f] [p]).view):=by
 have h1:=MN k t p ht hp;have h2:=x8 _ f (Nat.le_refl _) (by omega);refine M.F Tryz.func177 ?_;(repeat' first|refine M.gw ?_|refine M.c2 (h1) ?_|refine M.c2 (h2) ?_|fail)
 rfl
theorem QK(k:Int)(f:Fm)(t:Tm)(p q:Pf)(hf:f.full<500000000000)(ht:t.full<500000000000)(hp:p.full<500000000000)(hq:q.full<500000000000):PC E 36 [.i k,.agg f.view,.agg t.view,.agg p.view,.agg q.view] (.agg (Pf.mk k 0 (.mk 0 []) [t] [f] [p,q]).view):=by
 have h1:=Fo k [p,q] (by simp) (by intro x hx;simp only[List.mem_cons,List.not_mem_nil,or_false] at hx;rcases hx with rfl|rfl<;>omega);have h2:=x8 _ f (Nat.le_refl _) (by omega);have h3:=wu _ t (Nat.le_refl _) (by omega);refine M.F Tryz.func36 ?_;(repeat' first|refine M.gw ?_|refine M.c2 (h1) ?_|refine M.c2 (h2) ?_|refine M.c2 (h3) ?_|fail)
 rfl
theorem vh(t:Tm)(ht:t.full<500000000000):PC E 23 [.agg t.view] (.agg (Pf.mk 18 0 (.mk 0 []) [t] [] []).view):=by
 have h2:=wu _ t (Nat.le_refl _) (by omega);refine M.F Tryz.func23 ?_;(repeat' first|refine M.gw ?_|refine M.c2 (h2) ?_|fail)
 rfl
theorem UF(f:Fm)(p q:Pf)(hf:f.full<500000000000)(hp:p.full<500000000000)(hq:q.full<500000000000):PC E 127 [.agg f.view,.agg p.view,.agg q.view] (.agg (Pf.mk 19 0 (.mk 0 []) [] [f] [p,q]).view):=by
 have h1:=Fo 19 [p,q] (by simp) (by intro x hx;simp only[List.mem_cons,List.not_mem_nil,or_false] at hx;rcases hx with rfl|rfl<;>omega);have h2:=x8 _ f (Nat.le_refl _) (by omega);refine M.F Tryz.func127 ?_;(repeat' first|refine M.gw ?_|refine M.c2 (h1) ?_|refine M.c2 (h2) ?_|fail)
 rfl
theorem Pu(tys:List Ty)(hyps:List Fm)(f:Fm)(hl:hyps.length<=1000):PC E 172 [.agg [.s .ty tys,.s .fm hyps],.agg f.view] (.agg [.s .ty tys,.s .fm (hyps++[f])]):=by
 refine M.F Tryz.func172 ?_;(repeat' first|refine M.gw ?_|fail);all_goals first
  |rfl
  |simp[zk,V.wk,V.Ak,zd,Ty.view,Tm.view]
  |trace_state
theorem Km(tys:List Ty)(hyps:List Fm)(l:List Ty)(hh:∀f∈hyps,f.err=0/\f.A9 tys)(hg:tys.length<=20)(hl:l.length<=2)(hn:hyps.length<=20):
 PC E 174 [.agg [.s .ty tys,.s .fm hyps],.s .ty l] (.agg [.s .ty (tys++l),.s .fm (hyps.map fun f=>f.A4 0 l.length)]):=by
 have h1:=HA tys l (by omega);refine M.F Tryz.func174 ?_;(repeat' first|refine M.gw ?_|refine M.c2 (h1) ?_|fail);refine AW.range hyps.length (fun m=>True)
  (fun m=>([(1,.s .ty l),(4,.ptr 1 0),(5,.ptr 2 0),(14,.s .fm hyps),(15,.i hyps.length),(16,.i m)],⟨4,[(0,.var [.s .ty tys,.s .fm hyps]),(1,.var [.slice .nil (.t .ty []),.slice .nil (.t .fm [])]),(2,.var [.s .ty (tys++l),.slice (.own 3) (.t .fm ((hyps.take m).map fun f=>f.A4 0 l.length))]),(3,.row)]⟩))
  (by omega) (fun m=>rfl) (fun m=>rfl) rfl trivial (M.W [some 0,some 1,some 2,none]) ?_ ?_
 ·intro m hm _;have hf:=hh hyps[m] (List.getElem_mem hm);have hc:=Fg hf.2 ((Fm.Ad _).1 hf.1).1 (by have:=((Fm.Ad _).1 hf.1).2;omega) (by omega) 0 l.length (by omega) (by omega);(repeat' first|refine M.gw ?_|refine M.c2 (hc) ?_|fail);exact⟨rfl,trivial,(M.W [some 0,some 1,some 2,some 5] (he:=(by(repeat'(first|exact trivial|exact Or.inr ⟨_,U,rfl⟩|refine And.intro ?_ ?_|refine⟨_,U,_,U,_,U,?_⟩|exact An.refl _|exact An.of_eq (by simp[Al.Aw,yn _ _ _ hm])));done)))⟩
 ·intro _;simp only[List.take_length];(repeat' first|refine M.gw ?_|fail);all_goals first
   |rfl
   |simp[zk,V.wk,V.Ak,zd,Ty.view,Tm.view]
   |trace_state
theorem O2{g:List Ty}{t:Tm}(he:t.err=0)(hi:t.inf g=(Aa,0))(hg:g.length<=20):PC E 176 [.agg t.view] (.agg (t.re (zn 0 1) 0).view):=by
 have hf:=yl he;have hs:=(Tm.Ad t).1 he;have h1:=FL t t (by omega) (by omega);have h2:=Fg (f:=AM t t) (g:=g) (Ci.2 ⟨hi,hi⟩) (Jd hs.1 hs.1) (by have:=Iy t t;omega) (by omega) 0 1 (by omega) (by omega);rw[Yc1] at h2;rw[show(0:Int)+0=0 from rfl] at h2;generalize t.re (zn 0 1) 0=u at*;refine M.F Tryz.func176 ?_;(repeat' first|refine M.gw ?_|refine M.c2 (h1) ?_|refine M.c2 (h2) ?_|fail);all_goals first
  |rfl
  |simp[zk,V.wk,V.Ak,zd,Ty.view,Tm.view]
  |trace_state
theorem Zzk(k:Int)(f:Fm)(t:Tm)(p:Pf)(hf:f.full<500000000000)(ht:t.full<500000000000)(hp:p.full<500000000000):
 AC E 177 [.i k,.agg f.view,.agg t.view,.agg p.view] ⟨0,[]⟩ (.agg [.i k,.i 0,.i 0,.s .ty [],.s .tm [t],.arr 0 1 5,.s .pf [p]]) ⟨1,[(0,.var f.view)]⟩:=by
 have h1:=MN k t p ht hp;have h2:=x8 _ f (Nat.le_refl _) (by omega);refine M.F Tryz.func177 ?_;(repeat' first|refine M.go ?_|refine M.c2 (h1) ?_|refine M.z1 2 ?_|refine M.gk ?_|fail);refine K.sq (AW.A8 ?_);refine L.EB rfl rfl rfl rfl rfl rfl ?_;refine L.c2 h2 rfl rfl rfl rfl ?_;refine L.Qw 0 rfl rfl rfl rfl rfl rfl rfl ?_;(repeat' first|refine M.gw ?_|fail);refine K.rt [some 5] rfl rfl rfl rfl rfl ?_ rfl ?_
 ·exact ⟨⟨_,rfl,_,rfl,_,rfl,AO.refl _⟩,trivial⟩
 ·first
   |exact An.refl _
   |(refine An.of_eq ?_;simp[zk,Ty.view,Tm.view];rfl)
def VR(p:Pf):Pf×Int:=if p.err=0 then(p,0) else(Dq,4)
inductive Ch where
 |tm (t:Tm)|fm (f:Fm)|pf (p:Pf)
def Ch.cell:Ch->V
 | .tm t=> .ifc 33 t.view
 | .fm f=> .ifc 39 f.view
 | .pf p=> .ifc 30 p.view
def Ch.err:Ch->Int
 | .tm t=>t.err| .fm f=>f.err| .pf p=>p.err
def Ch.full:Ch->Nat
 | .tm t=>t.full| .fm f=>f.full| .pf p=>p.full
def chV(l:List Ch):V:= .slice .any (.u 1 (l.map fun x=>[x.cell]))
def Rw(l:List Ch)(p:Pf):Pf×Int:=if yw Ch.err l≠0 then(Dq,yw Ch.err l) else VR p
theorem NK(a b:Tm):(AM a b).full=2+a.full+b.full:=by
 simp only[AM,Fm.full,Fm.Ap,List.map_cons,List.map_nil,List.sum_cons,List.sum_nil,Ty.size,Ty.sizes];omega
theorem J6(i:Int):(vT i).full=2:=by simp only[vT,Tm.full,Tm.Ap,Ty.size,Ty.sizes]
theorem J7(f x:Tm):(AP f x).full=2+f.full+x.full:=by
 simp only[AP,Tm.full,Tm.Ap,Ty.size,Ty.sizes];omega
def exC:Ck:=⟨[],[Aa,Aa],[AM (vT 0) (vT 1)]⟩
def Kr(l:List Ch)(ok:Bool)(p:Pf):Pf×Int:=if yw Ch.err l≠0 then(Dq,yw Ch.err l) else if ok=false then(Dq,4) else VR p
def Wx(a b:Fm):Int:=if Nk a 0 1≠0 then Nk a 0 1 else if Nk b 0 1≠0 then Nk b 0 1 else(IV a b).err
def lftR(a b:Fm)(p:Pf):Pf×Int:=Kr [.fm a,.fm b,.pf p] (decide (Wx a b=0/\(Ef b.dp 262144 b 0).2>=0)) (LD a b p (Ef b.dp 262144 b 0).1)
def rgtR(a b:Fm)(p:Pf):Pf×Int:=Kr [.fm a,.fm b,.pf p] (decide (Wx a b=0/\(Ef a.dp 262144 a 0).2>=0)) (KN a b p (Ef a.dp 262144 a 0).1)
def casR(a b d:Fm)(p q r:Pf):Pf×Int:=Rw [.fm a,.fm b,.fm d,.pf p,.pf q,.pf r] (VP a b d p q r)
def numR(f:Fm)(p q:Pf):Pf×Int:=Rw [.fm f,.pf p,.pf q] (QN f p q)
def lisR(f:Fm)(p q:Pf):Pf×Int:=Rw [.fm f,.pf p,.pf q] (Ygr f p q)
mutual
def Tm.HH:Tm->Bool
 | .mk _ i _ xs=>decide (0<=i)&&decide (i<1000)&&Tm.Ek xs
def Tm.Ek:List Tm->Bool
 |[]=>true
 |t::l=>t.HH&&Tm.Ek l
end
mutual
def Fm.HH:Fm->Bool
 | .mk _ _ ts zs=>ts.all Tm.HH&&Fm.Ek zs
def Fm.Ek:List Fm->Bool
 |[]=>true
 |t::l=>t.HH&&Fm.Ek l
end
mutual
def Pf.HH:Pf->Bool
 | .mk _ i _ ts fs zs=>decide (0<=i)&&decide (i<1000)&&ts.all Tm.HH&&fs.all Fm.HH&&Pf.Ek zs
def Pf.Ek:List Pf->Bool
 |[]=>true
 |t::l=>t.HH&&Pf.Ek l
end
def atP(i j:Int):Pf:=OW (wh i) (OW (wh j) eqP)
def oneF(i j:Int):Fm:=Ew (wh j) (wh i)
theorem Gf.up{g:List Ty}{f:Fm}{n m:Nat}(h:Gf g f n)(hm:n<=m):Gf g f m:=⟨h.sh,Nat.le_trans h.sz hm,h.ok⟩
def earI(a b:Int):Int:=if a≠0 then a else b
theorem K5(i:Int):PC E 35 [.i i] (.agg (uv i).view):=by
 refine M.F Tryz.func35 ?_;(repeat' first|refine M.gw ?_|fail)
 rfl
theorem VE(t:Tm)(he:t.shape=true)(hf:t.full<100000000000)(hix:∀p∈t.vars 0,0<=p.1/\p.1<549755813888):PC E 128 [.agg t.view,.i 1] (.agg (t.re (zn 0 1) 0).view):=by
 have h:=K7 1 (by omega) _ t 0 (Nat.le_refl _) (by omega) (by omega) (by omega) he hix;generalize t.re (zn 0 1) 0=u at*;refine M.F Tryz.func128 ?_;(repeat' first|refine M.gw ?_|refine M.c2 (h) ?_|fail);simp[zk,V.wk,V.Ak,zd,Ty.view,Tm.view]
theorem Zwu(g s:Tm)(p:Pf)(hg:CR g)(hs:CR s)(hp:p.full<100000000000):PC E 77 [.agg g.view,.agg s.view,.agg p.view] (.agg (HK g s p).view):=by
 have f1:=hg.2.2;have f2:=hs.2.2;have l1:=wj 0 1 g 0 hg.1;have l2:=wj 0 1 s 0 hs.1;have h1:=VE g hg.1 (by omega) (fun q hq=>by have:=hg.2.1 q hq;omega);have h2:=VE s hs.1 (by omega) (fun q hq=>by have:=hs.2.1 q hq;omega);have h3:=DI 0;have h4:=Co 3 [g,s] (by simp;omega);unfold HK FM xd;generalize g.re (zn 0 1) 0=g1 at*;generalize s.re (zn 0 1) 0=s1 at*;have h5:=Co 3 [g1,s1] (by simp;omega);have h6:=Co 3 [g1,vT 0] (by simp[J6];omega);have h7:=FL (AP g1 s1) (AP g1 (vT 0)) (by rw[J7];omega) (by rw[J7,J6];omega);have h8:=vh (AP g s) (by rw[J7];omega);have h9:=UF (AM (AP g1 s1) (AP g1 (vT 0))) p (.mk 18 0 (.mk 0 []) [AP g s] [] []) (by rw[NK,J7,J7,J6];omega) (by omega) (by rw[wo,uy];simp[J7];omega);refine M.F Tryz.func77 ?_;(repeat' first|refine M.gw ?_|refine M.c2 (h1) ?_|refine M.c2 (h2) ?_|refine M.c2 (h3) ?_|refine M.c2 (h4) ?_|refine M.c2 (h5) ?_|refine M.c2 (h6) ?_|refine M.c2 (h7) ?_|refine M.c2 (h8) ?_|refine M.c2 (h9) ?_|fail);all_goals first
  |rfl
  |trace_state
theorem Zob(ts:List Tm)(p:Pf)(ht:∀t∈ts,t.err=0)(hp:p.err=0)(hpf:p.full<500000000000)(hl:ts.length<=1000):PC E 78 [.s .tm ts,.s .fm [],.s .pf [p]] (.i 0):=by
 have hk:=Sa p (by omega);rw[hp] at hk;refine M.F Tryz.func78 ?_;(repeat' first|refine M.gw ?_|fail);refine AW.range ts.length (fun m=>True) (fun m=>([(1,.s .fm []),(2,.s .pf [p]),(16,.s .tm ts),(17,.i ts.length),(18,.i m)],⟨0,[]⟩))
  (by omega) (fun m=>rfl) (fun m=>rfl) rfl trivial (M.W []) ?_ ?_
 ·intro m hm _;have hc:=vi ts[m] (by have:=yl (ht _ (List.getElem_mem hm));omega);rw[ht _ (List.getElem_mem hm)] at hc;(repeat' first|refine M.gw ?_|refine M.c2 (hc) ?_|fail);exact⟨rfl,trivial,(M.W [])⟩
 intro _;(repeat' first|refine M.gw ?_|fail);refine AW.range ([]:List Fm).length (fun m=>True) (fun m=>([(2,.s .pf [p]),(28,.s .fm []),(29,.i ([]:List Fm).length),(30,.i m)],⟨0,[]⟩))
  (by simp) (fun m=>rfl) (fun m=>rfl) rfl trivial (M.W []) ?_ ?_
 ·intro m hm _;exact absurd hm (by simp)
 intro _;(repeat' first|refine M.gw ?_|fail);refine AW.range ([p]:List Pf).length (fun m=>True) (fun m=>([(40,.s .pf [p]),(41,.i ([p]:List Pf).length),(42,.i m)],⟨0,[]⟩))
  (by simp) (fun m=>rfl) (fun m=>rfl) rfl trivial (M.W []) ?_ ?_
 ·intro m hm _;obtain rfl:m=0:=by simpa using hm
  (repeat' first|refine M.gw ?_|refine M.c2 (hk) ?_|fail);exact⟨rfl,trivial,(M.W [])⟩
 intro _;(repeat' first|refine M.gw ?_|fail)
 rfl
theorem Zrv(p:Pf)(hp:p.err=0)(hpf:p.full<500000000000):PC E 76 [.agg p.view,.i 0] (.Ax [.agg p.view,.i 0]):=by
 have h1:=Sn p (by omega);have h2:=(Pf.Ad p).1 hp;have e:(p.small&&decide (p.size<=16384))=true:=by simp[h2.2.1,h2.2.2]
 rw[e] at h1;have h3:=UE _ p (Nat.le_refl _) (by omega);refine M.F Tryz.func76 ?_;(repeat' first|refine M.gw ?_|refine M.c2 (h1) ?_|refine M.c2 (h3) ?_|fail)
 rfl
theorem Zvb(g s t:Tm)(p:Pf)(hg:CR g)(hs:CR s)(eg:g.err=0)(es:s.err=0)(et:t.err=0)(ep:p.err=0)(hp:p.full<100000000000)(ec:(HK g s p).err=0):
 PC E 31 [.agg g.view,.agg s.view,.agg t.view,.agg p.view] (.Ax [.agg (HK g s p).view,.i 0]):=by
 have f1:=hg.2.2;have f2:=hs.2.2;have h1:=Zwu g s p hg hs hp;have h2:=Zob [g,s,t] p (by simp[eg,es,et]) ep (by omega) (by simp);have h3:=Zrv (HK g s p) ec (by have:=Zzj _ ((Pf.Ad _).1 ec).1;have:=((Pf.Ad _).1 ec).2.2;omega);generalize HK g s p=P at*;refine M.F Tryz.func31 ?_;(repeat' first|refine M.gw ?_|refine M.c2 (h1) ?_|refine M.c2 (h2) ?_|refine M.c2 (h3) ?_|fail);all_goals first
  |rfl
  |trace_state
def Ce:Tm:=AP (AP BX zT) (vT 0)
def BW:Pf:=HK EF Ce (uv 0)
def M0(t:Tm):Pf:= .mk 16 0 (.mk 0 []) [t] [AM Ce (vT 0)] [xd zT,BW]
theorem Kv(t:Tm)(h1:t.shape=true)(h2:(t.vars 0).all (fun q=>decide (0<=q.1/\q.1<10000))=true)(h3:t.full<=300000):CR t:=
 ⟨h1,fun q hq=>by simpa using List.all_eq_true.1 h2 q hq,h3⟩
theorem Yb5(t:Tm)(ht:t.full<100000000000):PC E 6 [.agg t.view] (.agg (M0 t).view):=by
 have h1:=TO;have h2:=JA 0;have e0:wh 0=zT:=by decide
 rw[e0] at h2;have h3:=DI 0;have h4:=PX BX [zT,vT 0] (by decide);have h5:=FL Ce (vT 0) (by decide) (by decide);have h6:=vz;have h7:=Co 5 [vT 0] (by decide);have h8:=Fk 2 Aa [sT (vT 0)] (by decide) (by decide);have h9:=K5 0;have h10:=Zvb EF Ce (vT 0) (uv 0) (Kv _ (by decide+kernel) (by decide+kernel) (by decide+kernel)) (Kv _ (by decide+kernel) (by decide+kernel) (by decide+kernel)) (by decide+kernel) (by decide+kernel) (by decide+kernel) (by decide+kernel) (by decide+kernel) (by decide+kernel);have hz:BW.full<1000:=by decide+kernel
 have h11:=vh zT (by decide);have h12:=QK 16 (AM Ce (vT 0)) t (.mk 18 0 (.mk 0 []) [zT] [] []) BW (by decide+kernel) (by omega) (by decide+kernel) (by omega);have e1:HK EF Ce (uv 0)=BW:=rfl;rw[e1] at h10;have e2:List.foldl AP BX [zT,vT 0]=Ce:=rfl;rw[e2] at h4;unfold M0;generalize BW=Z at*;generalize uv 0=H at*;generalize Ce=P0 at*;refine M.F Tryz.func6 ?_;(repeat' first|refine M.gw ?_|refine M.c2 (h1) ?_|refine M.c2 (h2) ?_|refine M.c2 (h3) ?_|refine M.c2 (h4) ?_|refine M.c2 (h5) ?_|refine M.c2 (h6) ?_|refine M.c2 (h7) ?_|refine M.c2 (h8) ?_|refine M.c2 (h9) ?_|refine M.c2 (h10) ?_|refine M.c2 (h11) ?_|refine M.c2 (h12) ?_|fail);all_goals first
  |rfl
  |trace_state
def Im(t:Tm):Fm:=Be 5 Aa (AM (t.re (zn 0 1) 0) (vT 0))
theorem Ux(d:Dk)(hd:d.ok)(g:List Ty)(hyps:List Fm)(hg:Ai g)(hl:g.length<=16):
 AC E 180 [.ptr 0 0,.agg [.s .ty g,.s .fm hyps]] ⟨1,[(0,.var d.cells)]⟩ (.agg [.i 10,.i 0,.i 0,.s .ty [],.s .tm [(Dk.tm 3 d g Aa).1],.arr 1 1 5,.s .pf [xd (Dk.tm 3 d g Aa).1]])
  ⟨2,[(0,.var (Dk.tm 3 d g Aa).2.cells),(1,.var (Im (Dk.tm 3 d g Aa).1).view)]⟩/\
 AC E 180 [.ptr 0 0,.agg [.s .ty g,.s .fm hyps]] ⟨1,[(0,.var d.cells)]⟩ (.agg (Hu (Im (Dk.tm 3 d g Aa).1) (Dk.tm 3 d g Aa).1 (xd (Dk.tm 3 d g Aa).1)).view)
  ⟨1,[(0,.var (Dk.tm 3 d g Aa).2.cells)]⟩:=by
 have h1:=vz;have h2:=HF 3 (by omega) d g Aa 1 (by omega) hd hg zi (by omega) (by omega) (by omega);have hm:=(u9 d hg).1;have hf:=yl hm.err;generalize Dk.tm 3 d g Aa=T at*;obtain⟨t,d2⟩:=T;simp only at hm hf;have h3:=O2 (g:=g) hm.err hm.inf (by omega);have h4:=DI 0;have l1:=wj 0 1 t 0 hm.shape;have h7:=vh t (by omega);unfold Im Hu xd;generalize t.re (zn 0 1) 0=u at*;have h5:=FL u (vT 0) (by omega) (by rw[J6];omega);have h6:=Fy 5 Aa (AM u (vT 0)) (by decide) (by rw[NK,J6];omega);have fq:(Be 5 Aa (AM u (vT 0))).full<1000000:=by have e:Aa.size=1:=rfl;simp only[Be,Fm.full,Fm.Ap,List.map_nil,List.sum_nil];rw[NK,J6,e];omega
 have fr:(Pf.mk 18 0 (.mk 0 []) [t] [] []).full<1000000:=by rw[wo,uy];simp;omega
 have h8:=Zzk 10 (Be 5 Aa (AM u (vT 0))) t (.mk 18 0 (.mk 0 []) [t] [] []) (by omega) (by omega) (by omega);have h9:=I2 10 (Be 5 Aa (AM u (vT 0))) t (.mk 18 0 (.mk 0 []) [t] [] []) (by omega) (by omega) (by omega);constructor
 ·refine M.F Tryz.func180 ?_;(repeat' first|refine M.gw ?_|refine M.c2 (h1) ?_|refine M.cb (h2) [0] 0 ?_|refine M.c2 (h3) ?_|refine M.c2 (h4) ?_|refine M.c2 (h5) ?_|refine M.c2 (h6) ?_|refine M.c2 (h7) ?_|refine M.cb (h8) [] 1 ?_|fail);refine K.rt [some 0,some 5] rfl rfl rfl rfl rfl ?_ rfl ?_
  ·exact ⟨⟨_,rfl,_,rfl,_,rfl,AO.refl _⟩,⟨_,rfl,_,rfl,_,rfl,AO.refl _⟩,trivial⟩
  ·first
    |exact An.refl _
    |(refine An.of_eq ?_;simp[zk,Ty.view,Tm.view];rfl)
 ·refine M.F Tryz.func180 ?_;(repeat' first|refine M.gw ?_|refine M.c2 (h1) ?_|refine M.cb (h2) [0] 0 ?_|refine M.c2 (h3) ?_|refine M.c2 (h4) ?_|refine M.c2 (h5) ?_|refine M.c2 (h6) ?_|refine M.c2 (h7) ?_|refine M.c2 (h9) ?_|fail)
  (exact M.n2 [some 0] (h8:=(by simp[zk,V.wk,V.Ak,zd,Ty.view,Tm.view,Pf.view])))
def Dk.OD(d:Dk):Nat:=(d.next 3).1.toNat
def Dk.lm(d:Dk):List Fm×Dk:=Dk.CI d.OD (d.next 3).2 []
theorem Dk.Jc(d:Dk):d.lm.1.length<=2:=by
 have:=Dk.Bb d 3 (by omega);unfold Dk.lm Dk.OD;rw[Dk.Cz];omega
theorem Dk.Kx{d:Dk}(h:d.ok):d.lm.2.ok:=Dk.Dc _ _ _ (Dk.AA h 3)
theorem Yac(d:Dk)(hd:d.ok):AC E 14 [.ptr 0 0] ⟨1,[(0,.var d.cells)]⟩ (.s .fm d.lm.1) ⟨1,[(0,.var d.lm.2.cells)]⟩:=by
 have h1:=vt d 3 hd (by omega);have hb:=Dk.Bb d 3 (by omega);obtain⟨c,hc⟩:∃c:Nat,(d.next 3).1=c:=⟨(d.next 3).1.toNat,by omega⟩;have hx:d.lm=Dk.CI c (d.next 3).2 []:=by unfold Dk.lm Dk.OD;rw[hc];rfl
 rw[hc] at h1 hb;rw[hx];have hdo:=Dk.AA hd 3;generalize (d.next 3).2=d2 at*;refine M.F Tryz.func14 ?_;(repeat' first|refine M.gw ?_|refine M.cb (h1) [0] 0 ?_|fail);refine AW.down c (fun m=>m<=c)
  (fun m=>([(0,.ptr 0 0),(3,.slice (.own 1) (.t .fm (Dk.CI (c-m) d2 []).1)),(4,.i m)],⟨2,[(0,.var (Dk.CI (c-m) d2 []).2.cells),(1,.row)]⟩))
  (by omega) (fun m=>rfl) rfl (Nat.le_refl _) ?_ ?_ ?_
 ·simp only[Nat.sub_self];exact(M.W [some 0,none])
 ·intro m hm hP;have e:=Dk.Db (c-(m+1)) d2 [];rw[show c-(m+1)+1=c-m by omega] at e;have h3:=LY 2 (Dk.CI (c-(m+1)) d2 []).2 [] 2 (by omega) rfl (Dk.Dc _ _ _ hdo) zo (by simp);have hl:=Dk.Cz (c-(m+1)) d2 [];(repeat' first|refine M.gw ?_|refine M.cb (h3) [0] 0 ?_|fail);refine⟨rfl,by omega,?_⟩;simp only[e];exact(M.W [some 0,some 2])
 ·intro _;simp only[Nat.sub_zero];(repeat' first|refine M.gw ?_|fail)
  (exact M.n2 [some 0] (h8:=(by simp[zk,V.wk,V.Ak,zd,Ty.view,Tm.view,V.BU])))
end Go.Ab
