/- A part of this seat's proofs. No conditions. -/
import Derived.Test.YtlikcaapgaalhaaGreatDoorEST31
import Derived.Test.YtlikcaapgaalhaaGreatDoorEST4
namespace Go.Ab
open Go Go.Proofs
set_option maxRecDepth 100000
set_option maxHeartbeats 4000000
set_option linter.all false
theorem fun3_c(d:Dk)(hd:d.ok):AC E 10 [.ptr 0 0,.s .ty [],.agg fun3.view,.i 1] ⟨1,[(0,.var d.cells)]⟩ (.agg (Dk.tn 4 d [] fun3).1.view) ⟨1,[(0,.var (Dk.tn 4 d [] fun3).2.cells)]⟩:=
 term5_c 4 (by omega) d [] fun3 1 rfl hd smalls5_nil fun3_small (by omega) (by decide) (by decide)
theorem source_c(l:List Fm)(hyps:List Fm)(tys:List Ty)(g:Fm)(lem:Bool)(i:Int)(hl:l.length<1000000)(hh:hyps.length<1000000)(hib: -9223372036854775808≤i∧i≤9223372036854775807):
 PC E 41 [.s .fm l,.agg [.s .ty tys,.s .fm hyps,.i g.kind,.i g.ty.kind,.s .ty g.ty.args,.s .tm g.terms,.s .fm g.args],.bool lem,.i i]
  (.tup [.agg (if 0≤i∧i<(if lem=true then l else hyps).length then(if lem=true then l.getD i.toNat noFm else hyps.getD (hyps.length-1-i.toNat) noFm) else noFm).view,.i (if 0≤i∧i<(if lem=true then l else hyps).length then 0 else if lem=true then 9 else 8)]):=by
 cases lem with
 |true=>
  simp only[if_true]
  by_cases h0:0≤i∧i<l.length
  ·rw [if_pos h0,if_pos h0]
   have hlt:i.toNat<l.length:=by omega
   rw[show l.getD i.toNat noFm=l[i.toNat] by simp[List.getD,hlt]]
   refine M.F Tryz.func41 ?_
   repeat'(first|refine M.w0 ?_|refine M.gs ?_ ?_<;>intro h|refine M.cs ?_ ?_<;>intro h|fail)
   all_goals first
    |(exfalso;simp at h;done)
    |(exfalso;simp at h;omega)
    |(exfalso;simp_all;omega)
    |skip
   refine L.ixt i.toNat rfl rfl rfl rfl (by omega) rfl rfl hlt ?_
   refine M.w0 ?_
   rfl
  ·rw [if_neg h0,if_neg h0]
   refine M.F Tryz.func41 ?_
   repeat'(first|refine M.w0 ?_|refine M.gs ?_ ?_<;>intro h|refine M.cs ?_ ?_<;>intro h|fail)
   all_goals first
    |rfl
    |(exfalso;simp at h;done)
    |(exfalso;simp_all;omega)
    |(exfalso;rename_i h2 h;simp at h2 h;omega)
    |(exfalso;rename_i h2;simp at h2 h;omega)
    |trace_state
 |false=>
  simp only[Bool.false_eq_true,if_false]
  by_cases h0:0≤i∧i<hyps.length
  ·rw [if_pos h0,if_pos h0]
   have hlt:hyps.length-1-i.toNat<hyps.length:=by omega
   rw[show hyps.getD (hyps.length-1-i.toNat) noFm=hyps[hyps.length-1-i.toNat] by simp[List.getD,hlt]]
   refine M.F Tryz.func41 ?_
   repeat'(first|refine M.w0 ?_|refine M.gs ?_ ?_<;>intro h|refine M.cs ?_ ?_<;>intro h|fail)
   all_goals first
    |(exfalso;simp at h;done)
    |(exfalso;simp at h;omega)
    |(exfalso;simp_all;omega)
    |skip
   refine L.ixt (hyps.length-1-i.toNat) rfl rfl rfl rfl (by omega) rfl rfl hlt ?_
   refine M.w0 ?_
   rfl
  ·rw [if_neg h0,if_neg h0]
   refine M.F Tryz.func41 ?_
   repeat'(first|refine M.w0 ?_|refine M.gs ?_ ?_<;>intro h|refine M.cs ?_ ?_<;>intro h|fail)
   all_goals first
    |rfl
    |(exfalso;simp at h;done)
    |(exfalso;simp_all;omega)
    |(exfalso;rename_i h2 h;simp at h2 h;omega)
    |(exfalso;rename_i h2;simp at h2 h;omega)
    |trace_state
@[simp] theorem useT_len(a:Int)(fs:List Tm)(n m:Nat):(useT a fs n m).length=m:=by simp[useT]
@[simp] theorem useP_len(a:Int)(n m:Nat):(useP a n m).length=m:=by simp[useP]
@[simp] theorem stBring_f(i:Int):(stBring false i).length=0:=rfl
@[simp] theorem stBring_t(i:Int):(stBring true i).length=1:=rfl
def useQ(lem:Bool)(i:Int)(n:Nat)(ps:List Fm)(fs:List Tm)(e:Int):List St×List Fm×Int:=
 if e≠0 then([],[],e)
 else if firstI (fun p=>(fill p fs).2) ps≠0 then([],[],firstI (fun p=>(fill p fs).2) ps)
 else(stBring lem i++useT (stAt lem i) fs n n++useP (stAt lem i) n ps.length++[stEnd (stAt lem i) n ps.length],ps.map fun p=>(fill p fs).1,0)
theorem useMain_c(lems hyps:List Fm)(tys:List Ty)(g f:Fm)(lem:Bool)(i:Int)(ts:List Ty)(ps:List Fm)(c:Fm)(fs:List Tm)(e:Int)
 (hck:PC E 40 [.s .fm lems,.agg [.s .ty tys,.s .fm hyps,.i g.kind,.i g.ty.kind,.s .ty g.ty.args,.s .tm g.terms,.s .fm g.args]] (.i 0)) (hsrc:PC E 41 [.s .fm lems,.agg [.s .ty tys,.s .fm hyps,.i g.kind,.i g.ty.kind,.s .ty g.ty.args,.s .tm g.terms,.s .fm g.args],.bool lem,.i i] (.tup [.agg f.view,.i 0])) (hpa:PC E 42 [.agg f.view] (.tup [.s .ty ts,.s .fm ps,.agg c.view])) (hm:PC E 21 [.agg c.view,.i ts.length,.agg g.view] (.tup [.s .tm fs,.i e]))
 (hib: -9223372036854775808≤i∧i≤9223372036854775807) (hle:e=0→fs.length=ts.length) (hts:ts.length<1000000) (hpl:ps.length<1000000000) (hfs:∀t∈fs,t.full<1000000000)
 (hfi:∀p∈ps,PC E 44 [.agg p.view,.s .tm fs] (.tup [.agg (fill p fs).1.view,.i (fill p fs).2])):
 PC E 18 [.s .fm lems,.agg [.s .ty tys,.s .fm hyps,.i g.kind,.i g.ty.kind,.s .ty g.ty.args,.s .tm g.terms,.s .fm g.args],.bool lem,.i i] (.tup [.s .st (useQ lem i ts.length ps fs e).1,.s .fm (useQ lem i ts.length ps fs e).2.1,.i (useQ lem i ts.length ps fs e).2.2]):=by
 unfold useQ
 by_cases he:e=0
 case neg=>
  rw[if_pos he]
  cases lem with
  |false=>
   refine M.F Tryz.func18 ?_
   repeat'(first|refine M.o4 @hck @hsrc @hpa @hm ?_|refine M.z1 11 ?_|refine M.cs ?_ ?_<;>intro h|refine M.gk ?_|fail)
   all_goals first
    |rfl
    |(exfalso;simp at h;exact he h)
    |(exfalso;simp at h;done)
    |(exfalso;simp_all;omega)
    |trace_state
  |true=>
   refine M.F Tryz.func18 ?_
   repeat'(first|refine M.o4 @hck @hsrc @hpa @hm ?_|refine M.z1 11 ?_|refine M.cs ?_ ?_<;>intro h|refine M.gk ?_|fail)
   all_goals first
    |rfl
    |(exfalso;simp at h;exact he h)
    |(exfalso;simp at h;done)
    |(exfalso;simp_all;omega)
    |trace_state
 rw[if_neg (by simp[he])]
 subst he
 have hfl:=hle rfl
 clear hle
 cases lem with
 |false=>
  obtain⟨a,ha⟩:∃a,a=stAt false i:=⟨_,rfl⟩
  rw[←ha]
  refine M.F Tryz.func18 ?_
  refine M.w4 @hck @hsrc @hpa @hm ?_
  all_goals first
   |(exfalso;simp at h;done)
   |(exfalso;simp_all;omega)
   |skip
  refine M.rt ts.length (fun m=>([(3,.i (if m=0 then a else 0)),(14,.s .ty ts),(15,.s .fm ps),(17,.s .tm fs),(18,.slice (.own 0) (.t .st (stBring false i++useT a fs ts.length m))),(67,.i ts.length),(68,.i m)],⟨1,[(0,.row)]⟩))
   (by first|(subst ha;exact(M.W [none]))|(subst ha;exact(M.W [none]))|trace_state) ?_ ?_
  ·intro m hm _
   have hlt:ts.length-1-m<fs.length:=by omega
   have hco:=ownTm_c _ fs[ts.length-1-m] (Nat.le_refl _) (by have:=hfs _ (List.getElem_mem hlt);omega)
   have hst:stU a fs ts.length m=⟨13,if m=0 then a else 0,[fs[ts.length-1-m]],[]⟩:=by unfold stU;rw[show fs.getD (ts.length-1-m) noTm=fs[ts.length-1-m] by simp[List.getD,hlt]]
   refine M.w0 ?_
   all_goals try
    refine L.ixt (ts.length-1-m) rfl rfl rfl rfl (by omega) rfl rfl hlt ?_
   refine M.w1 @hco ?_
   exact⟨rfl,trivial,(M.W [some 1] (hf:=(by(repeat'(first|exact trivial|refine And.intro ?_ ?_|refine⟨_,U,_,U,?_⟩|exact VLe.refl _|exact VLe.of_eq (by simp[Sto.upd,useT_succ,hst,List.append_assoc])));done)))⟩
  ·intro _
   refine M.w0 ?_
   obtain⟨S1,hS1⟩:∃S1,S1=stBring false i++useT a fs ts.length ts.length:=⟨_,rfl⟩
   have hS1l:S1.length≤ts.length+1:=by rw[hS1];simp<;>omega
   rw[←hS1]
   refine M.rp ps.length (fun m=>∀j (hj:j<ps.length),j<m→(fill ps[j] fs).2=0) (fun m=>([(3,.i (if m=0 then(if ts.length=0 then a else 0) else 0)),(17,.s .tm fs),(18,.slice (.own 0) (.t .st (S1++useP a ts.length m))),(20,.slice (.own 1) (.t .fm ((ps.take m).map fun p=>(fill p fs).1))),(87,.s .fm ps),(88,.i ps.length),(89,.i m)],⟨2,[(0,.row),(1,.row)]⟩))
    (fun j hj h=>by omega) (M.W rn1 (hf:=(by(repeat'(first|exact trivial|refine And.intro ?_ ?_|refine⟨_,U,_,U,?_⟩|exact VLe.refl _|exact VLe.of_eq (by simp[Sto.upd,useP,List.take_zero,List.map_nil,List.range_zero,List.append_nil])));done))) ?_ ?_
   ·intro m hm hP
    have hc:=hfi ps[m] (List.getElem_mem hm)
    have hst:stA a ts.length m=⟨14,if m=0 then(if ts.length=0 then a else 0) else 0,[],[]⟩:=rfl
    have hmt:=map_take (fun p=>(fill p fs).1) ps m hm
    by_cases hx:(fill ps[m] fs).2=0
    ·rw [hx] at hc
     generalize (fill ps[m] fs).1=X at*
     refine M.w1 @hc ?_
     all_goals first
      |(exfalso;simp at h;done)
      |skip
     exact⟨rfl,all_step (p:=fun p=>(fill p fs).2=0) hm hP hx,(M.W [some 3,some 5] (hf:=(by(repeat'(first|exact trivial|refine And.intro ?_ ?_|refine⟨_,U,_,U,?_⟩|exact VLe.refl _|exact VLe.of_eq (by simp[Sto.upd,useP_succ,hst,hmt,List.append_assoc])));done)))⟩
    ·have e1:=firstI_at (f:=fun p=>(fill p fs).2) hm hP hx
     rw[e1,if_pos hx]
     generalize (fill ps[m] fs).1=X at*
     repeat'(first|refine M.o1 @hc ?_|refine M.z1 29 ?_|refine M.cs ?_ ?_<;>intro h|refine M.gk ?_|fail)
     all_goals first
      |rfl
      |(exfalso;simp at h;exact hx h)
      |trace_state
   ·intro hP
    rw[firstI_none (f:=fun p=>(fill p fs).2) fun j hj _=>hP j hj hj,if_neg (by simp)]
    simp only[List.take_length]
    refine M.w0 ?_
    subst hS1
    first
     |rfl
     |simp[tupV,V.wk,V.wks,constV,Ty.view,Tm.view]
     |trace_state
 |true=>
  obtain⟨a,ha⟩:∃a,a=stAt true i:=⟨_,rfl⟩
  rw[←ha]
  refine M.F Tryz.func18 ?_
  refine M.w4 @hck @hsrc @hpa @hm ?_
  all_goals first
   |(exfalso;simp at h;done)
   |(exfalso;simp_all;omega)
   |skip
  refine L.apt rfl rfl rfl rfl rfl rfl (by first|exact trivial|exact⟨rfl,trivial⟩) rfl rfl (by simp) ?_
  refine M.w0 ?_
  refine M.rt ts.length (fun m=>([(3,.i (if m=0 then a else 0)),(14,.s .ty ts),(15,.s .fm ps),(17,.s .tm fs),(18,.slice (.own 0) (.t .st (stBring true i++useT a fs ts.length m))),(67,.i ts.length),(68,.i m)],⟨1,[(0,.row)]⟩))
   (by first|(subst ha;exact(M.W [some 3]))|(subst ha;exact(M.W [some 3]))|trace_state) ?_ ?_
  ·intro m hm _
   have hlt:ts.length-1-m<fs.length:=by omega
   have hco:=ownTm_c _ fs[ts.length-1-m] (Nat.le_refl _) (by have:=hfs _ (List.getElem_mem hlt);omega)
   have hst:stU a fs ts.length m=⟨13,if m=0 then a else 0,[fs[ts.length-1-m]],[]⟩:=by unfold stU;rw[show fs.getD (ts.length-1-m) noTm=fs[ts.length-1-m] by simp[List.getD,hlt]]
   refine M.w0 ?_
   all_goals try
    refine L.ixt (ts.length-1-m) rfl rfl rfl rfl (by omega) rfl rfl hlt ?_
   refine M.w1 @hco ?_
   exact⟨rfl,trivial,(M.W [some 1] (hf:=(by(repeat'(first|exact trivial|refine And.intro ?_ ?_|refine⟨_,U,_,U,?_⟩|exact VLe.refl _|exact VLe.of_eq (by simp[Sto.upd,useT_succ,hst,List.append_assoc])));done)))⟩
  ·intro _
   refine M.w0 ?_
   obtain⟨S1,hS1⟩:∃S1,S1=stBring true i++useT a fs ts.length ts.length:=⟨_,rfl⟩
   have hS1l:S1.length≤ts.length+1:=by rw[hS1];simp<;>omega
   rw[←hS1]
   refine M.rp ps.length (fun m=>∀j (hj:j<ps.length),j<m→(fill ps[j] fs).2=0) (fun m=>([(3,.i (if m=0 then(if ts.length=0 then a else 0) else 0)),(17,.s .tm fs),(18,.slice (.own 0) (.t .st (S1++useP a ts.length m))),(20,.slice (.own 1) (.t .fm ((ps.take m).map fun p=>(fill p fs).1))),(87,.s .fm ps),(88,.i ps.length),(89,.i m)],⟨2,[(0,.row),(1,.row)]⟩))
    (fun j hj h=>by omega) (M.W rn1 (hf:=(by(repeat'(first|exact trivial|refine And.intro ?_ ?_|refine⟨_,U,_,U,?_⟩|exact VLe.refl _|exact VLe.of_eq (by simp[Sto.upd,useP,List.take_zero,List.map_nil,List.range_zero,List.append_nil])));done))) ?_ ?_
   ·intro m hm hP
    have hc:=hfi ps[m] (List.getElem_mem hm)
    have hst:stA a ts.length m=⟨14,if m=0 then(if ts.length=0 then a else 0) else 0,[],[]⟩:=rfl
    have hmt:=map_take (fun p=>(fill p fs).1) ps m hm
    by_cases hx:(fill ps[m] fs).2=0
    ·rw [hx] at hc
     generalize (fill ps[m] fs).1=X at*
     refine M.w1 @hc ?_
     all_goals first
      |(exfalso;simp at h;done)
      |skip
     exact⟨rfl,all_step (p:=fun p=>(fill p fs).2=0) hm hP hx,(M.W [some 3,some 5] (hf:=(by(repeat'(first|exact trivial|refine And.intro ?_ ?_|refine⟨_,U,_,U,?_⟩|exact VLe.refl _|exact VLe.of_eq (by simp[Sto.upd,useP_succ,hst,hmt,List.append_assoc])));done)))⟩
    ·have e1:=firstI_at (f:=fun p=>(fill p fs).2) hm hP hx
     rw[e1,if_pos hx]
     generalize (fill ps[m] fs).1=X at*
     repeat'(first|refine M.o1 @hc ?_|refine M.z1 29 ?_|refine M.cs ?_ ?_<;>intro h|refine M.gk ?_|fail)
     all_goals first
      |rfl
      |(exfalso;simp at h;exact hx h)
      |trace_state
   ·intro hP
    rw[firstI_none (f:=fun p=>(fill p fs).2) fun j hj _=>hP j hj hj,if_neg (by simp)]
    simp only[List.take_length]
    refine M.w0 ?_
    subst hS1
    first
     |rfl
     |simp[tupV,V.wk,V.wks,constV,Ty.view,Tm.view]
     |trace_state
theorem false07_c:PC E 17 [] (.agg falseF.view):=by
 have h1:=n_c 4 [] (by simp)
 have h2:=n_c 5 [.mk 4 0 (.mk 0 []) []] (by simp[Tm.full,Tm.fulls,Ty.size,Ty.sizes])
 have h3:=eqFm_c (.mk 4 0 (.mk 0 []) []) (.mk 5 0 (.mk 0 []) [.mk 4 0 (.mk 0 []) []]) (by simp[Tm.full,Tm.fulls,Ty.size,Ty.sizes]) (by simp[Tm.full,Tm.fulls,Ty.size,Ty.sizes])
 refine M.F Tryz.func17 ?_
 refine M.w3 @h1 @h2 @h3 ?_
 rfl
theorem allN_qu(b:Fm):∀n,allN n b=quFs (List.replicate n (4,natT)) b
 |0=>rfl
 |n+1=>by
  have:=allN_qu b n
  simp only[allN,List.replicate_succ,this]
  rfl
theorem ep_uw{g:List Ty}(hg:smalls g)(hl:g.length≤3){n:Nat}(hn:1≤n∧n≤3)(d:Dk):
 UW g (fill (epB n d g) (epL n d g).1).1 [allN n (epB n d g),falseF] 1 (epL n d g).1.reverse (epB n d g):=by
 have hc:=(epB_ch hg hl hn d).1
 have ha:=ep_all hg hl hn d
 have hlen:=epL_len n d g
 refine⟨hc,fun x hx=> ?_,by simp[hlen];omega,by simp,?_,ha.2.2.2.2⟩
 ·simp only[List.mem_cons,List.not_mem_nil,or_false] at hx
  rcases hx with rfl|rfl
  ·have:=hc.err
   rwa [List.length_reverse,hlen] at this
  ·exact ⟨false_err,falseF_okT _⟩
 ·rw [List.length_reverse,hlen];rfl
theorem ep_use_c{g:List Ty}{f b:Fm}{l:List Tm}{n:Nat}(h:UW g f [allN n b,falseF] 1 l.reverse b)(hm:matchF b n f=(l,0))(hl:l.length=n)(hn:n≤3)(hk:b.kind=1)(hlf:∀t∈l,t.full<100000):
 PC E 18 [.s .fm [],.agg [.s .ty g,.s .fm [allN n b,falseF],.i f.kind,.i f.ty.kind,.s .ty f.ty.args,.s .tm f.terms,.s .fm f.args],.bool false,.i 1] (.tup [.s .st (stW 1 l.reverse),.s .fm [],.i 0]):=by
 obtain⟨b1,b2,b3,b4,b5,b6⟩:=h.bds
 have hck:=goalCheck_c [] [allN n b,falseF] g f (fun x hx=>by cases hx) (fun x hx=>by have:=b5 x hx;omega) (by omega) (by decide) (by simp) (by omega)
 rw[h.seq,if_neg (by simp),h.goal.2.2] at hck
 have hsrc:=source_c [] [allN n b,falseF] g f false 1 (by simp) (by simp) (by omega)
 have e1:(if(0:Int)≤1∧(1:Int)<(if false=true then([]:List Fm) else [allN n b,falseF]).length then(if false=true then([]:List Fm).getD (1:Int).toNat noFm else [allN n b,falseF].getD ([allN n b,falseF].length-1-(1:Int).toNat) noFm) else noFm)=allN n b:=by
  rw[if_pos (by simp)];rfl
 have e2:(if(0:Int)≤1∧(1:Int)<(if false=true then([]:List Fm) else [allN n b,falseF]).length then(0:Int) else if false=true then 9 else 8)=0:=by
  rw[if_pos (by simp)]
 rw[e1,e2] at hsrc
 have haf:(allN n b).full≤266240:=b5 _ (by simp)
 have hpa:=partsFm_c (List.replicate n (4,natT)) [] b (fun q hq=>by rw[(List.mem_replicate.1 hq).2];exact .inl rfl) (by show b.kind≠4∧b.kind≠6;omega) (by omega) (by
  have:quFs (List.replicate n (4,natT)) (imFs [] b)=allN n b:=(allN_qu b n).symm
  rw[this];omega)
 have hbf:b.full≤266240:=by
  have h1:b.err=0:=(Fm.err_iff _).2 ⟨h.ch.sh,by have:=h.ch.sz;omega⟩
  exact ferr_full h1
 have hmc:=match_c b f n (by omega) (by omega)
 rw[hm] at hmc
 have hqu:=allN_qu b n
 have e4:quFs (List.replicate n (4,natT)) (imFs [] b)=allN n b:=hqu.symm
 rw[e4] at hpa
 have e5:(List.replicate n ((4:Int),natT)).map (·.2)=List.replicate n natT:=by simp
 rw[e5] at hpa
 have hL:(List.replicate n natT).length=n:=by simp
 have hmc:PC E 21 [.agg b.view,.i (List.replicate n natT).length,.agg f.view] (.tup [.s .tm l,.i 0]):=by rw[hL];exact hmc
 have a1:=useMain_c [] [allN n b,falseF] g f (allN n b) false 1 (List.replicate n natT) [] b l 0 hck hsrc hpa hmc (by omega) (fun _=>by rw[hL,hl]) (by rw[hL];omega) (by decide) (fun t ht=>by have:=hlf t ht;omega) (fun p hp=>by cases hp)
 have e6:useQ false 1 (List.replicate n natT).length [] l 0=(stW 1 l.reverse,[],0):=by
  unfold useQ
  rw[if_neg (by simp),if_neg (by simp[firstI]),hL]
  have:=useT_eq 1 l n hl.symm
  rw[←this]
  simp[stBring,stAt,useP]
 rw[e6] at a1
 exact a1
def zFmV:List V:=[.i 0,.i 0,.slice .nil (.t .ty []),.slice .nil (.t .tm []),.slice .nil (.t .fm [])]
theorem elaborateProves_c(t:List Int):PC E 3 [.s .int t] (.bool true):=by
 by_cases hl:t.length≤500
 case neg=>
  have hf:=few_f t hl
  refine M.F Tryz.func3 ?_
  refine M.w2 @sane18_c @hf ?_
  rfl
 have hf:=few_t t hl
 have hn:=new_c t
 have d0:=deck_ok hl
 have hctx:=context_c (Dk.mk t 0) d0
 have hg:=Dk.ctx_smalls (Dk.mk t 0)
 have hgl:=Dk.ctx_len (Dk.mk t 0)
 have ok1:=Dk.ctx_ok d0
 generalize (Dk.mk t 0).ctx.1=g at*
 generalize (Dk.mk t 0).ctx.2=d1 at*
 have hnx:=next_c d1 3 ok1 (by omega)
 have hnb:=Dk.next_bd d1 3 (by omega)
 have ok2:=Dk.next_ok ok1 3
 obtain⟨m0,hm0⟩:∃m:Nat,(d1.next 3).1=m:=⟨(d1.next 3).1.toNat,by omega⟩
 rw[hm0] at hnx hnb
 generalize (d1.next 3).2=d2 at*
 clear hm0
 have hn13:1≤m0+1∧m0+1≤3:=by omega
 have hlen:=epL_len (m0+1) d2 g
 have hgf:(g.map Ty.size).sum≤9:=by have:=smalls_sum hg;omega
 refine M.F Tryz.func3 ?_
 repeat'(first|refine M.o2 @sane18_c @hf ?_|refine M.cb (hn) [] 1 ?_|refine M.cb (hctx) [0] 0 ?_|refine M.cb (hnx) [0] 0 ?_|refine M.c2 (nat_c) ?_|refine M.z1 14 ?_|refine M.gk ?_|fail)
 all_goals first
  |(exfalso;simp at h;done)
  |skip
 refine M.rt (m0+1)
  (fun m=>([(3,.ptr 0 0),(4,.s .ty g),(5,.i (m0+1:Nat)),(6,.slice (.own 1) (.t .ty (g++List.replicate m natT))),(7,.slice (.own 4) (.t .tm (epL m d2 g).1)),(8,.ptr 2 0),(9,.ptr 3 0),(38,.i (m0+1:Nat)),(39,.i m)],⟨5,[(0,.var (epL m d2 g).2.cells),(1,.row),(2,.var zFmV),(3,.var natT.view),(4,.row)]⟩))
  (M.W rn4 (hf:=(by(repeat'(first|exact trivial|refine And.intro ?_ ?_|refine⟨_,U,_,U,?_⟩|exact VLe.refl _|exact VLe.of_eq (by simp[Sto.upd,epL,List.replicate,zFmV,Int.natCast_add])));done))) ?_ ?_
 ·intro m hm _
  have hT:=term_c 4 (by omega) (epL m d2 g).2 g natT 2 (by omega) (epL_ok m d2 ok2) hg small_nat (by omega) (by omega) (by omega)
  have hml:(epL m d2 g).1.length=m:=epL_len m d2 g
  refine M.w1 @hT ?_
  exact⟨rfl,trivial,(M.W [some 0,some 5,some 2,some 3,some 6] (hf:=(by(repeat'(first|exact trivial|refine And.intro ?_ ?_|refine⟨_,U,_,U,?_⟩|exact VLe.refl _|exact VLe.of_eq (by simp[Sto.upd,epL,List.replicate_succ',List.append_assoc])));done)))⟩
 ·intro _
  generalize hd3:(epL (m0+1) d2 g).2=d3 at*
  have ok3:d3.ok:=by rw[←hd3];exact epL_ok _ d2 ok2
  repeat'(first|refine M.o1 (var_c 0) ?_|refine M.z1 20 ?_|refine M.gk ?_|fail)
  refine AW.block (AW.upto m0 (fun _=>True)
   (fun m=>([(3,.ptr 0 0),(4,.s .ty g),(5,.i (m0+1:Nat)),(6,.s .ty (g++List.replicate (m0+1) natT)),(7,.s .tm (epL (m0+1) d2 g).1),(8,.ptr 1 0),(9,.ptr 2 0),(10,.ptr 3 0),(11,.i ((m:Int)+1))],⟨4,[(0,.var (epS m d3).2.cells),(1,.var zFmV),(2,.var natT.view),(3,.var (epS m d3).1.view)]⟩))
   trivial (M.W [some 0,some 2,some 3,some 5]) ?_)
  intro m hm _
  have ok4:=epS_ok m d3 ok3
  have hF:=fun3_c (epS m d3).2 ok4
  have hgF:=tn_fun3 (epS m d3).2
  have hfl:=hgF.full
  have h34:(3:Nat)^4=81:=rfl
  have hsS:=epS_shape m d3
  have q1:=fun_c natT natT (by decide) (by decide)
  have q2:=fun_c natT (funT natT natT) (by decide) (by decide)
  have q3:=var_c ((m:Int)+1)
  have hSf:(epS m d3).1.full≤200000:=by
   have:=tfull_le _ hsS.1
   omega
  have q4:=appMake_c (Dk.tn 4 (epS m d3).2 [] fun3).1 [(epS m d3).1,vT ((m:Int)+1)] (by simp[vT,Tm.full,Tm.fulls,Ty.size,Ty.sizes];omega)
  repeat'(first|refine M.o0 ?_|refine M.z1 22 ?_|refine M.cs ?_ ?_<;>intro h|refine M.gk ?_|fail)
  ·refine K.sq (AW.block ?_)
   refine AW.regD mixed (by kernel_rfl) ?_
   refine M.w5 @q1 @q2 @q3 @q4 @hF ?_
   exact⟨by simp at h;omega,trivial,(M.W rh4)⟩
  ·have hmm:m=m0:=by simp at h;omega
   subst hmm
   have hw:=ep_uw hg hgl hn13 d2
   have ha:=ep_all hg hgl hn13 d2
   have hRf:=tm_full (n:=3) (by omega) (epS m d3).2 (smalls_rep hg (m+1)) small_nat (by omega) (by omega)
   have hR:=term_c 3 (by omega) (epS m d3).2 (g++List.replicate (m+1) natT) natT 1 (by omega) ok4 (smalls_rep hg (m+1)) small_nat (by omega) (by omega) (by simp;omega)
   have eB:epB (m+1) d2 g=eqF (epS m d3).1 (Dk.tm 3 (epS m d3).2 (g++List.replicate (m+1) natT) natT).1:=by rw[←hd3];rfl
   have hk1:(epB (m+1) d2 g).kind=1:=rfl
   have qe:=eqFm_c (epS m d3).1 (Dk.tm 3 (epS m d3).2 (g++List.replicate (m+1) natT) natT).1 (by omega) (by omega)
   rw[←eB] at qe
   have hlf:∀x∈(epL (m+1) d2 g).1,x.full<100000:=fun x hx=>by
    have:=(epL_mk hg (m+1) d2 x hx).full hg small_nat
    omega
   clear eB hF hgF hfl q4
   generalize Dk.tm 3 (epS m d3).2 (g++List.replicate (m+1) natT) natT=RR at*
   generalize epB (m+1) d2 g=b at*
   generalize (epL (m+1) d2 g).1=l at*
   have hbs:=hw.ch.sz
   have hbe:b.err=0:=(Fm.err_iff _).2 ⟨hw.ch.sh,by omega⟩
   have hbf:=ferr_full hbe
   have qf:=fillR_c b l (by omega) (fun _ x hx=>by have:=hlf x hx;omega)
   rw[ha.1] at qf
   have hu:=ep_use_c hw ha.2.2.2.1 hlen (by omega) hk1 hlf
   have hp:PC E 19 [.s .fm [],.agg (Gl.view ⟨⟨g,[allN (m+1) b,falseF]⟩,(fill b l).1⟩),.s .st (stW 1 l.reverse)] (.tup [.agg (useW 1 l.reverse b).view,.i 0]):=g16Prove_c hw (by rw[List.length_reverse];omega)
   have hpe:(useW 1 l.reverse b).err=0:=hw.prf (by rw[List.length_reverse];omega)
   have hpf:=prf_full hpe
   have hac:AcceptsR [] g [allN (m+1) b,falseF] (useW 1 l.reverse b) (fill b l).1=0∨AcceptsR [] g [allN (m+1) b,falseF] (useW 1 l.reverse b) (fill b l).1=4:=hw.accepts (by rw[List.length_reverse];omega)
   obtain⟨b1,b2,b3,b4,b5,b6⟩:=hw.bds
   have qa:=kAccepts_c [] [allN (m+1) b,falseF] g (useW 1 l.reverse b) (fill b l).1 (fun x hx=>by cases hx) (fun x hx=>by have:=b5 x hx;omega) (by omega) (by decide) (by simp) (by omega) (by omega)
   have hsl:=stW_len 1 l.reverse
   rw[List.length_reverse,hlen] at hsl
   have hsh:=hw.ch.sh
   clear hw ha
   generalize (fill b l).1=f at*
   generalize useW 1 l.reverse b=W at*
   generalize stW 1 l.reverse=sl at*
   have hall:∀k:Nat,k≤3→(allN k b).full≤266240:=fun k hk=>ferr_full ((Fm.err_iff _).2 ⟨allN_shape b hsh k,by rw[allN_size];omega⟩)
   repeat'(first|refine M.o3 @hR @qe @qf ?_|refine M.z1 27 ?_|refine M.gk ?_|fail)
   refine M.rp (m+1) (fun k=>True)
    (fun k=>([(4,.s .ty g),(5,.i (m+1:Nat)),(8,.ptr 0 0),(9,.ptr 1 0),(13,.ptr 2 0),(14,.i 0),(84,.i (m+1:Nat)),(85,.i k)],⟨3,[(0,.var (allN k b).view),(1,.var natT.view),(2,.var f.view)]⟩))
    trivial (M.W [some 1,some 2,some 5]) ?_ ?_
   ·intro k hk _
    have qq:=qFm_c 4 natT (allN k b) (by decide) (by have:=hall k (by omega);omega)
    refine M.w1 @qq ?_
    exact⟨rfl,trivial,(M.W rh3)⟩
   ·intro _
    generalize allN (m+1) b=A at*
    rcases hac with e|e
    ·rw [e] at qa
     repeat'(first|refine M.w4 @false07_c @hu @hp @qa ?_|refine M.cs ?_ ?_<;>intro h|fail)
     all_goals first
      |rfl
      |(exfalso;simp[hsl] at h;done)
      |(exfalso;simp at h;omega)
      |trace_state
    ·rw [e] at qa
     repeat'(first|refine M.w4 @false07_c @hu @hp @qa ?_|refine M.cs ?_ ?_<;>intro h|fail)
     all_goals first
      |rfl
      |(exfalso;simp[hsl] at h;done)
      |(exfalso;simp at h;omega)
      |trace_state
end Go.Ab
