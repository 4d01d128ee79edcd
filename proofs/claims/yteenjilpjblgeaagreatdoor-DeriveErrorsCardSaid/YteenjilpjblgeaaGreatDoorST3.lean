/- A part of the proofs of this seat's statements: S98, S99, S100, S101, S103, S74, S105, S106, S108. It has no conditions of its own. -/
import Derived.Test.YteenjilpjblgeaaGreatDoorA2
import Derived.Test.YteenjilpjblgeaaGreatDoorST2
import Derived.Test.YteenjilpjblgeaaGreatDoorS3
import Derived.Test.YteenjilpjblgeaaGreatDoorDT1
namespace Go.Ab
open Go Go.Proofs
set_option maxRecDepth 100000
set_option maxHeartbeats 4000000
set_option linter.all false
theorem tcount_c(a:Nat)(b:Bool)(n:Nat)(e:Int)(ha:a≤1000000000000)(hn:n≤1000000000000):
 AC E 247 [.ptr 0 0,.i n,.i e] ⟨1,[(0,.var [.i a,.bool b])]⟩ (.bool (e !=2)) ⟨1,[(0,.var [.i ((a+n:Nat):Int),.bool (b||e==4)])]⟩:=by
 rw[Int.natCast_add]
 cases b with
 |true=>
  refine M.F Tryz.func247 ?_
  repeat'(first|refine M.gw ?_|fail)
  (exact M.n2 [some 0] (h8:=(by simp[tupV,V.wk,V.wks,constV,Ty.view,Tm.view,V.frz])))
 |false=>
  refine M.F Tryz.func247 ?_
  repeat'(first|refine M.gw ?_|fail)
  (exact M.n2 [some 0] (h8:=(by simp[tupV,V.wk,V.wks,constV,Ty.view,Tm.view,V.frz])))
theorem tproof_c:∀(n:Nat) (p:Pf) (s:Tl),p.full≤n→n<274877906944→s.1+p.full≤549755813888→
 AC E 217 [.ptr 0 0,.agg p.view] ⟨1,[(0,.var [.i s.1,.bool s.2])]⟩ (.bool (tlP p s).1) ⟨1,[(0,.var [.i (tlP p s).2.1,.bool (tlP p s).2.2])]⟩:=by
 intro n
 induction n with
 |zero=>intro p s h;have:=p.full_pos;omega
 |succ n ih=>
 intro p s hsz hn hs
 have hsz':=p.full_eq
 have hse:=p.size_eq
 have hlen:=lsum_len Pf.full Pf.full_pos p.args
 have hlen1:=lsum_len Fm.full Fm.full_pos p.forms
 have hlen2:=lsum_len Tm.full Tm.full_pos p.terms
 have hle0:=lsum_le (f:=Tm.size) (g:=Tm.full) p.terms fun x _=>x.size_le_full
 have hle1:=lsum_le (f:=Fm.size) (g:=Fm.full) p.forms fun x _=>x.size_le_full
 have hle2:=lsum_le (f:=Pf.size) (g:=Pf.full) p.args fun x _=>x.size_le_full
 have hru:=ruleOf_c p.kind
 have he:=tlP_eq p s
 cases hnd:ndP p.kind with
 |none=>
  have e2:ruC p.kind=[.bool false,.bool false,.i 0,.i 0,.i 0,.i 0,.i 0,.i 0]:=by unfold ruC;rw[hnd]
  have e:p.hdA=false:=by unfold Pf.hdA;rw[hnd]
  rw[hnd,e2] at hru
  rw[if_pos e] at he
  rw[he]
  refine M.F Tryz.func217 ?_
  repeat'(first|refine M.gw ?_|refine M.c2 (hru) ?_|fail)
  (exact M.n2 [some 0] (h8:=(by simp[tupV,V.wk,V.wks,constV,Ty.view,Tm.view,V.frz])))
 |some nd=>
 cases hty:nd.typ with
 |true=>
  have e2:ruC p.kind=[.bool nd.index,.bool true,.i nd.terms,.i nd.forms,.i nd.args,.i (fvK p.kind),.i (vaK p.kind),.i (hyK p.kind)]:=by unfold ruC;rw[hnd,←hty]
  rw[hnd,e2] at hru
  simp only[Option.isSome_some] at hru
  by_cases hA:p.hdA=false
  ·rw [if_pos hA] at he
   rw[he]
   refine M.F Tryz.func217 ?_
   repeat'(first|refine M.go ?_|refine M.c2 (hru) ?_|((fail_if_success refine AX.wt U ?_);refine AX.gs U U (fun _=>trivial) (fun h=> ?_) (fun h=> ?_))|((with_reducible refine D.aw ?_);(fail_if_success with_reducible refine D.stopR (id:=4) ?_);(fail_if_success with_reducible refine D.stopS (id:=4) ?_);first|refine M.ga ?_|refine AW.condS U (fun h=> ?_) (fun h=> ?_))|refine M.gk ?_|fail)
   all_goals(try(exfalso;simp only[Pf.hdA,hnd] at hA;simp_all;done))
   all_goals(try(exfalso;simp only[Pf.hdA,hnd] at hA;simp_all;omega))
   all_goals(exact M.n2 [some 0] (h8:=(by simp[tupV,V.wk,V.wks,constV,Ty.view,Tm.view,V.frz])))
  rw[if_neg hA] at he
  rw[Bool.not_eq_false] at hA
  have hA2:=hA
  simp only[Pf.hdA,hnd,Bool.and_eq_true,Bool.or_eq_true,decide_eq_true_eq,beq_iff_eq] at hA2
  obtain⟨⟨⟨⟨q1,q2⟩,q3⟩,q4⟩,q5⟩:=hA2
  have hT:p.hdT=p.ty.ok:=by unfold Pf.hdT;rw[hnd];simp only[hty];rfl
  have hct:=checkTy_c p.ty (by omega)
  by_cases hx:p.ty.err=0
  case neg=>
   have hT2:p.hdT=false:=by
    rw[hT]
    cases ho:p.ty.ok with
    |false=>rfl
    |true=>exact absurd (ok_err0 ho) hx
   rw[if_pos hT2] at he
   rw[he]
   refine M.F Tryz.func217 ?_
   repeat'(first|refine M.go ?_|refine M.c2 (hru) ?_|refine M.c2 (hct) ?_|((fail_if_success refine AX.wt U ?_);refine AX.gs U U (fun _=>trivial) (fun h=> ?_) (fun h=> ?_))|((with_reducible refine D.aw ?_);(fail_if_success with_reducible refine D.stopR (id:=11) ?_);(fail_if_success with_reducible refine D.stopS (id:=11) ?_);first|refine M.ga ?_|refine AW.condS U (fun h=> ?_) (fun h=> ?_))|refine M.gk ?_|fail)
   all_goals(try(exfalso;simp_all;done))
   all_goals(try(exfalso;simp_all;omega))
   all_goals(exact M.n2 [some 0] (h8:=(by simp[tupV,V.wk,V.wks,constV,Ty.view,Tm.view,V.frz])))
  have hT2:p.hdT=true:=by
   rw[hT]
   have:=(Ty.err_iff p.ty).1 hx
   exact ok_of this.1 this.2
  rw[if_neg (by simp[hT2])] at he
  rw[hx] at hct
  refine M.F Tryz.func217 ?_
  repeat'(first|refine M.gw ?_|refine M.c2 (hru) ?_|refine M.c2 (hct) ?_|((fail_if_success refine AX.wt U ?_);refine AX.gs U U (fun _=>trivial) (fun h=> ?_) (fun h=> ?_))|refine AW.condS U (fun h=> ?_) (fun h=> ?_)|fail)
  all_goals(try(exfalso;simp_all;done))
  all_goals(try(exfalso;simp_all;omega))
  all_goals
   refine AW.range p.terms.length (fun m=>(tlT (p.terms.take m) (s.1+1,s.2)).1=true)
    (fun m=>([(0,.ptr 0 0),(3,.ptr 1 0),(84,.s .tm p.terms),(85,.i p.terms.length),(86,.i m)],⟨2,[(0,.var [.i ((tlT (p.terms.take m) (s.1+1,s.2)).2.1:Nat),.bool (tlT (p.terms.take m) (s.1+1,s.2)).2.2]),(1,.var p.view)]⟩))
    (by omega) (fun m=>rfl) (fun m=>rfl) rfl rfl (M.W [some 0,some 1]) ?_ ?_
   ·intro m hm hP
    have hs2:=lsum_mem Tm.full (List.getElem_mem hm)
    have hs4:=lsum_take_le Tm.size p.terms m
    have hok:=(tlT_ok (p.terms.take m) (s.1+1,s.2)).2.1
    have hnn:0≤p.terms[m].num∧p.terms[m].num≤4096:=by rcases terr_cases p.terms[m] with⟨_,_,_,e⟩|⟨_,_,e⟩|⟨_,_,_,e⟩<;>omega
    have hnum:p.terms[m].num=(p.terms[m].num.toNat:Int):=by omega
    have hc:=checkTm_c p.terms[m] (by omega)
    rw[hnum] at hc
    have hcnt:=tcount_c (tlT (p.terms.take m) (s.1+1,s.2)).2.1 (tlT (p.terms.take m) (s.1+1,s.2)).2.2 p.terms[m].num.toNat p.terms[m].err (by simp only at hok;omega) (by omega)
    by_cases h2:p.terms[m].err=2
    ·rw [show(p.terms[m].err !=2)=false by simp[h2]] at hcnt
     have hst:=tlT_stop hm hP h2
     rw[hst,if_pos rfl] at he
     rw[he]
     repeat'(first|refine M.gw ?_|refine M.c2 (hc) ?_|refine M.cb (hcnt) [0] 0 ?_|fail)
     (exact M.n2 [some 0] (h8:=(by simp[tupV,V.wk,V.wks,constV,Ty.view,Tm.view,V.frz])))
    ·rw [show(p.terms[m].err !=2)=true by simp[h2]] at hcnt
     have hA1:tlT (p.terms.take (m+1)) (s.1+1,s.2)=(true,((tlT (p.terms.take m) (s.1+1,s.2)).2.1+p.terms[m].num.toNat,(tlT (p.terms.take m) (s.1+1,s.2)).2.2||p.terms[m].err==4)):=by
      rw[tlT_take hm hP,tlT,if_neg h2];rfl
     repeat'(first|refine M.gw ?_|refine M.c2 (hc) ?_|refine M.cb (hcnt) [0] 0 ?_|fail)
     refine⟨rfl,congrArg Prod.fst hA1,?_⟩
     simp only[hA1]
     exact(M.W [some 0,some 1])
   ·intro hP
    simp only[List.take_length] at hP
    simp only[List.take_length]
    have hAok:=(tlT_ok p.terms (s.1+1,s.2)).2.1
    rw[if_neg (by simp[hP])] at he
    generalize hA0:tlT p.terms (s.1+1,s.2)=a0 at*
    repeat'(first|refine M.gw ?_|fail)
    refine AW.range p.forms.length (fun m=>(tlF (p.forms.take m) a0.2).1=true)
     (fun m=>([(0,.ptr 0 0),(3,.ptr 1 0),(99,.s .fm p.forms),(100,.i p.forms.length),(101,.i m)],⟨2,[(0,.var [.i ((tlF (p.forms.take m) a0.2).2.1:Nat),.bool (tlF (p.forms.take m) a0.2).2.2]),(1,.var p.view)]⟩))
     (by omega) (fun m=>rfl) (fun m=>rfl) rfl rfl (M.W [some 0,some 1]) ?_ ?_
    ·intro m hm hP2
     have hs2:=lsum_mem Fm.full (List.getElem_mem hm)
     have hs4:=lsum_take_le Fm.size p.forms m
     have hok:=(tlF_ok (p.forms.take m) a0.2).2.1
     have hnn:=fnum_le p.forms[m]
     have hnum:p.forms[m].num=(p.forms[m].num.toNat:Int):=by omega
     have hc:=checkFm_c p.forms[m] (by omega)
     rw[hnum] at hc
     have hcnt:=tcount_c (tlF (p.forms.take m) a0.2).2.1 (tlF (p.forms.take m) a0.2).2.2 p.forms[m].num.toNat p.forms[m].err (by simp only at hAok;omega) (by omega)
     by_cases h2:p.forms[m].err=2
     ·rw [show(p.forms[m].err !=2)=false by simp[h2]] at hcnt
      have hst:=tlF_stop hm hP2 h2
      rw[hst,if_pos rfl] at he
      rw[he]
      repeat'(first|refine M.gw ?_|refine M.c2 (hc) ?_|refine M.cb (hcnt) [0] 0 ?_|fail)
      (exact M.n2 [some 0] (h8:=(by simp[tupV,V.wk,V.wks,constV,Ty.view,Tm.view,V.frz])))
     ·rw [show(p.forms[m].err !=2)=true by simp[h2]] at hcnt
      have hA1:tlF (p.forms.take (m+1)) a0.2=(true,((tlF (p.forms.take m) a0.2).2.1+p.forms[m].num.toNat,(tlF (p.forms.take m) a0.2).2.2||p.forms[m].err==4)):=by
       rw[tlF_take hm hP2,tlF,if_neg h2];rfl
      repeat'(first|refine M.gw ?_|refine M.c2 (hc) ?_|refine M.cb (hcnt) [0] 0 ?_|fail)
      refine⟨rfl,congrArg Prod.fst hA1,?_⟩
      simp only[hA1]
      exact(M.W [some 0,some 1])
    ·intro hP2
     simp only[List.take_length] at hP2
     simp only[List.take_length]
     have hBok:=(tlF_ok p.forms a0.2).2.1
     rw[if_neg (by simp[hP2])] at he
     generalize hB0:tlF p.forms a0.2=b0 at*
     repeat'(first|refine M.gw ?_|fail)
     refine AW.range p.args.length (fun m=>(tlPs (p.args.take m) b0.2).1=true)
      (fun m=>([(0,.ptr 0 0),(3,.ptr 1 0),(114,.s .pf p.args),(115,.i p.args.length),(116,.i m)],⟨2,[(0,.var [.i ((tlPs (p.args.take m) b0.2).2.1:Nat),.bool (tlPs (p.args.take m) b0.2).2.2]),(1,.var p.view)]⟩))
      (by omega) (fun m=>rfl) (fun m=>rfl) rfl rfl (M.W [some 0,some 1]) ?_ ?_
     ·intro m hm hP3
      have hs2:=lsum_mem Pf.full (List.getElem_mem hm)
      have hs4:=lsum_take_le Pf.size p.args m
      have hok:=(tlPs_ok (p.args.take m) (fun q _=>tlP_ok q) b0.2).2.1
      have hs5:=lsum_take Pf.full p.args m hm
      have hs6:=lsum_take_le Pf.full p.args (m+1)
      have hs7:=lsum_le (f:=Pf.size) (g:=Pf.full) (p.args.take m) fun x _=>x.size_le_full
      have hc:=ih p.args[m] (tlPs (p.args.take m) b0.2).2 (by omega) (by omega) (by simp only at hAok;omega)
      cases h2:(tlP p.args[m] (tlPs (p.args.take m) b0.2).2).1 with
      |false=>
       have hst:=tlPs_stop hm hP3 h2
       rw[hst] at he
       rw[he]
       rw[h2] at hc ⊢
       repeat'(first|refine M.gw ?_|refine M.cb (hc) [0] 0 ?_|fail)
       (exact M.n2 [some 0] (h8:=(by simp[tupV,V.wk,V.wks,constV,Ty.view,Tm.view,V.frz])))
      |true=>
       rw[h2] at hc
       have hA1:tlPs (p.args.take (m+1)) b0.2=tlP p.args[m] (tlPs (p.args.take m) b0.2).2:=by rw[tlPs_take hm hP3,tlPs_one]
       repeat'(first|refine M.gw ?_|refine M.cb (hc) [0] 0 ?_|fail)
       refine⟨rfl,(congrArg Prod.fst hA1).trans h2,?_⟩
       simp only[hA1]
       exact(M.W [some 0,some 1])
     ·intro hP3
      simp only[List.take_length] at hP3
      simp only[List.take_length]
      rw[he,hP3]
      repeat'(first|refine M.gw ?_|fail)
      (exact M.n2 [some 0] (h8:=(by simp[tupV,V.wk,V.wks,constV,Ty.view,Tm.view,V.frz])))
 |false=>
  have e2:ruC p.kind=[.bool nd.index,.bool false,.i nd.terms,.i nd.forms,.i nd.args,.i (fvK p.kind),.i (vaK p.kind),.i (hyK p.kind)]:=by unfold ruC;rw[hnd,←hty]
  rw[hnd,e2] at hru
  simp only[Option.isSome_some] at hru
  by_cases hA:p.hdA=false
  ·rw [if_pos hA] at he
   rw[he]
   refine M.F Tryz.func217 ?_
   repeat'(first|refine M.go ?_|refine M.c2 (hru) ?_|((fail_if_success refine AX.wt U ?_);refine AX.gs U U (fun _=>trivial) (fun h=> ?_) (fun h=> ?_))|((with_reducible refine D.aw ?_);(fail_if_success with_reducible refine D.stopR (id:=4) ?_);(fail_if_success with_reducible refine D.stopS (id:=4) ?_);first|refine M.ga ?_|refine AW.condS U (fun h=> ?_) (fun h=> ?_))|refine M.gk ?_|fail)
   all_goals(try(exfalso;simp only[Pf.hdA,hnd] at hA;simp_all;done))
   all_goals(try(exfalso;simp only[Pf.hdA,hnd] at hA;simp_all;omega))
   all_goals(exact M.n2 [some 0] (h8:=(by simp[tupV,V.wk,V.wks,constV,Ty.view,Tm.view,V.frz])))
  rw[if_neg hA] at he
  rw[Bool.not_eq_false] at hA
  have hA2:=hA
  simp only[Pf.hdA,hnd,Bool.and_eq_true,Bool.or_eq_true,decide_eq_true_eq,beq_iff_eq] at hA2
  obtain⟨⟨⟨⟨q1,q2⟩,q3⟩,q4⟩,q5⟩:=hA2
  have hT:p.hdT=p.ty.isNo:=by unfold Pf.hdT;rw[hnd];simp only[hty];rfl
  have hct:=noType_c p.ty
  by_cases hx:p.ty.isNo=true
  case neg=>
   rw[Bool.not_eq_true] at hx
   have hT2:p.hdT=false:=by rw[hT,hx]
   rw[if_pos hT2] at he
   rw[he]
   rw[hx] at hct
   refine M.F Tryz.func217 ?_
   repeat'(first|refine M.go ?_|refine M.c2 (hru) ?_|refine M.c2 (hct) ?_|((fail_if_success refine AX.wt U ?_);refine AX.gs U U (fun _=>trivial) (fun h=> ?_) (fun h=> ?_))|((with_reducible refine D.aw ?_);(fail_if_success with_reducible refine D.stopR (id:=11) ?_);(fail_if_success with_reducible refine D.stopS (id:=11) ?_);first|refine M.ga ?_|refine AW.condS U (fun h=> ?_) (fun h=> ?_))|refine M.gk ?_|fail)
   all_goals(try(exfalso;simp_all;done))
   all_goals(try(exfalso;simp_all;omega))
   all_goals(exact M.n2 [some 0] (h8:=(by simp[tupV,V.wk,V.wks,constV,Ty.view,Tm.view,V.frz])))
  have hT2:p.hdT=true:=by rw[hT,hx]
  rw[if_neg (by simp[hT2])] at he
  rw[hx] at hct
  refine M.F Tryz.func217 ?_
  repeat'(first|refine M.gw ?_|refine M.c2 (hru) ?_|refine M.c2 (hct) ?_|((fail_if_success refine AX.wt U ?_);refine AX.gs U U (fun _=>trivial) (fun h=> ?_) (fun h=> ?_))|refine AW.condS U (fun h=> ?_) (fun h=> ?_)|fail)
  all_goals(try(exfalso;simp_all;done))
  all_goals(try(exfalso;simp_all;omega))
  all_goals
   refine AW.range p.terms.length (fun m=>(tlT (p.terms.take m) (s.1+1,s.2)).1=true)
    (fun m=>([(0,.ptr 0 0),(3,.ptr 1 0),(84,.s .tm p.terms),(85,.i p.terms.length),(86,.i m)],⟨2,[(0,.var [.i ((tlT (p.terms.take m) (s.1+1,s.2)).2.1:Nat),.bool (tlT (p.terms.take m) (s.1+1,s.2)).2.2]),(1,.var p.view)]⟩))
    (by omega) (fun m=>rfl) (fun m=>rfl) rfl rfl (M.W [some 0,some 1]) ?_ ?_
   ·intro m hm hP
    have hs2:=lsum_mem Tm.full (List.getElem_mem hm)
    have hs4:=lsum_take_le Tm.size p.terms m
    have hok:=(tlT_ok (p.terms.take m) (s.1+1,s.2)).2.1
    have hnn:0≤p.terms[m].num∧p.terms[m].num≤4096:=by rcases terr_cases p.terms[m] with⟨_,_,_,e⟩|⟨_,_,e⟩|⟨_,_,_,e⟩<;>omega
    have hnum:p.terms[m].num=(p.terms[m].num.toNat:Int):=by omega
    have hc:=checkTm_c p.terms[m] (by omega)
    rw[hnum] at hc
    have hcnt:=tcount_c (tlT (p.terms.take m) (s.1+1,s.2)).2.1 (tlT (p.terms.take m) (s.1+1,s.2)).2.2 p.terms[m].num.toNat p.terms[m].err (by simp only at hok;omega) (by omega)
    by_cases h2:p.terms[m].err=2
    ·rw [show(p.terms[m].err !=2)=false by simp[h2]] at hcnt
     have hst:=tlT_stop hm hP h2
     rw[hst,if_pos rfl] at he
     rw[he]
     repeat'(first|refine M.gw ?_|refine M.c2 (hc) ?_|refine M.cb (hcnt) [0] 0 ?_|fail)
     (exact M.n2 [some 0] (h8:=(by simp[tupV,V.wk,V.wks,constV,Ty.view,Tm.view,V.frz])))
    ·rw [show(p.terms[m].err !=2)=true by simp[h2]] at hcnt
     have hA1:tlT (p.terms.take (m+1)) (s.1+1,s.2)=(true,((tlT (p.terms.take m) (s.1+1,s.2)).2.1+p.terms[m].num.toNat,(tlT (p.terms.take m) (s.1+1,s.2)).2.2||p.terms[m].err==4)):=by
      rw[tlT_take hm hP,tlT,if_neg h2];rfl
     repeat'(first|refine M.gw ?_|refine M.c2 (hc) ?_|refine M.cb (hcnt) [0] 0 ?_|fail)
     refine⟨rfl,congrArg Prod.fst hA1,?_⟩
     simp only[hA1]
     exact(M.W [some 0,some 1])
   ·intro hP
    simp only[List.take_length] at hP
    simp only[List.take_length]
    have hAok:=(tlT_ok p.terms (s.1+1,s.2)).2.1
    rw[if_neg (by simp[hP])] at he
    generalize hA0:tlT p.terms (s.1+1,s.2)=a0 at*
    repeat'(first|refine M.gw ?_|fail)
    refine AW.range p.forms.length (fun m=>(tlF (p.forms.take m) a0.2).1=true)
     (fun m=>([(0,.ptr 0 0),(3,.ptr 1 0),(99,.s .fm p.forms),(100,.i p.forms.length),(101,.i m)],⟨2,[(0,.var [.i ((tlF (p.forms.take m) a0.2).2.1:Nat),.bool (tlF (p.forms.take m) a0.2).2.2]),(1,.var p.view)]⟩))
     (by omega) (fun m=>rfl) (fun m=>rfl) rfl rfl (M.W [some 0,some 1]) ?_ ?_
    ·intro m hm hP2
     have hs2:=lsum_mem Fm.full (List.getElem_mem hm)
     have hs4:=lsum_take_le Fm.size p.forms m
     have hok:=(tlF_ok (p.forms.take m) a0.2).2.1
     have hnn:=fnum_le p.forms[m]
     have hnum:p.forms[m].num=(p.forms[m].num.toNat:Int):=by omega
     have hc:=checkFm_c p.forms[m] (by omega)
     rw[hnum] at hc
     have hcnt:=tcount_c (tlF (p.forms.take m) a0.2).2.1 (tlF (p.forms.take m) a0.2).2.2 p.forms[m].num.toNat p.forms[m].err (by simp only at hAok;omega) (by omega)
     by_cases h2:p.forms[m].err=2
     ·rw [show(p.forms[m].err !=2)=false by simp[h2]] at hcnt
      have hst:=tlF_stop hm hP2 h2
      rw[hst,if_pos rfl] at he
      rw[he]
      repeat'(first|refine M.gw ?_|refine M.c2 (hc) ?_|refine M.cb (hcnt) [0] 0 ?_|fail)
      (exact M.n2 [some 0] (h8:=(by simp[tupV,V.wk,V.wks,constV,Ty.view,Tm.view,V.frz])))
     ·rw [show(p.forms[m].err !=2)=true by simp[h2]] at hcnt
      have hA1:tlF (p.forms.take (m+1)) a0.2=(true,((tlF (p.forms.take m) a0.2).2.1+p.forms[m].num.toNat,(tlF (p.forms.take m) a0.2).2.2||p.forms[m].err==4)):=by
       rw[tlF_take hm hP2,tlF,if_neg h2];rfl
      repeat'(first|refine M.gw ?_|refine M.c2 (hc) ?_|refine M.cb (hcnt) [0] 0 ?_|fail)
      refine⟨rfl,congrArg Prod.fst hA1,?_⟩
      simp only[hA1]
      exact(M.W [some 0,some 1])
    ·intro hP2
     simp only[List.take_length] at hP2
     simp only[List.take_length]
     have hBok:=(tlF_ok p.forms a0.2).2.1
     rw[if_neg (by simp[hP2])] at he
     generalize hB0:tlF p.forms a0.2=b0 at*
     repeat'(first|refine M.gw ?_|fail)
     refine AW.range p.args.length (fun m=>(tlPs (p.args.take m) b0.2).1=true)
      (fun m=>([(0,.ptr 0 0),(3,.ptr 1 0),(114,.s .pf p.args),(115,.i p.args.length),(116,.i m)],⟨2,[(0,.var [.i ((tlPs (p.args.take m) b0.2).2.1:Nat),.bool (tlPs (p.args.take m) b0.2).2.2]),(1,.var p.view)]⟩))
      (by omega) (fun m=>rfl) (fun m=>rfl) rfl rfl (M.W [some 0,some 1]) ?_ ?_
     ·intro m hm hP3
      have hs2:=lsum_mem Pf.full (List.getElem_mem hm)
      have hs4:=lsum_take_le Pf.size p.args m
      have hok:=(tlPs_ok (p.args.take m) (fun q _=>tlP_ok q) b0.2).2.1
      have hs5:=lsum_take Pf.full p.args m hm
      have hs6:=lsum_take_le Pf.full p.args (m+1)
      have hs7:=lsum_le (f:=Pf.size) (g:=Pf.full) (p.args.take m) fun x _=>x.size_le_full
      have hc:=ih p.args[m] (tlPs (p.args.take m) b0.2).2 (by omega) (by omega) (by simp only at hAok;omega)
      cases h2:(tlP p.args[m] (tlPs (p.args.take m) b0.2).2).1 with
      |false=>
       have hst:=tlPs_stop hm hP3 h2
       rw[hst] at he
       rw[he]
       rw[h2] at hc ⊢
       repeat'(first|refine M.gw ?_|refine M.cb (hc) [0] 0 ?_|fail)
       (exact M.n2 [some 0] (h8:=(by simp[tupV,V.wk,V.wks,constV,Ty.view,Tm.view,V.frz])))
      |true=>
       rw[h2] at hc
       have hA1:tlPs (p.args.take (m+1)) b0.2=tlP p.args[m] (tlPs (p.args.take m) b0.2).2:=by rw[tlPs_take hm hP3,tlPs_one]
       repeat'(first|refine M.gw ?_|refine M.cb (hc) [0] 0 ?_|fail)
       refine⟨rfl,(congrArg Prod.fst hA1).trans h2,?_⟩
       simp only[hA1]
       exact(M.W [some 0,some 1])
     ·intro hP3
      simp only[List.take_length] at hP3
      simp only[List.take_length]
      rw[he,hP3]
      repeat'(first|refine M.gw ?_|fail)
      (exact M.n2 [some 0] (h8:=(by simp[tupV,V.wk,V.wks,constV,Ty.view,Tm.view,V.frz])))
theorem placeBelow_c(k v h:Int)(nd:Nd)(hnd:ndP k=some nd)(m:Nat)(hm:m≤1000000)(hv:0≤v∧v≤1000000000000)(hh:0≤h∧h≤1000000000000):
 PC E 221 [.agg [.i v,.i h],.agg (ruC k),.i m] (.agg [.i (if(m:Int)=(nd.args:Int)-1 then v+vaK k else v),.i (if(m:Int)=(nd.args:Int)-1 then h+hyK k else h)]):=by
 have e2:ruC k=[.bool nd.index,.bool nd.typ,.i nd.terms,.i nd.forms,.i nd.args,.i (fvK k),.i (vaK k),.i (hyK k)]:=by unfold ruC;rw[hnd]
 have b1:0≤vaK k∧vaK k≤2:=by unfold vaK;split<;>(try split)<;>omega
 have b2:0≤hyK k∧hyK k≤1:=by unfold hyK;split<;>omega
 have b3:(nd.args:Int)≤2:=by
  have:nd.args≤2:=by
   unfold ndP at hnd
   repeat(split at hnd;· cases hnd;decide)
   cases hnd
  omega
 rw[e2]
 by_cases hl:(m:Int)=(nd.args:Int)-1
 ·rw [if_pos hl,if_pos hl]
  refine M.F Tryz.func221 ?_
  repeat'(first|refine M.gw ?_|refine AW.condS U (fun h=> ?_) (fun h=> ?_)|fail)
  all_goals first
   |rfl
   |(exfalso;simp at h;omega)
   |trace_state
 ·rw [if_neg hl,if_neg hl]
  refine M.F Tryz.func221 ?_
  repeat'(first|refine M.gw ?_|refine AW.condS U (fun h=> ?_) (fun h=> ?_)|fail)
  all_goals first
   |rfl
   |(exfalso;simp at h;omega)
   |trace_state
theorem ownPfRe:∀(n:Nat) (p:Pf) (v y:Int),p.full≤n→n<274877906944→(0≤v∧v+2*n≤1000000000000)→(0≤y∧y+2*n≤1000000000000)→p.shape=true→
 PC E 186 [.agg p.view,.agg [.i v,.i y],.agg [.nilf,.nilf,.nilf]] (.agg p.view):=by
 intro n
 induction n with
 |zero=>intro p v y hz;have:=p.full_pos;omega
 |succ n ih=>
 intro p v y hz hn hv hh hs
 have hsz':=p.full_eq
 have hlen:=lsum_len Pf.full Pf.full_pos p.args
 have hlen1:=lsum_len Fm.full Fm.full_pos p.forms
 have hlen2:=lsum_len Tm.full Tm.full_pos p.terms
 have hty:=ownTy_c _ p.ty (Nat.le_refl _) (by omega)
 have hru:=ruleOf_c p.kind
 obtain⟨nd,n1,n2,n3,n4,_⟩:=pf_parts hs
 have hal:p.args.length≤2:=by
  rw[n4]
  unfold ndP at n1
  repeat(split at n1;· cases n1;decide)
  cases n1
 have hpl:=fun(m:Nat) (hm:m≤1000000)=>placeBelow_c p.kind v y nd n1 m hm (by omega) (by omega)
 have e2:ruC p.kind=[.bool nd.index,.bool nd.typ,.i nd.terms,.i nd.forms,.i nd.args,.i (fvK p.kind),.i (vaK p.kind),.i (hyK p.kind)]:=by unfold ruC;rw[n1]
 have b1:0≤vaK p.kind∧vaK p.kind≤2:=by unfold vaK;split<;>(try split)<;>omega
 have b2:0≤hyK p.kind∧hyK p.kind≤1:=by unfold hyK;split<;>omega
 rw[n1] at hru
 simp only[Option.isSome_some] at hru
 have hpf:=(pshape_parts hs).2.2.2
 rw[e2] at hru
 simp only[e2] at hpl
 refine M.F Tryz.func186 ?_
 repeat'(first|refine M.gw ?_|refine M.c2 (hru) ?_|refine M.c2 (hty) ?_|((fail_if_success refine AX.wt U ?_);refine AX.gs U U (fun _=>trivial) (fun h=> ?_) (fun h=> ?_))|fail)
 all_goals
  refine AW.range p.terms.length (fun m=>True)
   (fun m=>([(3,.ptr 0 0),(4,.ptr 1 0),(5,.ptr 2 0),(6,.ptr 3 0),(7,.ptr 4 0),(9,.ptr 5 0),(44,.s .tm p.terms),(45,.i p.terms.length),(46,.i m)],⟨7,[(0,.var p.view),(1,.var [.i v,.i y]),(2,.var [.nilf,.nilf,.nilf]),(3,.var [.i 0,.i 0,.i 0,.slice .nil (.t .ty []),.slice .nil (.t .tm []),.slice .nil (.t .fm []),.slice .nil (.t .pf [])]),(4,.var [.bool nd.index,.bool nd.typ,.i nd.terms,.i nd.forms,.i nd.args,.i (fvK p.kind),.i (vaK p.kind),.i (hyK p.kind)]),(5,.var [.i p.kind,.i p.index,.i p.ty.kind,.s .ty p.ty.args,.slice (.own 6) (.t .tm (p.terms.take m)),.slice .nil (.t .fm []),.slice .nil (.t .pf [])]),(6,.row)]⟩))
   (by omega) (fun m=>rfl) (fun m=>rfl) rfl trivial (M.W [some 0,some 1,some 2,some 3,some 4,some 5,none]) ?_ ?_
  ·intro m hm _
   have hs2:=lsum_mem Tm.full (List.getElem_mem hm)
   have hc:=ownTm_c _ p.terms[m] (Nat.le_refl _) (by omega)
   repeat'(first|refine M.gw ?_|refine M.c2 (hc) ?_|fail)
   exact⟨rfl,trivial,(M.W [some 0,some 1,some 2,some 3,some 4,some 5,some 8] (he:=(by(repeat'(first|exact trivial|exact Or.inr ⟨_,U,rfl⟩|refine And.intro ?_ ?_|refine⟨_,U,_,U,_,U,?_⟩|exact VLe.refl _|exact VLe.of_eq (by simp[Sto.upd,List.take_append_getElem])));done)))⟩
  ·intro _
   simp only[List.take_length]
   repeat'(first|refine M.gw ?_|fail)
   refine AW.range p.forms.length (fun m=>True)
    (fun m=>([(3,.ptr 0 0),(4,.ptr 1 0),(5,.ptr 2 0),(6,.ptr 3 0),(7,.ptr 4 0),(9,.ptr 5 0),(73,.s .fm p.forms),(74,.i p.forms.length),(75,.i m)],⟨8,[(0,.var p.view),(1,.var [.i v,.i y]),(2,.var [.nilf,.nilf,.nilf]),(3,.var [.i 0,.i 0,.i 0,.slice .nil (.t .ty []),.slice .nil (.t .tm []),.slice .nil (.t .fm []),.slice .nil (.t .pf [])]),(4,.var [.bool nd.index,.bool nd.typ,.i nd.terms,.i nd.forms,.i nd.args,.i (fvK p.kind),.i (vaK p.kind),.i (hyK p.kind)]),(5,.var [.i p.kind,.i p.index,.i p.ty.kind,.s .ty p.ty.args,.slice (.own 6) (.t .tm p.terms),.slice (.own 7) (.t .fm (p.forms.take m)),.slice .nil (.t .pf [])]),(6,.row),(7,.row)]⟩))
    (by omega) (fun m=>rfl) (fun m=>rfl) rfl trivial (M.W [some 0,some 1,some 2,some 3,some 4,some 5,some 6,none]) ?_ ?_
   ·intro m hm _
    have hs2:=lsum_mem Fm.full (List.getElem_mem hm)
    have hc:=ownFm_c p.forms[m] (by omega)
    repeat'(first|refine M.gw ?_|refine M.c2 (hc) ?_|fail)
    exact⟨rfl,trivial,(M.W [some 0,some 1,some 2,some 3,some 4,some 5,some 6,some 9] (he:=(by(repeat'(first|exact trivial|exact Or.inr ⟨_,U,rfl⟩|refine And.intro ?_ ?_|refine⟨_,U,_,U,_,U,?_⟩|exact VLe.refl _|exact VLe.of_eq (by simp[Sto.upd,List.take_append_getElem])));done)))⟩
   ·intro _
    simp only[List.take_length]
    repeat'(first|refine M.gw ?_|fail)
    refine AW.range p.args.length (fun m=>True)
     (fun m=>([(3,.ptr 0 0),(4,.ptr 1 0),(5,.ptr 2 0),(6,.ptr 3 0),(7,.ptr 4 0),(9,.ptr 5 0),(105,.s .pf p.args),(106,.i p.args.length),(107,.i m)],⟨9,[(0,.var p.view),(1,.var [.i v,.i y]),(2,.var [.nilf,.nilf,.nilf]),(3,.var [.i 0,.i 0,.i 0,.slice .nil (.t .ty []),.slice .nil (.t .tm []),.slice .nil (.t .fm []),.slice .nil (.t .pf [])]),(4,.var [.bool nd.index,.bool nd.typ,.i nd.terms,.i nd.forms,.i nd.args,.i (fvK p.kind),.i (vaK p.kind),.i (hyK p.kind)]),(5,.var [.i p.kind,.i p.index,.i p.ty.kind,.s .ty p.ty.args,.slice (.own 6) (.t .tm p.terms),.slice (.own 7) (.t .fm p.forms),.slice (.own 8) (.t .pf (p.args.take m))]),(6,.row),(7,.row),(8,.row)]⟩))
     (by omega) (fun m=>rfl) (fun m=>rfl) rfl trivial (M.W [some 0,some 1,some 2,some 3,some 4,some 5,some 6,some 7,none]) ?_ ?_
    ·intro m hm _
     have hs2:=lsum_mem Pf.full (List.getElem_mem hm)
     have hb:=hpl m (by omega)
     have hc:=ih p.args[m] (if(m:Int)=(nd.args:Int)-1 then v+vaK p.kind else v) (if(m:Int)=(nd.args:Int)-1 then y+hyK p.kind else y) (by omega) (by omega) (by split<;>omega) (by split<;>omega) (hpf _ (List.getElem_mem hm))
     repeat'(first|refine M.gw ?_|refine M.c2 (hb) ?_|refine M.c2 (hc) ?_|fail)
     exact⟨rfl,trivial,(M.W [some 0,some 1,some 2,some 3,some 4,some 5,some 6,some 7,some 10] (he:=(by(repeat'(first|exact trivial|exact Or.inr ⟨_,U,rfl⟩|refine And.intro ?_ ?_|refine⟨_,U,_,U,_,U,?_⟩|exact VLe.refl _|exact VLe.of_eq (by simp[Sto.upd,List.take_append_getElem])));done)))⟩
    ·intro _
     simp only[List.take_length]
     repeat'(first|refine M.gw ?_|fail)
     rfl
theorem pf_num_cases(p:Pf):(p.shape=false∧p.err=2∧p.num=0)∨(p.shape=true∧(p.small=false∨p.size>16384)∧p.err=4∧p.num=0)∨(p.shape=true∧p.small=true∧p.size≤16384∧p.err=0∧p.num=p.size):=by
 unfold Pf.num Pf.err
 cases hs:p.shape with
 |false=>simp
 |true=>
  by_cases h:p.small=false∨p.size>16384
  ·simp [h]
  ·have h':=h
   rw[not_or,Bool.not_eq_false] at h'
   simp[h,h'.1];omega
theorem checkPf_c(p:Pf)(hp:p.full<274877906944):PC E 185 [.agg p.view] (.tup [.i p.num,.i p.err]):=by
 have ht:=tproof_c _ p (0,false) (Nat.le_refl _) hp (by simp only;omega)
 obtain⟨t1,t2,t3⟩:=tlP_ok p (0,false)
 rw[t1] at ht
 have hsz:=p.size_le_full
 rcases pf_num_cases p with⟨h1,h2,h3⟩|⟨h1,h2,h3,h4⟩|⟨h1,h2,h3,h4,h5⟩
 ·rw [h2,h3]
  rw[h1] at ht
  refine M.F Tryz.func185 ?_
  repeat'(first|refine M.gw ?_|refine M.cb (ht) [1] 0 ?_|((with_reducible refine D.sblk ?_);refine K.sq (AW.block ?_))|fail)
  rfl
 ·rw [h3,h4]
  rw[h1] at ht
  obtain⟨t4,t5⟩:=t3 h1
  rw[t4] at ht
  cases hm:p.small with
  |false=>
   rw[hm] at ht
   refine M.F Tryz.func185 ?_
   repeat'(first|refine M.gw ?_|refine M.cb (ht) [1] 0 ?_|((with_reducible refine D.sblk ?_);refine K.sq (AW.block ?_))|fail)
   rfl
  |true=>
   have t6:=t5 hm
   have h6:p.size>16384:=by rcases h2 with h2|h2;rw[hm] at h2;cases h2;exact h2
   rw[hm,t6] at ht
   simp only[Nat.zero_add,Bool.not_true,Bool.or_false] at ht
   refine M.F Tryz.func185 ?_
   repeat'(first|refine M.gw ?_|refine M.cb (ht) [1] 0 ?_|((with_reducible refine D.sblk ?_);refine K.sq (AW.block ?_))|refine AW.condS U (fun h=> ?_) (fun h=> ?_)|fail)
   all_goals first
    |rfl
    |(exfalso;simp at h;omega)
    |trace_state
 ·rw [h4,h5]
  rw[h1] at ht
  obtain⟨t4,t5⟩:=t3 h1
  have t6:=t5 h2
  rw[t4,h2,t6] at ht
  simp only[Nat.zero_add,Bool.not_true,Bool.or_false] at ht
  refine M.F Tryz.func185 ?_
  repeat'(first|refine M.gw ?_|refine M.cb (ht) [1] 0 ?_|((with_reducible refine D.sblk ?_);refine K.sq (AW.block ?_))|refine AW.condS U (fun h=> ?_) (fun h=> ?_)|fail)
  all_goals first
   |rfl
   |(exfalso;simp at h;omega)
   |trace_state
theorem proofCheck_c(p:Pf)(hp:p.full<274877906944):PC E 157 [.agg p.view] (.i p.err):=by
 have h1:=checkPf_c p hp
 refine M.F Tryz.func157 ?_
 repeat'(first|refine M.gw ?_|refine M.c2 (h1) ?_|fail)
 rfl
theorem ownPf_c(p:Pf)(hp:p.full<200000000000)(hs:p.shape=true):PC E 158 [.agg p.view] (.agg p.view):=by
 have h1:=ownPfRe _ p 0 0 (Nat.le_refl _) (by omega) (by omega) (by omega) hs
 refine M.F Tryz.func158 ?_
 repeat'(first|refine M.gw ?_|refine M.c2 (h1) ?_|fail)
 rfl
def doneR(p:Pf):Pf×Int:=if p.err=0 then(p,0) else(noPf,4)
theorem ddone_c(p:Pf)(hp:p.full<200000000000):PC E 98 [.agg p.view] (.tup [.agg (doneR p).1.view,.i (doneR p).2]):=by
 have h1:=proofCheck_c p (by omega)
 unfold doneR
 by_cases he:p.err=0
 ·rw [if_pos he]
  rw[he] at h1
  have h2:=ownPf_c p hp ((Pf.err_iff p).1 he).1
  refine M.F Tryz.func98 ?_
  repeat'(first|refine M.gw ?_|refine M.c2 (h1) ?_|refine M.c2 (h2) ?_|fail)
  rfl
 ·rw [if_neg he]
  refine M.F Tryz.func98 ?_
  repeat'(first|refine M.go ?_|refine M.c2 (h1) ?_|((with_reducible refine D.aw ?_);(fail_if_success with_reducible refine D.stopR (id:=3) ?_);(fail_if_success with_reducible refine D.stopS (id:=3) ?_);first|refine M.ga ?_|refine AW.condS U (fun h=> ?_) (fun h=> ?_))|refine M.gk ?_|fail)
  all_goals first
   |rfl
   |(exfalso;simp at h;exact he h)
   |trace_state
inductive Ch where
 |tm (t:Tm)|fm (f:Fm)|pf (p:Pf)
def Ch.cell:Ch→V
 | .tm t=> .ifc 33 t.view
 | .fm f=> .ifc 30 f.view
 | .pf p=> .ifc 42 p.view
def Ch.err:Ch→Int
 | .tm t=>t.err| .fm f=>f.err| .pf p=>p.err
def Ch.full:Ch→Nat
 | .tm t=>t.full| .fm f=>f.full| .pf p=>p.full
def chV(l:List Ch):V:= .slice .any (.u 1 (l.map fun x=>[x.cell]))
theorem chk_c(l:List Ch)(hl:l.length≤100)(hf:∀x∈l,x.full<274877906944):PC E 97 [chV l] (.i (firstI Ch.err l)):=by
 unfold chV
 have hll:(SL.u 1 (l.map fun x=>[x.cell]):SL V).len=l.length:=by simp[SL.len]
 refine M.F Tryz.func97 ?_
 repeat'(first|refine M.gw ?_|fail)
 refine AW.range l.length (fun m=>∀j (hj:j<l.length),j<m→l[j].err=0)
  (fun m=>([(9,.slice .any (.u 1 (l.map fun x=>[x.cell]))),(10,.i l.length),(11,.i m)],⟨0,[]⟩))
  (by omega) (fun m=>rfl) (fun m=>rfl) rfl (fun j hj h=>by omega) ?_ ?_ ?_
 ·simp only[hll]
  exact(M.W [])
 ·intro m hm hP
  have hfm:=hf l[m] (List.getElem_mem hm)
  have hc1:∀t:Tm,l[m]= .tm t→PC E 155 [.agg t.view] (.i l[m].err):=fun t e=>by rw[e];exact check_c t (by rw[e] at hfm;have:t.full<274877906944:=hfm;omega)
  have hc2:∀t:Fm,l[m]= .fm t→PC E 156 [.agg t.view] (.i l[m].err):=fun t e=>by rw[e];exact fcheck_c t (by rw[e] at hfm;have:t.full<274877906944:=hfm;omega)
  have hc3:∀t:Pf,l[m]= .pf t→PC E 157 [.agg t.view] (.i l[m].err):=fun t e=>by rw[e];exact proofCheck_c t (by rw[e] at hfm;exact hfm)
  have hget:(SL.u 1 (l.map fun x=>[x.cell]):SL V).get m=some [l[m].cell]:=by simp[SL.get,hm]
  repeat'(first|refine M.gw ?_|fail)
  refine L.ix m rfl rfl rfl rfl rfl (by rw[hll];exact hm) hget rfl rfl ?_
  have hfin:l[m].err≠0→firstI Ch.err l=l[m].err:=fun hx=>firstI_at hm hP hx
  generalize hx:l[m]=x at*
  cases x with
  |tm t=>
   have hc:=hc1 t rfl
   simp only[Ch.cell]
   repeat'(first|refine M.gw ?_|refine M.c2 (hc) ?_|((with_reducible refine D.blk ?_);refine AW.block ?_)|refine AW.condS U (fun h=> ?_) (fun h=> ?_)|fail)
   ·rw [hfin (by simpa using h)]
    rfl
   ·exact ⟨rfl,all_step (p:=fun x:Ch=>x.err=0) hm hP (by rw[hx];simpa using h),(M.W [])⟩
  |fm t=>
   have hc:=hc2 t rfl
   simp only[Ch.cell]
   repeat'(first|refine M.gw ?_|refine M.c2 (hc) ?_|((with_reducible refine D.blk ?_);refine AW.block ?_)|refine AW.condS U (fun h=> ?_) (fun h=> ?_)|fail)
   ·rw [hfin (by simpa using h)]
    rfl
   ·exact ⟨rfl,all_step (p:=fun x:Ch=>x.err=0) hm hP (by rw[hx];simpa using h),(M.W [])⟩
  |pf t=>
   have hc:=hc3 t rfl
   simp only[Ch.cell]
   repeat'(first|refine M.gw ?_|refine M.c2 (hc) ?_|((with_reducible refine D.blk ?_);refine AW.block ?_)|refine AW.condS U (fun h=> ?_) (fun h=> ?_)|fail)
   ·rw [hfin (by simpa using h)]
    rfl
   ·exact ⟨rfl,all_step (p:=fun x:Ch=>x.err=0) hm hP (by rw[hx];simpa using h),(M.W [])⟩
 ·intro hP
  rw[firstI_none fun j hj _=>hP j hj hj]
  repeat'(first|refine M.gw ?_|fail)
  rfl
theorem deq_c(a b:Tm):PC E 49 [.agg a.view,.agg b.view] (.agg (eqF a b).view):=by
 refine M.F Tryz.func49 ?_
 repeat'(first|refine M.gw ?_|fail)
 rfl
theorem dup_c(t:Tm)(by_:Int)(hy: -1099511627776≤by_∧by_<1099511627776)(ht:t.full<274877906944)(hix:∀p∈t.vars 0,0≤p.1∧p.1<549755813888):PC E 100 [.agg t.view,.i by_] (.agg (t.re (liftG 0 by_) 0).view):=by
 have h1:=lift_c t 0 by_ hy ht hix
 refine M.F Tryz.func100 ?_
 repeat'(first|refine M.gw ?_|refine M.c2 (h1) ?_|fail)
 rfl
theorem drefl_c(t:Tm):PC E 59 [.agg t.view] (.agg (reflP t).view):=by
 refine M.F Tryz.func59 ?_
 repeat'(first|refine M.gw ?_|fail)
 rfl
theorem dsubst_c(f:Fm)(p q:Pf):PC E 99 [.agg f.view,.agg p.view,.agg q.view] (.agg (substP f p q).view):=by
 refine M.F Tryz.func99 ?_
 repeat'(first|refine M.gw ?_|fail)
 rfl
theorem dsym_c(s:Tm)(p:Pf)(ht:s.full<274877906944)(hix:∀p∈s.vars 0,0≤p.1∧p.1<549755813888):PC E 70 [.agg s.view,.agg p.view] (.agg (symP s p).view):=by
 have h1:=tvar_c 0
 have h2:=dup_c s 1 (by omega) ht hix
 have h3:=deq_c (vT 0) (s.re (liftG 0 1) 0)
 have h4:=drefl_c s
 have h5:=dsubst_c (eqF (vT 0) (s.re (liftG 0 1) 0)) p (reflP s)
 refine M.F Tryz.func70 ?_
 repeat'(first|refine M.gw ?_|refine M.c2 (h1) ?_|refine M.c2 (h2) ?_|refine M.c2 (h3) ?_|refine M.c2 (h4) ?_|refine M.c2 (h5) ?_|fail)
 rfl
def derR(l:List Ch)(p:Pf):Pf×Int:=if firstI Ch.err l≠0 then(noPf,firstI Ch.err l) else doneR p
theorem dSym_c(s t:Tm)(p:Pf)(hs:s.full<100000000000)(ht:t.full<100000000000)(hp:p.full<100000000000)(hix:s.err=0→∀p∈s.vars 0,0≤p.1∧p.1<549755813888):
 PC E 32 [.agg s.view,.agg t.view,.agg p.view] (.tup [.agg (derR [.tm s,.tm t,.pf p] (symP s p)).1.view,.i (derR [.tm s,.tm t,.pf p] (symP s p)).2]):=by
 have h1:=chk_c [.tm s,.tm t,.pf p] (by simp) (by simp only[List.mem_cons,List.not_mem_nil,or_false];rintro x (rfl|rfl|rfl)<;>simp only[Ch.full]<;>omega)
 unfold derR
 unfold chV at h1
 by_cases e:firstI Ch.err [.tm s,.tm t,.pf p]=0
 case neg=>
  rw[if_pos e]
  refine M.F Tryz.func32 ?_
  repeat'(first|refine M.go ?_|refine M.c2 (h1) ?_|((with_reducible refine D.aw ?_);(fail_if_success with_reducible refine D.stopR (id:=4) ?_);(fail_if_success with_reducible refine D.stopS (id:=4) ?_);first|refine M.ga ?_|refine AW.condS U (fun h=> ?_) (fun h=> ?_))|refine M.gk ?_|fail)
  all_goals first
   |rfl
   |(exfalso;simp at h;exact e h)
   |trace_state
 rw[if_neg (by simp[e])]
 rw[e] at h1
 have he:=firstI_zero e
 have es:s.err=0:=he (.tm s) (by simp)
 have ss:=(Tm.err_iff s).1 es
 have lf:=lift_full 0 1 s 0 ss.1
 have sf:=terr_full es
 have h2:=dsym_c s p (by omega) (hix es)
 have h3:=ddone_c (symP s p) (by simp only[symP,substP,reflP,Pf.full,Pf.fulls,eqF,Fm.full,Fm.fulls,List.map_cons,List.map_nil,List.sum_cons,List.sum_nil,Ty.size,Ty.sizes,vT,Tm.full,Tm.fulls];omega)
 refine M.F Tryz.func32 ?_
 repeat'(first|refine M.gw ?_|refine M.c2 (h1) ?_|refine M.c2 (h2) ?_|refine M.c2 (h3) ?_|fail)
 all_goals first
  |rfl
  |trace_state
theorem sub_full{f:Fm}{p q:Pf}:(substP f p q).full=2+f.full+p.full+q.full:=by
 simp only[substP,Pf.full,Pf.fulls,List.map_cons,List.map_nil,List.sum_cons,List.sum_nil,Ty.size,Ty.sizes];omega
theorem eqf_fl(a b:Tm):(eqF a b).full=2+a.full+b.full:=by
 simp only[eqF,Fm.full,Fm.fulls,List.map_cons,List.map_nil,List.sum_cons,List.sum_nil,Ty.size,Ty.sizes];omega
theorem refl_fl(a:Tm):(reflP a).full=2+a.full:=by
 simp only[reflP,Pf.full,Pf.fulls,List.map_cons,List.map_nil,List.sum_cons,List.sum_nil,Ty.size,Ty.sizes];omega
theorem vT_full(i:Int):(vT i).full=2:=by simp only[vT,Tm.full,Tm.fulls,Ty.size,Ty.sizes]
theorem ap_full(f x:Tm):(apT f x).full=2+f.full+x.full:=by
 simp only[apT,Tm.full,Tm.fulls,Ty.size,Ty.sizes];omega
theorem dtrec_c(k:Int)(s:Ty)(a b c:Tm):PC E 171 [.i k,.agg s.view,.agg a.view,.agg b.view,.agg c.view] (.agg (Tm.mk k 0 s [a,b,c]).view):=by
 refine M.F Tryz.func171 ?_
 repeat'(first|refine M.gw ?_|fail)
 rfl
theorem vrecur_c(b s o:Tm):PC E 172 [.agg b.view,.agg s.view,.agg o.view] (.agg (Tm.mk 6 0 natT [b,lmT natT (lmT natT s),o]).view):=by
 have h1:=tnat_c
 have h2:=tlam_c s [natT,natT] (by simp)
 have h3:=dtrec_c 6 natT b (lmT natT (lmT natT s)) o
 refine M.F Tryz.func172 ?_
 repeat'(first|refine M.gw ?_|refine M.c2 (h1) ?_|refine M.c2 (h2) ?_|refine M.c2 (h3) ?_|fail)
 rfl
theorem vpred_c:PC E 122 [] (.agg predT.view):=by
 have h1:=tof_c 4 []
 have h2:=tvar_c 1
 have h3:=tvar_c 0
 have h4:=vrecur_c zT (vT 1) (vT 0)
 have h5:=tnat_c
 have h6:=tlam_c (Tm.mk 6 0 natT [zT,lmT natT (lmT natT (vT 1)),vT 0]) [natT] (by simp)
 refine M.F Tryz.func122 ?_
 repeat'(first|refine M.gw ?_|refine M.c2 (h1) ?_|refine M.c2 (h2) ?_|refine M.c2 (h3) ?_|refine M.c2 (h4) ?_|refine M.c2 (h5) ?_|refine M.c2 (h6) ?_|fail)
 rfl
theorem dzero_c:PC E 58 [] (.agg zT.view):=by
 have h1:=tof_c 4 []
 refine M.F Tryz.func58 ?_
 repeat'(first|refine M.gw ?_|refine M.c2 (h1) ?_|fail)
 rfl
theorem dsucc_c(t:Tm):PC E 62 [.agg t.view] (.agg (sT t).view):=by
 have h1:=tof_c 5 [t]
 refine M.F Tryz.func62 ?_
 repeat'(first|refine M.gw ?_|refine M.c2 (h1) ?_|fail)
 rfl
theorem deither_c(s t n:Tm)(ht:t.full<274877906944)(htx:∀p∈t.vars 0,0≤p.1∧p.1<549755813888):PC E 119 [.agg s.view,.agg t.view,.agg n.view] (.agg (eitherT s t n).view):=by
 have h1:=tnat_c
 have h2:=dup_c t 2 (by omega) ht htx
 have h3:=tlam_c (t.re (liftG 0 2) 0) [natT,natT] (by simp)
 have h4:=dtrec_c 6 natT s (lmT natT (lmT natT (t.re (liftG 0 2) 0))) n
 refine M.F Tryz.func119 ?_
 repeat'(first|refine M.gw ?_|refine M.c2 (h1) ?_|refine M.c2 (h2) ?_|refine M.c2 (h3) ?_|refine M.c2 (h4) ?_|fail)
 rfl
theorem dabsurd_c(p:Pf):PC E 63 [.agg p.view] (.agg (absurdP p).view):=by
 have h1:=dzero_c
 have h2:=dsucc_c zT
 have h3:=tvar_c 0
 have h4:=deither_c zT (sT zT) (vT 0) (by decide) (by decide)
 have h5:=deq_c zT (eitherT zT (sT zT) (vT 0))
 have h6:=drefl_c zT
 have h7:=dsubst_c (eqF zT (eitherT zT (sT zT) (vT 0))) p (reflP zT)
 refine M.F Tryz.func63 ?_
 repeat'(first|refine M.gw ?_|refine M.c2 (h1) ?_|refine M.c2 (h2) ?_|refine M.c2 (h3) ?_|refine M.c2 (h4) ?_|refine M.c2 (h5) ?_|refine M.c2 (h6) ?_|refine M.c2 (h7) ?_|fail)
 rfl
theorem refHyp_c(i:Int):PC E 26 [.i i] (.agg (hypP i).view):=by
 refine M.F Tryz.func26 ?_
 repeat'(first|refine M.gw ?_|fail)
 rfl
theorem mkSeq_c(d:Dk)(hd:d.ok):AC E 86 [.ptr 0 0] ⟨1,[(0,.var d.cells)]⟩ (.agg [.s .ty d.ctx.1,.s .fm d.sqH]) ⟨1,[(0,.var d.sqD.cells)]⟩:=by
 have h1:=context_c d hd
 have h2:=next_c d.ctx.2 3 (Dk.ctx_ok hd) (by omega)
 have hb:=Dk.next_bd d.ctx.2 3 (by omega)
 have hg:=d.ctx_smalls
 have hgl:=d.ctx_len
 obtain⟨c,hc⟩:∃c:Nat,(d.ctx.2.next 3).1=c:=⟨(d.ctx.2.next 3).1.toNat,by omega⟩
 have hcn:d.sqN=c:=by unfold Dk.sqN;omega
 have hdo:=Dk.next_ok (Dk.ctx_ok hd) 3
 rw[hc] at h2 hb
 have eH:d.sqH=(Dk.fms c (d.ctx.2.next 3).2 d.ctx.1).1:=by unfold Dk.sqH;rw[hcn]
 have eD:d.sqD=(Dk.fms c (d.ctx.2.next 3).2 d.ctx.1).2:=by unfold Dk.sqD;rw[hcn]
 rw[eH,eD]
 generalize d.ctx.1=g at*
 generalize (d.ctx.2.next 3).2=d2 at*
 refine M.F Tryz.func86 ?_
 repeat'(first|refine M.gw ?_|refine M.cb (h1) [0] 0 ?_|refine M.cb (h2) [0] 0 ?_|fail)
 refine AW.down c (fun m=>m≤c)
  (fun m=>([(0,.ptr 0 0),(2,.ptr 1 0),(3,.ptr 2 0),(4,.i m)],⟨4,[(0,.var (Dk.fms (c-m) d2 g).2.cells),(1,.var [.slice .nil (.t .ty []),.slice .nil (.t .fm [])]),(2,.var [.s .ty g,.slice (.own 3) (.t .fm (Dk.fms (c-m) d2 g).1)]),(3,.row)]⟩))
  (by omega) (fun m=>rfl) rfl (Nat.le_refl _) ?_ ?_ ?_
 ·simp only[Nat.sub_self]
  exact(M.W [some 0,some 1,some 2,none])
 ·intro m hm hP
  have e:=Dk.fms_snoc (c-(m+1)) d2 g
  rw[show c-(m+1)+1=c-m by omega] at e
  have h3:=mkFm_c 2 (Dk.fms (c-(m+1)) d2 g).2 g 2 (by omega) rfl (Dk.fms_ok _ _ _ hdo) hg (by omega)
  have hl:=Dk.fms_len (c-(m+1)) d2 g
  repeat'(first|refine M.gw ?_|refine M.cb (h3) [0] 0 ?_|fail)
  refine⟨rfl,by omega,?_⟩
  simp only[e]
  exact(M.W [some 0,some 1,some 2,some 4])
 ·intro _
  simp only[Nat.sub_zero]
  repeat'(first|refine M.gw ?_|fail)
  (exact M.n2 [some 0] (h8:=(by simp[tupV,V.wk,V.wks,constV,Ty.view,Tm.view,V.frz])))
theorem world_c(d:Dk)(hd:d.ok):AC E 25 [.ptr 0 0] ⟨1,[(0,.var d.cells)]⟩ (.tup [.agg [.s .ty d.ctx.1,.s .fm d.wH],.agg (d.w0.1.view++d.w1.1.view++d.w2.1.view)]) ⟨1,[(0,.var d.w2.2.cells)]⟩:=by
 have hg:=d.ctx_smalls
 have hgl:=d.ctx_len
 have h1:=mkSeq_c d hd
 have h2:=nat_c
 have ok0:=Dk.sqD_ok hd
 have ok1:d.w0.2.ok:=Dk.tm_ok 3 _ _ _ ok0
 have ok2:d.w1.2.ok:=Dk.tm_ok 3 _ _ _ ok1
 have t0:=term_c 3 (by omega) d.sqD d.ctx.1 natT 1 (by omega) ok0 hg small_nat (by omega) (by omega) (by omega)
 have t1:=term_c 3 (by omega) d.w0.2 d.ctx.1 natT 1 (by omega) ok1 hg small_nat (by omega) (by omega) (by omega)
 have t2:=term_c 3 (by omega) d.w1.2 d.ctx.1 natT 1 (by omega) ok2 hg small_nat (by omega) (by omega) (by omega)
 have e0:Dk.tm 3 d.sqD d.ctx.1 natT=d.w0:=rfl
 have e1:Dk.tm 3 d.w0.2 d.ctx.1 natT=d.w1:=rfl
 have e2:Dk.tm 3 d.w1.2 d.ctx.1 natT=d.w2:=rfl
 rw[e0] at t0
 rw[e1] at t1
 rw[e2] at t2
 have f0:=terr_full d.n0.1.err
 have f1:=terr_full d.n1.1.err
 have f2:=terr_full d.n2.1.err
 have q0:=eqFm_c d.w0.1 d.w1.1 (by omega) (by omega)
 have q1:=eqFm_c d.w1.1 d.w2.1 (by omega) (by omega)
 have hl:=d.sqH_len
 unfold Dk.wH
 generalize d.w0=w0 at*
 generalize d.w1=w1 at*
 generalize d.w2=w2 at*
 refine M.F Tryz.func25 ?_
 repeat'(first|refine M.gw ?_|refine M.cb (h1) [0] 0 ?_|refine M.c2 (h2) ?_|refine M.cb (t0) [0] 0 ?_|refine M.cb (t1) [0] 0 ?_|refine M.cb (t2) [0] 0 ?_|refine M.c2 (q0) ?_|refine M.c2 (q1) ?_|fail)
 (exact M.n2 [some 0] (h8:=(by simp[tupV,V.wk,V.wks,constV,Ty.view,Tm.view,V.frz,List.nil_append])))
def exC:Ck:=⟨[],[natT,natT],[eqF (vT 0) (vT 1)]⟩
theorem ex_num(i:Int)(hi:i=0∨i=1):NumOk exC.tys (vT i):=by
 rcases hi with rfl|rfl
 ·exact ⟨by decide,by decide,by decide⟩
 ·exact ⟨by decide,by decide,by decide⟩
theorem exC_ok:exC.ok:=by
 have h0:=ex_num 0 (.inl rfl)
 have h1:=ex_num 1 (.inr rfl)
 refine⟨by decide,by decide,by decide,fun f hf=> ?_,fun f h=>by cases h⟩
 simp only[exC,List.mem_cons,List.not_mem_nil,or_false] at hf
 subst hf
 exact⟨h0.eq_err h1,eq_okT.2 ⟨h0.inf,h1.inf⟩⟩
theorem ex_acc:AcceptsR exC.lems exC.tys exC.hyps (symP (vT 0) (hypP 0)) (eqF (vT 1) (vT 0))=0:=by
 have h0:=ex_num 0 (.inl rfl)
 have h1:=ex_num 1 (.inr rfl)
 have hh:infP (hypP 0) exC=(eqF (vT 0) (vT 1),[],0):=hyp_inf exC_ok (i:=0) (by decide)
 rw[accepts_of exC_ok (symP_err h0 (hypP_err (by omega)) (by rw[hypP_size];omega)) (sym_inf exC_ok h0 h1 hh) (h1.eq_err h0) (eq_okT.2 ⟨h1.inf,h0.inf⟩)]
 exact mtchF_refl (h1.eq_err h0)
theorem derR_ok{l:List Ch}{p:Pf}(hl:∀x∈l,x.err=0)(hp:p.err=0):derR l p=(p,0):=by
 unfold derR doneR
 rw[if_neg (by rw[firstI_all hl];simp),if_pos hp]
theorem hyp_full(i:Int):(hypP i).full=2:=by simp[hypP,Pf.full,Pf.fulls,Ty.size,Ty.sizes]
theorem sane12_c:PC E 5 [] (.bool true):=by
 have h0:=ex_num 0 (.inl rfl)
 have h1:=ex_num 1 (.inr rfl)
 have v0:=var_c 0
 have v1:=var_c 1
 have hy:=refHyp_c 0
 have hS:=dSym_c (vT 0) (vT 1) (hypP 0) (by decide) (by decide) (by decide) (fun _=>by decide)
 have se:=symP_err h0 (hypP_err (i:=0) (by omega)) (by rw[hypP_size];omega)
 rw[derR_ok (by intro x hx;simp only[List.mem_cons,List.not_mem_nil,or_false] at hx;rcases hx with rfl|rfl|rfl;exact h0.err;exact h1.err;exact hypP_err (by omega)) se] at hS
 have q1:=eqFm_c (vT 0) (vT 1) (by decide) (by decide)
 have q2:=eqFm_c (vT 1) (vT 0) (by decide) (by decide)
 have hA:=kAccepts_c exC.lems exC.hyps exC.tys (symP (vT 0) (hypP 0)) (eqF (vT 1) (vT 0)) (fun f h=>by cases h) (fun f h=>by have:=ferr_full (exC_ok.hyps f h).1;omega) (by have:=exC_ok.sum;omega) (by decide) (by decide) (by decide) (by decide)
 rw[ex_acc] at hA
 unfold exC at hA
 have hn:=nat_c
 unfold symP substP at hS hA
 refine M.F Tryz.func5 ?_
 repeat'(first|refine M.gw ?_|refine M.c2 (v0) ?_|refine M.c2 (v1) ?_|refine M.c2 (hy) ?_|refine M.c2 (hS) ?_|refine M.c2 (hn) ?_|refine M.c2 (q1) ?_|refine M.c2 (q2) ?_|refine M.c2 (hA) ?_|fail)
 rfl
theorem liftFmCb(fr by_:Int)(hat:0≤fr∧fr<274877906944)(hs:0≤by_∧by_<274877906944)(t:Tm)(bl:Int)(ht:t.full<274877906944)(hb:0≤bl∧bl<274877906944)(hix:∀p∈t.vars 0,0≤p.1∧p.1<549755813888):
 AC E 165 [.agg t.view,.i bl,.ptr 0 0,.ptr 1 0] ⟨2,[(0,.var [.i fr]),(1,.var [.i by_])]⟩ (.agg (t.re (liftG (fr+bl) by_) 0).view) ⟨2,[(0,.var [.i fr]),(1,.var [.i by_])]⟩:=by
 have hc:=lift_c t (fr+bl) by_ (by omega) ht hix
 refine M.F Tryz.func165 ?_
 repeat'(first|refine M.gw ?_|refine M.c2 (hc) ?_|fail)
 (exact M.n2 [some 0,some 1] (h8:=(by simp[tupV,V.wk,V.wks,constV,Ty.view,Tm.view,hc])))
theorem liftFmRe(fr by_:Int)(hat:0≤fr∧fr<274877906944)(hs:0≤by_∧by_<274877906944):∀(n:Nat) (f:Fm) (bl:Int),f.full≤n→n<274877906944→0≤bl→bl+n<274877906944→(∀p∈f.tms bl,∀q∈p.1.vars 0,0≤q.1∧q.1<549755813888)→
 AC E 164 [.agg f.view,.i bl,.fn (.func 165) [] [.ptr 0 0,.ptr 1 0]] ⟨2,[(0,.var [.i fr]),(1,.var [.i by_])]⟩ (.agg (f.re (fun b t=>t.re (liftG (fr+b) by_) 0) bl).view) ⟨2,[(0,.var [.i fr]),(1,.var [.i by_])]⟩:=by
 intro n
 induction n with
 |zero=>intro f bl h;intros;have:=f.full_pos;omega
 |succ n ih=>
 intro f bl hsz hb hbl hbn hix
 have hsz':=f.full_eq
 have hlen:=lsum_len Fm.full Fm.full_pos f.args
 have hlen2:=lsum_len Tm.full Tm.full_pos f.terms
 have hty:=ownTy_c _ f.ty (Nat.le_refl _) (by omega)
 have hq:=quantifier_c f.kind
 have hre:=Fm.re_eq (fun b t=>t.re (liftG (fr+b) by_) 0) bl f
 have htm:=f.tms_eq bl
 refine M.F Tryz.func164 ?_
 repeat'(first|refine M.gw ?_|refine M.c2 (hty) ?_|fail)
 refine AW.range f.terms.length (fun m=>True)
  (fun m=>([(1,.i bl),(2,.fn (.func 165) [] [.ptr 0 0,.ptr 1 0]),(3,.ptr 2 0),(6,.ptr 3 0),(7,.ptr 4 0),(19,.s .tm f.terms),(20,.i f.terms.length),(21,.i m)],⟨6,[(0,.var [.i fr]),(1,.var [.i by_]),(2,.var f.view),(3,.var [.i 0,.i 0,.slice .nil (.t .ty []),.slice .nil (.t .tm []),.slice .nil (.t .fm [])]),(4,.var [.i f.kind,.i f.ty.kind,.s .ty f.ty.args,.slice (.own 5) (.t .tm ((f.terms.take m).map ((fun b t=>t.re (liftG (fr+b) by_) 0) bl))),.slice .nil (.t .fm [])]),(5,.row)]⟩))
  (by omega) (fun m=>rfl) (fun m=>rfl) rfl trivial (M.W [some 0,some 1,some 2,some 3,some 4,none]) ?_ ?_
 ·intro m hm _
  have hs2:=lsum_mem Tm.full (List.getElem_mem hm)
  have hc:=liftFmCb fr by_ hat hs f.terms[m] bl (by omega) (by omega) (fun p hp=>hix _ (by rw[htm];exact List.mem_append_left _ (List.mem_map.2 ⟨_,List.getElem_mem hm,rfl⟩)) p hp)
  repeat'(first|refine M.gw ?_|refine M.cv (hc) [0,1] 0 ?_|fail)
  exact⟨rfl,trivial,(M.W [some 0,some 1,some 2,some 3,some 4,some 7] (he:=(by(repeat'(first|exact trivial|exact Or.inr ⟨_,U,rfl⟩|refine And.intro ?_ ?_|refine⟨_,U,_,U,_,U,?_⟩|exact VLe.refl _|exact VLe.of_eq (by simp[Sto.upd,map_take _ _ _ hm])));done)))⟩
 ·intro _
  simp only[List.take_length]
  cases hqk:quantK f.kind with
  |true=>
   rw[hqk] at hq
   have hu:upF f.kind bl=bl+1:=by simp[upF,hqk]
   rw[hu] at hre htm
   repeat'(first|refine M.gw ?_|refine M.c2 (hq) ?_|fail)
   refine AW.range f.args.length (fun m=>True)
    (fun m=>([(1,.i (bl+1)),(2,.fn (.func 165) [] [.ptr 0 0,.ptr 1 0]),(3,.ptr 2 0),(6,.ptr 3 0),(7,.ptr 4 0),(41,.s .fm f.args),(42,.i f.args.length),(43,.i m)],⟨7,[(0,.var [.i fr]),(1,.var [.i by_]),(2,.var f.view),(3,.var [.i 0,.i 0,.slice .nil (.t .ty []),.slice .nil (.t .tm []),.slice .nil (.t .fm [])]),(4,.var [.i f.kind,.i f.ty.kind,.s .ty f.ty.args,.slice (.own 5) (.t .tm (f.terms.map ((fun b t=>t.re (liftG (fr+b) by_) 0) bl))),.slice (.own 6) (.t .fm ((f.args.take m).map (Fm.re (fun b t=>t.re (liftG (fr+b) by_) 0) (bl+1))))]),(5,.row),(6,.row)]⟩))
    (by omega) (fun m=>rfl) (fun m=>rfl) rfl trivial (M.W [some 0,some 1,some 2,some 3,some 4,some 5,none]) ?_ ?_
   ·intro m hm _
    have hs2:=lsum_mem Fm.full (List.getElem_mem hm)
    have hc:=ih f.args[m] (bl+1) (by omega) (by omega) (by omega) (by omega) (fun p hp=>hix p (by rw[htm];exact List.mem_append_right _ (List.mem_flatMap.2 ⟨_,List.getElem_mem hm,hp⟩)))
    repeat'(first|refine M.gw ?_|refine M.cv (hc) [0,1] 0 ?_|fail)
    exact⟨rfl,trivial,(M.W [some 0,some 1,some 2,some 3,some 4,some 5,some 8] (he:=(by(repeat'(first|exact trivial|exact Or.inr ⟨_,U,rfl⟩|refine And.intro ?_ ?_|refine⟨_,U,_,U,_,U,?_⟩|exact VLe.refl _|exact VLe.of_eq (by simp[Sto.upd,map_take _ _ _ hm])));done)))⟩
   ·intro _
    simp only[List.take_length]
    repeat'(first|refine M.gw ?_|fail)
    (exact M.n2 [some 0,some 1] (h8:=(by simp[tupV,V.wk,V.wks,constV,Ty.view,Tm.view,hre])))
  |false=>
   rw[hqk] at hq
   have hu:upF f.kind bl=bl:=by simp[upF,hqk]
   rw[hu] at hre htm
   repeat'(first|refine M.gw ?_|refine M.c2 (hq) ?_|fail)
   refine AW.range f.args.length (fun m=>True)
    (fun m=>([(1,.i bl),(2,.fn (.func 165) [] [.ptr 0 0,.ptr 1 0]),(3,.ptr 2 0),(6,.ptr 3 0),(7,.ptr 4 0),(41,.s .fm f.args),(42,.i f.args.length),(43,.i m)],⟨7,[(0,.var [.i fr]),(1,.var [.i by_]),(2,.var f.view),(3,.var [.i 0,.i 0,.slice .nil (.t .ty []),.slice .nil (.t .tm []),.slice .nil (.t .fm [])]),(4,.var [.i f.kind,.i f.ty.kind,.s .ty f.ty.args,.slice (.own 5) (.t .tm (f.terms.map ((fun b t=>t.re (liftG (fr+b) by_) 0) bl))),.slice (.own 6) (.t .fm ((f.args.take m).map (Fm.re (fun b t=>t.re (liftG (fr+b) by_) 0) bl)))]),(5,.row),(6,.row)]⟩))
    (by omega) (fun m=>rfl) (fun m=>rfl) rfl trivial (M.W [some 0,some 1,some 2,some 3,some 4,some 5,none]) ?_ ?_
   ·intro m hm _
    have hs2:=lsum_mem Fm.full (List.getElem_mem hm)
    have hc:=ih f.args[m] bl (by omega) (by omega) (by omega) (by omega) (fun p hp=>hix p (by rw[htm];exact List.mem_append_right _ (List.mem_flatMap.2 ⟨_,List.getElem_mem hm,hp⟩)))
    repeat'(first|refine M.gw ?_|refine M.cv (hc) [0,1] 0 ?_|fail)
    exact⟨rfl,trivial,(M.W [some 0,some 1,some 2,some 3,some 4,some 5,some 8] (he:=(by(repeat'(first|exact trivial|exact Or.inr ⟨_,U,rfl⟩|refine And.intro ?_ ?_|refine⟨_,U,_,U,_,U,?_⟩|exact VLe.refl _|exact VLe.of_eq (by simp[Sto.upd,map_take _ _ _ hm])));done)))⟩
   ·intro _
    simp only[List.take_length]
    repeat'(first|refine M.gw ?_|fail)
    (exact M.n2 [some 0,some 1] (h8:=(by simp[tupV,V.wk,V.wks,constV,Ty.view,Tm.view,hre])))
theorem liftFm_c(f:Fm)(fr by_:Int)(hat:0≤fr∧fr<274877906944)(hs:0≤by_∧by_<274877906944)(hf:f.full<137438953472)(hix:∀p∈f.tms 0,∀q∈p.1.vars 0,0≤q.1∧q.1<549755813888):PC E 104 [.agg f.view,.i fr,.i by_] (.agg (f.lft fr by_).view):=by
 have hc:=liftFmRe fr by_ hat hs _ f 0 (Nat.le_refl _) (by omega) (by omega) (by omega) hix
 refine M.F Tryz.func104 ?_
 repeat'(first|refine M.gw ?_|refine M.cv (hc) [1,2] 0 ?_|fail)
 rfl
theorem fLift_c(f:Fm)(fr by_:Int)(hf:f.full<137438953472):PC E 114 [.agg f.view,.i fr,.i by_] (.tup [.agg (if liftFErr f fr by_=0 then f.lft fr by_ else noFm).view,.i (liftFErr f fr by_)]):=by
 have h1:=fcheck_c f (by omega)
 have h2:=fwithin_c fr
 have h3:=fwithin_c by_
 have h4:=nearFm_c f (by omega)
 have h5:f.err=0→f.near=true→(0≤fr∧fr≤4096)→(0≤by_∧by_≤4096)→_:=fun h hn ha hb=>liftFm_c f fr by_ (by omega) (by omega) hf (nearF_lt h hn)
 refine M.F Tryz.func114 ?_
 repeat'(first|refine M.gw ?_|refine M.c2 (h1) ?_|refine M.c2 (h2) ?_|refine M.c2 (h3) ?_|refine M.c2 (h4) ?_|refine M.c2 (h5 (by simp_all) (by simp_all) (by simp_all) (by simp_all)) ?_|((fail_if_success refine AX.wt U ?_);refine AX.gs U U (fun _=>trivial) (fun h=> ?_) (fun h=> ?_))|refine AW.condS U (fun h=> ?_) (fun h=> ?_)|fail)
 ·have e':f.err≠0:=by simpa using h
  have e:liftFErr f fr by_=f.err:=by simp only[liftFErr];rw[if_pos e']
  simp[tupV,V.wk,V.wks,constV,Ty.view,Fm.view,e,noFm,e']
 ·rename_i h0
  have e':¬f.err≠0:=by simpa using h0
  have e:liftFErr f fr by_=1:=by simp only[liftFErr];rw[if_neg e',if_pos (.inl (by intro hc;simp[hc] at h))]
  simp[tupV,V.wk,V.wks,constV,Ty.view,Fm.view,e,noFm]
 ·rename_i h0 h1
  have e':¬f.err≠0:=by simpa using h0
  have e:liftFErr f fr by_=1:=by simp only[liftFErr];rw[if_neg e',if_pos (.inr (.inl (by intro hc;simp[hc] at h)))]
  simp[tupV,V.wk,V.wks,constV,Ty.view,Fm.view,e,noFm]
 ·rename_i h0 h1 h2
  have e':¬f.err≠0:=by simpa using h0
  have e:liftFErr f fr by_=1:=by simp only[liftFErr];rw[if_neg e',if_pos (.inr (.inr (by simpa using h)))]
  simp[tupV,V.wk,V.wks,constV,Ty.view,Fm.view,e,noFm]
 ·rename_i h0 h1 h2
  have e':¬f.err≠0:=by simpa using h0
  have e:liftFErr f fr by_=0:=by
   simp only[liftFErr];rw[if_neg e',if_neg]
   rintro(hc|hc|hc)
   ·simp at h1;omega
   ·simp at h2;omega
   ·simp [hc] at h
  simp[tupV,V.wk,V.wks,constV,Ty.view,Fm.view,e,noFm]
theorem hyp_c(i:Int):PC E 64 [.i i] (.agg (hypP i).view):=by
 refine AC.mk Tryz.func64 rfl rfl rfl rfl rfl (Nat.le_of_ble_eq_true rfl) ?_
 repeat'(first|((with_reducible refine D.nil ?_);refine AX.nilL ?_)|((with_reducible refine D.move ?_);refine L.mv U U U ?_)|((with_reducible refine D.alloc ?_);refine L.al U U U ?_)|((with_reducible refine D.store ?_);refine L.st U U U U U U U U U ?_)|((with_reducible refine D.ax ?_);refine L.bd U U U U U ?_)|((with_reducible refine D.aw ?_);first|refine K.sq (AW.regL ?_)|refine AW.ret ?_)|with_reducible refine K.tN ?_|with_reducible refine K.r1 (by with_unfolding_all rfl) (by with_unfolding_all rfl) ?_)
 rfl
theorem allE_c(l:List Tm)(p:Pf)(hl:l.length<1000000):PC E 69 [.agg p.view,.s .tm l] (.agg (l.foldl (fun p t=> .mk 9 0 (.mk 0 []) [t] [] [p]) p:Pf).view):=by
 refine AC.mk Tryz.func69 rfl rfl rfl rfl rfl (Nat.le_of_ble_eq_true rfl) ?_
 repeat'(first|((with_reducible refine D.nil ?_);refine AX.nilL ?_)|((with_reducible refine D.move ?_);refine L.mv U U U ?_)|((with_reducible refine D.call ?_);refine L.lnt U U U U ?_)|((with_reducible refine D.box ?_);refine L.bx U U U U ?_)|((with_reducible refine D.alloc ?_);refine L.al U U U ?_)|((with_reducible refine D.aw ?_);first|refine K.sq (AW.regL ?_)|refine K.sq (K.sq ?_)|refine AW.regL ?_)|with_reducible refine K.tN ?_)
 refine AW.range l.length (fun m=>True)
  (fun m=>([(2,.ptr 0 0),(4,.ptr 1 0),(7,.s .tm l),(8,.i l.length),(9,.i m)],⟨2,[(0,.var ((l.take m).foldl (fun p t=> .mk 9 0 (.mk 0 []) [t] [] [p]) p:Pf).view),(1,.var [.i 0,.i 0,.i 0,.slice .nil (.t .ty []),.slice .nil (.t .tm []),.slice .nil (.t .fm []),.slice .nil (.t .pf [])])]⟩))
  (by omega) (fun m=>rfl) (fun m=>rfl) U trivial (Weak.mk [some 0,some 1] _ _ _ U U U U (by(repeat'(first|exact trivial|refine And.intro ?_ ?_|refine⟨_,U,_,U,?_⟩|exact VLe.refl _));done) (by(repeat'(first|exact trivial|refine And.intro ?_ ?_|refine⟨_,U,_,U,_,U,?_⟩|exact VLe.refl _));done)) ?_ ?_
 ·intro m hm _
  have e:l.take (m+1)=l.take m++[l[m]]:=(List.take_append_getElem hm).symm
  have e2:(l.take (m+1)).foldl (fun p t=>Pf.mk 9 0 (.mk 0 []) [t] [] [p]) p=Pf.mk 9 0 (.mk 0 []) [l[m]] [] [(l.take m).foldl (fun p t=>Pf.mk 9 0 (.mk 0 []) [t] [] [p]) p]:=by
   rw[e,List.foldl_append];rfl
  generalize (l.take m).foldl (fun p t=>Pf.mk 9 0 (.mk 0 []) [t] [] [p]) p=P at*
  have e3:(Pf.mk 9 0 (.mk 0 []) [l[m]] [] [P]).view=[.i 9,.i 0,.i 0,.s .ty [],.s .tm [l[m]],.s .fm [],.s .pf [P]]:=rfl
  repeat'(first|((with_reducible refine D.nil ?_);refine AX.nilL ?_)|((with_reducible refine D.load ?_);first|refine L.ldb U U U U U U ?_|refine L.lda U U U U U ?_)|((with_reducible refine D.alloc ?_);refine L.al U U U ?_)|((with_reducible refine D.store ?_);refine L.st U U U U U U U U U ?_)|((with_reducible refine D.indexAddr ?_);refine L.ixt _ U U U U U U U (by first|assumption|fail) ?_)|((with_reducible refine D.ax ?_);first|refine L.bd U U U U U ?_|refine L.bs1 U U U U U (EC.fold_of U) U U ?_)|((with_reducible refine D.aw ?_);first|refine K.sq (AW.regL ?_)|refine AW.regL ?_)|with_reducible refine K.tN ?_|with_reducible refine K.bN ?_)
  refine⟨rfl,trivial,?_⟩
  simp only[e2,e3]
  exact(Weak.mk [some 0,some 1] _ _ _ U U U U (by(repeat'(first|exact trivial|refine And.intro ?_ ?_|refine⟨_,U,_,U,?_⟩|exact VLe.refl _));done) (by(repeat'(first|exact trivial|refine And.intro ?_ ?_|refine⟨_,U,_,U,_,U,?_⟩|exact VLe.refl _|exact VLe.any _ _));done))
 ·intro _
  simp only[List.take_length]
  generalize l.foldl (fun p t=>Pf.mk 9 0 (.mk 0 []) [t] [] [p]) p=P at*
  repeat'(first|((with_reducible refine D.nil ?_);refine AX.nilL ?_)|((with_reducible refine D.load ?_);refine L.ldb U U U U U U ?_)|((with_reducible refine D.store ?_);refine L.st U U U U U U U U U ?_)|((with_reducible refine D.aw ?_);first|refine K.sq (AW.regL ?_)|refine AW.ret ?_)|with_reducible refine K.tN ?_|with_reducible refine K.r1 (by with_unfolding_all rfl) (by with_unfolding_all rfl) ?_)
  rfl
theorem ind_c(k:Int)(f:Fm)(t:Tm)(p q:Pf):PC E 71 [.i k,.agg f.view,.agg t.view,.agg p.view,.agg q.view] (.agg (Pf.mk k 0 (.mk 0 []) [t] [f] [p,q]).view):=by
 refine AC.mk Tryz.func71 rfl rfl rfl rfl rfl (Nat.le_of_ble_eq_true rfl) ?_
 repeat'(first|((with_reducible refine D.nil ?_);refine AX.nilL ?_)|((with_reducible refine D.load ?_);refine L.ldb U U U U U U ?_)|((with_reducible refine D.move ?_);refine L.mv U U U ?_)|((with_reducible refine D.box ?_);refine L.bx U U U U ?_)|((with_reducible refine D.alloc ?_);refine L.al U U U ?_)|((with_reducible refine D.store ?_);refine L.st U U U U U U U U U ?_)|((with_reducible refine D.ax ?_);first|refine L.bd U U U U U ?_|refine L.bs1 U U U U U (EC.fold_of U) U U ?_|refine L.bs2 U U U U U (EC.fold_of U) U U U (EC.fold_of U) U U ?_)|((with_reducible refine D.aw ?_);first|refine K.sq (AW.regL ?_)|refine AW.ret ?_)|with_reducible refine K.tN ?_|with_reducible refine K.r1 (by with_unfolding_all rfl) (by with_unfolding_all rfl) ?_)
 rfl
theorem allI_c(s:Ty)(p:Pf):PC E 60 [.agg s.view,.agg p.view] (.agg (Pf.mk 8 0 s [] [] [p]).view):=by
 refine AC.mk Tryz.func60 rfl rfl rfl rfl rfl (Nat.le_of_ble_eq_true rfl) ?_
 repeat'(first|((with_reducible refine D.nil ?_);refine AX.nilL ?_)|((with_reducible refine D.load ?_);refine L.ldb U U U U U U ?_)|((with_reducible refine D.box ?_);refine L.bx U U U U ?_)|((with_reducible refine D.alloc ?_);refine L.al U U U ?_)|((with_reducible refine D.store ?_);refine L.st U U U U U U U U U ?_)|((with_reducible refine D.ax ?_);first|refine L.bd U U U U U ?_|refine L.bs1 U U U U U (EC.fold_of U) U U ?_)|((with_reducible refine D.aw ?_);first|refine K.sq (AW.regL ?_)|refine AW.ret ?_)|with_reducible refine K.tN ?_|with_reducible refine K.r1 (by with_unfolding_all rfl) (by with_unfolding_all rfl) ?_)
 rfl
theorem dnode_c(k:Int)(l:List Pf):PC E 110 [.i k,.s .pf l] (.agg (Pf.mk k 0 (.mk 0 []) [] [] l).view):=by
 refine M.F Tryz.func110 ?_
 repeat'(first|refine M.gw ?_|fail)
 rfl
theorem dimpI_c(f:Fm)(p:Pf):PC E 54 [.agg f.view,.agg p.view] (.agg (Pf.mk 6 0 (.mk 0 []) [] [f] [p]).view):=by
 refine M.F Tryz.func54 ?_
 repeat'(first|refine M.gw ?_|fail)
 rfl
theorem dimpE_c(p q:Pf):PC E 67 [.agg p.view,.agg q.view] (.agg (Pf.mk 7 0 (.mk 0 []) [] [] [p,q]).view):=by
 have h1:=dnode_c 7 [p,q]
 refine M.F Tryz.func67 ?_
 repeat'(first|refine M.gw ?_|refine M.c2 (h1) ?_|fail)
 rfl
theorem dexI_c(f:Fm)(t:Tm)(p:Pf):PC E 161 [.agg f.view,.agg t.view,.agg p.view] (.agg (Pf.mk 10 0 (.mk 0 []) [t] [f] [p]).view):=by
 refine M.F Tryz.func161 ?_
 repeat'(first|refine M.gw ?_|fail)
 rfl
theorem tfalse2_c:PC E 113 [] (.agg falseF.view):=by
 have h1:=tof_c 4 []
 have h2:=tof_c 5 [zT]
 have h3:=deq_c zT (sT zT)
 refine M.F Tryz.func113 ?_
 repeat'(first|refine M.gw ?_|refine M.c2 (h1) ?_|refine M.c2 (h2) ?_|refine M.c2 (h3) ?_|fail)
 rfl
end Go.Ab
