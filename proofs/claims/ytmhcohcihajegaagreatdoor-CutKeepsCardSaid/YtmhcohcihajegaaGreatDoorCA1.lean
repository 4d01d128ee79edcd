/- A part of this seat's proofs. No conditions. -/
import Derived.Below
import Derived.Deep.LoopGhost
import Derived.IntWalk
import Derived.Laws.AppendOwn
import Derived.Laws.NewBlocks
import Derived.Laws.StructEq
import Derived.Orders
import Derived.Tactics
namespace Go.Ab
open Go
abbrev fA:=@List.getElem_mem
abbrev fB:=@Nat.le_refl
abbrev fC:=@Decidable.not_not
abbrev fD:=@Bool.and_eq_true
abbrev fE:=@Option.map_eq_some_iff
abbrev fF:=@List.all_eq_true
abbrev fG:=@List.getElem?_eq_getElem
abbrev fH:=@List.take_length
abbrev fI:=@Option.some.injEq
abbrev fJ:=@List.map_cons
abbrev fK:=@List.append_assoc
abbrev fL:=@Option.bind_eq_some_iff
abbrev fM:=@List.getElem_cons_zero
abbrev fO:=@List.mem_map
abbrev fP:=@Nat.le_of_ble_eq_true
abbrev fQ:=@List.length_cons
abbrev fS:=@List.take_append_getElem
abbrev fT:=@List.sum_cons
abbrev fU:=@List.map_nil
abbrev fV:=@List.mem_append
abbrev fW:=@List.mem_cons
abbrev fX:=@List.eq_nil_of_length_eq_zero
abbrev fY:=@List.map_congr_left
abbrev fZ:=@List.getElem?_eq_some_iff
abbrev ga:=@List.length_append
abbrev gh:=@List.mem_flatMap
abbrev gi:=@List.getElem_cons_succ
abbrev gj:=@List.getElem_of_mem
abbrev gm:=@List.not_mem_nil
abbrev gp:=@List.mem_singleton
abbrev gq:=@List.append_nil
abbrev gr:=@Int.le_refl
abbrev gu:=@List.sum_nil
abbrev gv:=@Array.getD_eq_getD_getElem?
abbrev gx:=@List.flatMap_cons
abbrev gy:=@List.getD_eq_getElem?_getD
abbrev gz:=@List.nil_append
abbrev gA:=@Nat.eq_of_beq_eq_true
abbrev gB:=@List.length_nil
abbrev gC:=@List.all_append
abbrev gD:=@Nat.le_trans
abbrev gF:=@List.take_zero
abbrev gG:=@Decidable.byContradiction
abbrev gH:=@List.length_map
abbrev gI:=@Option.isSome_some
abbrev gJ:=@List.getElem?_map
abbrev gK:=@List.map_map
abbrev gL:=@Int.zero_add
abbrev gM:=@Option.map_some
abbrev gN:=@Nat.zero_add
abbrev gP:=@List.getElem?_append_right
abbrev gQ:=@List.take_succ_eq_append_getElem
abbrev gT:=@List.length_singleton
abbrev gU:=@Array.getElem?_setIfInBounds
abbrev gV:=@Option.some.inj
abbrev gW:=@List.getElem?_append_left
abbrev gX:=@Nat.mul_le_mul_right
abbrev gY:=@Bool.true_and
abbrev gZ:=@Nat.add_right_cancel_iff
abbrev g8:=@Array.getElem?_eq_some_iff
abbrev g9:=@List.mem_append_right
abbrev hO:=@List.getD_cons_zero
abbrev ic:=@Bool.or_eq_true
abbrev ig:=@Bool.eq_iff_iff
abbrev ij:=@Int.natCast_add
abbrev iq:=@Option.getD_some
abbrev ir:=@List.length_eq_zero_iff
abbrev iw:=@Nat.add_mul
abbrev iy:=@List.flatten_nil
abbrev iz:=@Bool.false_and
abbrev iA:=@List.mem_flatten
abbrev iB:=@Array.getElem?_eq_getElem
abbrev iC:=@List.getElem?_eq_none
abbrev iD:=@Nat.mul_le_mul
abbrev iE:=@List.map_append
abbrev iF:=@Int.add_assoc
abbrev iG:=@List.getD_cons_succ
abbrev iH:=@Nat.zero_le
abbrev iI:=@Classical.choose_spec
abbrev iJ:=@List.cons_append
abbrev iK:=@Option.isSome_iff_exists
abbrev iL:=@List.mem_append_left
abbrev iM:=@List.mem_filter
abbrev iN:=@Function.comp_apply
abbrev iO:=@List.getElem?_take
abbrev iP:=@List.set_cons_zero
abbrev iQ:=@List.mem_of_getElem?
abbrev iR:=@List.flatten_cons
abbrev iS:=@Bool.not_eq_false
abbrev iT:=@List.mem_range
abbrev iU:=@Nat.add_sub_cancel_left
abbrev iV:=@List.getElem?_cons_succ
abbrev iW:=@Nat.lt_of_lt_of_le
abbrev iX:=@List.zipWith_cons_cons
abbrev iY:=@Nat.one_le_two_pow
abbrev iZ:=@Option.map_eq_none_iff
abbrev i5:=@List.cons.injEq
abbrev i6:=@List.length_filter_le
abbrev i7:=@Array.toList_setIfInBounds
abbrev i9:=@Nat.pow_le_pow_right
abbrev jc:=@Nat.add_zero
abbrev jd:=@Nat.sub_self
abbrev je:=@List.flatMap_nil
abbrev jf:=@Nat.pow_succ
abbrev jg:=@List.all_cons
abbrev jh:=@Option.map_none
abbrev ji:=@List.mem_filterMap
abbrev jj:=@Prod.mk.inj
abbrev jk:=@Nat.lt_or_ge
abbrev jl:=@List.take_of_length_le
abbrev jm:=@List.nodup_nil
abbrev jo:=@Nat.div_lt_iff_lt_mul
abbrev jr:=@List.mem_iff_getElem?
abbrev jt:=@Nat.ble_eq_true_of_le
abbrev ju:=@Option.bind_some
abbrev jv:=@List.any_eq_true
abbrev jw:=@List.getElem_map
abbrev jx:=@List.mem_iff_getElem
abbrev jy:=@Int.mul_le_mul_of_nonneg_left
abbrev jz:=@Array.length_toList
abbrev jC:=@Nat.beq_refl
abbrev jD:=@Nat.le_of_eq
abbrev jE:=@Bool.false_eq_true
abbrev jF:=@Bool.and_false
abbrev jG:=@Option.isSome_none
abbrev jH:=@List.mem_or_eq_of_mem_set
abbrev jI:=@List.pairwise_iff_getElem
abbrev jJ:=@List.drop_eq_getElem_cons
abbrev jK:=@List.getElem_append_right
abbrev jL:=@List.map_id
abbrev jM:=@List.foldl_append
abbrev jN:=@Bool.not_true
abbrev jO:=@Array.getElem?_replicate
abbrev jP:=@List.getElem_append_left
abbrev jQ:=@List.zipIdx_cons
abbrev jR:=@List.drop_append
abbrev jS:=@List.getElem?_cons_zero
abbrev jT:=@Prod.ext
abbrev jU:=@Bool.not_eq_true
abbrev jV:=@Option.getD_none
abbrev jW:=@Nat.mod_lt
abbrev jY:=@Nat.mul_comm
abbrev jZ:=@Nat.sub_zero
abbrev j3:=@List.filter_eq_nil_iff
abbrev j4:=@List.drop_of_length_le
abbrev j5:=@Array.getElem?_push_lt
abbrev j6:=@Nat.div_add_mod
abbrev j7:=@List.foldl_cons
abbrev j8:=@Nat.not_lt_zero
abbrev j9:=@List.mem_range'
abbrev ke:=@List.getElem?_zipWith
abbrev kf:=@List.mem_cons_of_mem
abbrev kg:=@List.pairwise_append
abbrev ki:=@Int.mul_nonneg
abbrev kj:=@Int.mul_le_mul
abbrev kB:=@Prod.mk.injEq
abbrev kK:=@Nat.zero_mul
abbrev kN:=@List.all_map
theorem U.{u}{α:Sort u}{a:α}:a=a:=rfl
theorem pQ{P:Prop}(h:P:=by
 intro hP;simp only[fH] at hP;simp only[fH];have hAok:=(Na p.terms (s.1+1,s.2)).2.1;rw[if_neg (by simp[hP])] at he;generalize hA0:Ce p.terms (s.1+1,s.2)=a0 at*;refine M.w0 ?_;refine M.rp p.Ae.length (fun m=>(Cu (p.Ae.take m) a0.2).1=true)
  (fun m=>([(0,.ptr 0 0),(3,.ptr 1 0),(99,.s .fm p.Ae),(100,.i p.Ae.length),(101,.i m)],⟨2,[(0,.var [.i ((Cu (p.Ae.take m) a0.2).2.1:Nat),.bool (Cu (p.Ae.take m) a0.2).2.2]),(1,.var p.view)]⟩))
  rfl (M.W Bo) ?_ ?_
 .intro m hm hP2;have hs2:=zc Fm.full (fA hm);have hs4:=zw Fm.size p.Ae m;have hok:=(MK (p.Ae.take m) a0.2).2.1;have hnn:=XN p.Ae[m];have hnum:p.Ae[m].num=(p.Ae[m].num.toNat:Int):=kn
  have hc:=VU p.Ae[m] kn;rw[hnum] at hc;have hcnt:=Q9 (Cu (p.Ae.take m) a0.2).2.1 (Cu (p.Ae.take m) a0.2).2.2 p.Ae[m].num.toNat p.Ae[m].err mS kn;by_cases h2:p.Ae[m].err=2
  .rw[show(p.Ae[m].err !=2)=false by simp[h2]] at hcnt;have hst:=eU hm hP2 h2;rw[hst,if_pos rfl] at he;rw[he];refine M.w2 @hc @hcnt ?_
   (exact M.n2 AJ (h8:=kR))
  .rw[show(p.Ae[m].err !=2)=true by simp[h2]] at hcnt;have hA1:Cu (p.Ae.take (m+1)) a0.2=(true,((Cu (p.Ae.take m) a0.2).2.1+p.Ae[m].num.toNat,(Cu (p.Ae.take m) a0.2).2.2||p.Ae[m].err==4)):=by
    rw[bk hm hP2,Cu,if_neg h2];rfl
   refine M.w2 @hc @hcnt ?_;refine⟨rfl,congrArg Prod.fst hA1,?_⟩;simp only[hA1];exact(M.W Bo)
 .intro hP2;simp only[fH] at hP2;simp only[fH];have hBok:=(MK p.Ae a0.2).2.1;rw[if_neg (by simp[hP2])] at he;generalize hB0:Cu p.Ae a0.2=b0 at*;refine M.w0 ?_;refine M.rp p.args.length (fun m=>(CU (p.args.take m) b0.2).1=true)
   (fun m=>([(0,.ptr 0 0),(3,.ptr 1 0),(114,.s .pf p.args),(115,.i p.args.length),(116,.i m)],⟨2,[(0,.var [.i ((CU (p.args.take m) b0.2).2.1:Nat),.bool (CU (p.args.take m) b0.2).2.2]),(1,.var p.view)]⟩))
   rfl (M.W Bo) ?_ ?_
  .intro m hm hP3;have hs2:=zc Pf.full (fA hm);have hs4:=zw Pf.size p.args m;have hok:=(WD (p.args.take m) (fun q _=>UO q) b0.2).2.1;have hs5:=yz Pf.full p.args m hm;have hs6:=zw Pf.full p.args (m+1);have hs7:=x6 (f:=Pf.size) (g:=Pf.full) (p.args.take m) fun x _=>x.An;have hc:=ih p.args[m] (CU (p.args.take m) b0.2).2 kn kn mS;cases h2:(Em p.args[m] (CU (p.args.take m) b0.2).2).1 with
   |false=>
    have hst:=ak hm hP3 h2;rw[hst] at he;rw[he];rw[h2] at hc ⊢;refine M.w1 @hc ?_
    (exact M.n2 AJ (h8:=kR))
   |true=>
    rw[h2] at hc;have hA1:CU (p.args.take (m+1)) b0.2=Em p.args[m] (CU (p.args.take m) b0.2).2:=by rw[Zm hm hP3,XQ]
    refine M.w1 @hc ?_;refine⟨rfl,(congrArg Prod.fst hA1).trans h2,?_⟩;simp only[hA1];exact(M.W Bo)
  .intro hP3;simp only[fH] at hP3;simp only[fH];rw[he,hP3];refine M.w0 ?_
   (exact M.n2 AJ (h8:=kR))):P:=h
theorem pS{P:Prop}(h:P:=by
 by_cases hx:m+1=p.args.length
 .rw[if_pos hx,if_pos kn]
 .rw[if_neg hx,if_neg kn]):P:=h
theorem pT{P:Prop}(h:P:=by
 obtain⟨p,d',hm,ok',hA⟩:=L2 (n+1) lems tys hyps hc hs d2 ok2 k;refine⟨p,d',hm,ok',?_⟩;show AW _ _ _ (Code.seq _ _) _ _ _;(repeat' first|refine M.o0 ?_|refine M.gs ?_ ?_<;>intro h|refine M.z1 3 ?_|refine M.cs ?_ ?_<;>intro h|refine M.gk ?_|fail);all_goals first
  |(exfalso;simp at h;omega)
  |skip
 (repeat' first|refine M.o3 @hx @hp1 @hI ?_|refine M.z1 61 ?_|refine M.bl ?_|refine M.cs ?_ ?_<;>intro h|refine M.gk ?_|fail);all_goals first
  |exact AW.weak (M.W D9) hA
  |(exfalso;simp at h;omega)
  |trace_state):P:=h
theorem pU{P:Prop}(h:P:=by
 intro m hm hP;have hs2:=zc Tm.full (fA hm);have hs4:=zw Tm.size p.terms m;have hok:=(Na (p.terms.take m) (s.1+1,s.2)).2.1;have hnn:0<=p.terms[m].num/\p.terms[m].num<=4096:=by rcases UG p.terms[m] with⟨_,_,_,e⟩|⟨_,_,e⟩|⟨_,_,_,e⟩<;>omega
 have hnum:p.terms[m].num=(p.terms[m].num.toNat:Int):=kn
 have hc:=O8 p.terms[m] kn;rw[hnum] at hc;have hcnt:=Q9 (Ce (p.terms.take m) (s.1+1,s.2)).2.1 (Ce (p.terms.take m) (s.1+1,s.2)).2.2 p.terms[m].num.toNat p.terms[m].err (by simp only at hok;omega) kn;by_cases h2:p.terms[m].err=2
 .rw[show(p.terms[m].err !=2)=false by simp[h2]] at hcnt;have hst:=Zh hm hP h2;rw[hst,if_pos rfl] at he;rw[he];refine M.w2 @hc @hcnt ?_
  (exact M.n2 AJ (h8:=kR))
 .rw[show(p.terms[m].err !=2)=true by simp[h2]] at hcnt;have hA1:Ce (p.terms.take (m+1)) (s.1+1,s.2)=(true,((Ce (p.terms.take m) (s.1+1,s.2)).2.1+p.terms[m].num.toNat,(Ce (p.terms.take m) (s.1+1,s.2)).2.2||p.terms[m].err==4)):=by
   rw[bL hm hP,Ce,if_neg h2];rfl
  refine M.w2 @hc @hcnt ?_;refine⟨rfl,congrArg Prod.fst hA1,?_⟩;simp only[hA1];exact(M.W Bo)):P:=h
theorem pV{P:Prop}(h:P:=by
 rw[e] at st;have fr:=LH r1;have hN:=Qk hc (p:=(xv (EJ p m)).1) kn;rcases hr with hl|⟨y1,y3,y4⟩
 .rcases hl with hl|hl|hl;all_goals
   rw[hl] at hN;(repeat' first|refine M.w2 @st @hN ?_|refine M.zb ?_|refine M.ks ?_ ?_<;>intro h|fail);all_goals first
    |rfl
    |(exfalso;simp at h;omega)
    |trace_state
 .rw[y1] at hN;obtain⟨w1,w2⟩:=QA hc y1;have hM:=QI (yb lems tys hyps (xv (EJ p m)).1).1 (yb lems tys hyps (EJ p m)).1 kn kn;have hS:=Z4 (yb lems tys hyps (xv (EJ p m)).1).2.1 (yb lems tys hyps (EJ p m)).2.1 kn kn y4;have hnx:L6 lems tys hyps p (m+1):=⟨r1,r2,y1⟩;rcases y3 with y3|y3|y3;all_goals
   rw[y3] at hM;(repeat' first|refine M.w4 @st @hN @hM @hS ?_|refine M.zb ?_|refine M.ks ?_ ?_<;>intro h|fail);all_goals first
    |exact⟨hlt,hnx,(M.W F8)⟩
    |(exfalso;simp at h;omega)
    |trace_state):P:=h
theorem pW{P:Prop}(h:P:=by
 rw[n4];unfold B6 at n1
 repeat(split at n1;· cases n1;decide)
 cases n1):P:=h
theorem pX{P:Prop}(h:P:=by
 intro _;rw[hre];simp only[Nh];skip
 (exact M.n2 AJ (h6:=(by(repeat'(first|exact trivial|refine And.intro ?_ ?_|refine⟨_,U,_,U,_,U,?_⟩|exact Ap.of_eq l7));done)) (h8:=lW))):P:=h
theorem pY{P:Prop}(h:P:=by
 refine M.F Tryz.func101 ?_;refine M.v1 @h1 ?_
 rfl):P:=h
theorem pZ{P:Prop}(h:P:=by
 intro m hm _;have hs2:=zc Fm.full (fA hm);have hc:=XO a k n0 ha hk hn0 (Xs++p.terms.map ((BN a) v)++(p.Ae.take m).map ((BX a) (v+AN p.kind))) p.Ae[m] (v+AN p.kind) (fe _ (fA hm)) kn (i2 _ (fA hm)) (Dp.pre oz hg);(repeat' first|refine M.w0 ?_|refine M.cv (hc) [0,1,2,3] 0 ?_|fail);exact⟨rfl,trivial,(M.W Ix (he:=(by(repeat'(first|exact trivial|refine And.intro ?_ ?_|refine⟨_,U,_,U,_,U,?_⟩|exact Ap.refl _|exact Ap.of_eq lG));done)))⟩):P:=h
theorem p8{P:Prop}(h:P:=by
 intro m hm _;have hs2:=zc Tm.full (fA hm);have hc:=Za a k n0 ha hk hn0 (Xs++(p.terms.take m).map ((BN a) v)) p.terms[m] v (te _ (fA hm)) kn (i1 _ (fA hm)) (Dp.pre oC hg);(repeat' first|refine M.w0 ?_|refine M.cv (hc) [0,1,2,3] 0 ?_|fail);exact⟨rfl,trivial,(M.W Ix (he:=(by(repeat'(first|exact trivial|refine And.intro ?_ ?_|refine⟨_,U,_,U,_,U,?_⟩|exact Ap.refl _|exact Ap.of_eq lG));done)))⟩):P:=h
theorem p9{P:Prop}(h:P:=by
 intro m hm _;have hs2:=zc Fm.full (fA hm);have hc:=eN (Xs++p.terms.map ((fun _ t=>t.near) v)++(p.Ae.take m).map ((fun _ f=>f.near) (v+AN p.kind))) p.Ae[m] (v+AN p.kind) kn;(repeat' first|refine M.w0 ?_|refine M.cv (hc) [0] 0 ?_|fail);exact⟨rfl,trivial,(M.W C5 (he:=(by(repeat'(first|exact trivial|refine And.intro ?_ ?_|refine⟨_,U,_,U,_,U,?_⟩|exact Ap.refl _|exact Ap.of_eq lG));done)))⟩):P:=h
theorem qa{P:Prop}(h:P:=by
 simp_all only[beq_iff_eq,beq_eq_false_iff_ne,ne_eq];exact(M.W Rw (hf:=(by(repeat'(first|exact trivial|refine And.intro ?_ ?_|refine⟨_,U,_,U,?_⟩|exact Ap.refl _|exact Ap.of_eq om));done)))):P:=h
theorem qb{P:Prop}(h:P:=by
 intro m hm _;refine M.w0 ?_;exact⟨rfl,trivial,(M.W C5)⟩):P:=h
theorem qc{P:Prop}(h:P:=by
 have hD:∀n,(n<σ.nx\/n∈List.range' σ.nx news)↔n<σ.nx+news:=fun n=>by
  grind
 have hle:∀n,(fun n=>n<σ.nx) n->(fun n=>n<σ.nx+news) n:=fun n h=>kn
 refine h2 (by simp only[Ao.AH];omega) g' w' _ (hR'.more fun n h=>(hD n).1 h) ?_ (hY.ext hx') g0 F0 w0 (hx.trans (hx'.mono fun n hn=>kn));exact(hF.ext hx' hle).put (RJ hd) (hv'.more fun n h=>(hD n).1 h)):P:=h
theorem qd{P:Prop}(h:P:=by
 intro m hm _;have hs2:=zc Tm.full (fA hm);have hc:=Qq _ p.terms[m] (fB _) kn;refine M.w1 @hc ?_;exact⟨rfl,trivial,(M.W [some 0,some 1,some 2,some 3,some 4,some 5,some 6,some 7,some 10] (he:=(by(repeat'(first|exact trivial|exact Or.inr ⟨_,U,rfl⟩|refine And.intro ?_ ?_|refine⟨_,U,_,U,_,U,?_⟩|exact Ap.refl _|exact Ap.of_eq kQ));done)))⟩):P:=h
theorem qf{P:Prop}(h:P:=by
 rename_i h;exact zx c h):P:=h
theorem qg{P:Prop}(h:P:=by
 rw[if_pos hA] at he;rw[he];refine M.F Tryz.func163 ?_;(repeat' first|refine M.o1 @hru ?_|refine M.gs ?_ ?_<;>intro h|refine M.z1 4 ?_|refine M.cs ?_ ?_<;>intro h|refine M.gk ?_|fail);all_goals(try(exfalso;simp only[Pf.GQ,hnd] at hA;simp_all;done))
 all_goals(try(exfalso;simp only[Pf.GQ,hnd] at hA;simp_all;omega))
 all_goals(exact M.n2 AJ (h8:=kR))):P:=h
theorem qh{P:Prop}(h:P:=by
 intro m hm _;have hs2:=zc Fm.full (fA hm);have hc:=Vt p.Ae[m] kn;refine M.w1 @hc ?_;exact⟨rfl,trivial,(M.W [some 0,some 1,some 2,some 3,some 4,some 5,some 6,some 7,some 8,some 11] (he:=(by(repeat'(first|exact trivial|exact Or.inr ⟨_,U,rfl⟩|refine And.intro ?_ ?_|refine⟨_,U,_,U,_,U,?_⟩|exact Ap.refl _|exact Ap.of_eq kQ));done)))⟩):P:=h
theorem qi{P:Prop}(h:P:=by
 intro m hm _;have hs2:=zc Tm.full (fA hm);have hc:=Zw (Xs++(p.terms.take m).map ((fun _ t=>t.near) v)) p.terms[m] v kn;(repeat' first|refine M.w0 ?_|refine M.cv (hc) [0] 0 ?_|fail);exact⟨rfl,trivial,(M.W C5 (he:=(by(repeat'(first|exact trivial|refine And.intro ?_ ?_|refine⟨_,U,_,U,_,U,?_⟩|exact Ap.refl _|exact Ap.of_eq lG));done)))⟩):P:=h
theorem qj{P:Prop}(h:P:=by
 intro m hm hP;have hc:=loopE m hm (CZ k0 (D4 ((t.args.take m).flatMap (Tm.vars (up t.kind bl)))));refine M.w2 @hbe @hc ?_;refine⟨rfl,trivial,?_⟩;exact(M.W Bo (he:=(by(repeat'(first|exact trivial|refine And.intro ?_ ?_|refine⟨_,U,_,U,_,U,?_⟩|exact Ap.refl _|refine⟨_,U,_,_,U,?_,?_⟩|(simp[Ao.AH,W8,R1,M6 _ _ _ hm];done)));done)))):P:=h
theorem ql{P:Prop}(h:P:=by
 intro m hm _;have hs2:=zc Tm.full (fA hm);(repeat' first|refine M.w0 ?_|refine M.c2 (Kp _ _ (fB _) ?_) ?_|exact M.lt|fail);exact⟨rfl,trivial,(M.W [some 0,some 1,some 2,some 5] (he:=(by(repeat'(first|exact trivial|exact Or.inr ⟨_,U,rfl⟩|refine And.intro ?_ ?_|refine⟨_,U,_,U,_,U,?_⟩|exact Ap.refl _|exact Ap.of_eq kQ));done)))⟩):P:=h
theorem qm{P:Prop}(h:P:=by
 rw[if_pos (Fx hl)];exact EI hl):P:=h
theorem qn{P:Prop}(h:P:=by
 have s1:Made 700000 CG:=(Made.sub (f:=AV (AE (Fh.re (zi 0 1) 0) (CI.re (zi 0 1) 0)) (AE (Fh.re (zi 0 1) 0) (vT 0))) (QV _ kE kE kE) (Made.hyp (i:=0) kn) (Made.ref (t:=AE Fh CI) (JT _ kE kE kE))).up kn;exact(Made.ind (k:=16) kn (f:=AV CI (vT 0)) (t:=t) (QV _ kE kE kE) ti (Made.ref (JT zT kq kq kq)) s1).up kn):P:=h
theorem qo{P:Prop}(h:P:=by
 rw[if_pos e0] at he;exact absurd he e0):P:=h
theorem qp{P:Prop}(h:P:=by
 obtain ⟨k3,_⟩:=k2 k1;refine .inr ⟨k1,by simp only;rw[k3];exact hf.1.symm,fun hc w hw=>hf.2.2 hc w ?_⟩;rcases AM.1 hw with hw|hw
 .rcases AM.1 hw with hw|hw
  .exact .inl (.inl ((K9 e).1 hw))
  .exact .inl (.inr (p2 w hw))
 .obtain ⟨a,b⟩:=B3.1 hw;exact .inr ⟨a,q2 _ b⟩):P:=h
theorem qq{P:Prop}(h:P:=by
 intro n e h;have h3:=he.get n e h;cases e with
 |var cs=>obtain⟨m,hm,_⟩:=h3;exact Ic (I6 hm)
 |map c ks xs=>obtain⟨m,hm,_⟩:=h3;exact Ic (I6 hm)
 |row=>
  rcases h3 with h3|⟨m,hm,_⟩
  .exact Ic h3
  .exact Ic (I6 hm)
 |gone=>simp_all):P:=h
theorem qt{P:Prop}(h:P:=by
 intro _;simp only[fH];refine M.w0 ?_
 rfl):P:=h
theorem qw{P:Prop}(h:P:=by
 have h1:p.kind=k:=by rw[<-Ov,h]
 have h2:¬(p.kind=16\/p.kind=17):=by rw[h1];exact hk
 by_cases h0:0<p.args.length
 .rw[SM h2 h0] at h;exact⟨h1,h0,(jj h).2⟩
 .rw[Sf h2 h0] at h;exact absurd (jj h).2.symm hu):P:=h
theorem qx{P:Prop}(h:P:=by
 obtain ⟨l,hl,hb⟩:=iA.1 hb;obtain⟨m,hm,rfl⟩:=gj hl;rw[JE] at hm;rw[Kq _ _ _ _ _ _ hm] at hb
 grind):P:=h
theorem qy{P:Prop}(h:P:=by
 have:=(Ho (ht.shape hb.g z8)).2;rcases hk with rfl|rfl<;>(simp[AL,Fm.shape,Fm.AZ,Fm.head,this];decide)):P:=h
theorem qz{P:Prop}(h:P:=by
 refine M.F Tryz.func101 ?_;(repeat' first|refine M.o1 @hp ?_|refine M.z1 24 ?_|refine M.bl ?_|refine M.cs ?_ ?_<;>intro h|refine M.gk ?_|fail);all_goals first
  |rfl
  |(exfalso;simp at h;exact hk h)):P:=h
theorem qA{P:Prop}(h:P:=by
 refine M.F Tryz.func101 ?_;(repeat' first|refine M.o1 @hp ?_|refine M.z1 22 ?_|refine M.bl ?_|refine M.cs ?_ ?_<;>intro h|refine M.gk ?_|fail);all_goals first
  |rfl
  |(exfalso;simp at h;exact he h)):P:=h
theorem qC{P:Prop}(h:P:=by
 rw[e] at st;have sq:=UL _ (EJ p m) (fB _) kn;(repeat' first|refine M.w2 @st @sq ?_|refine M.zb ?_|refine M.ks ?_ ?_<;>intro h|fail);all_goals first
  |rfl
  |(exfalso;simp at h;omega)
  |trace_state):P:=h
theorem qD{P:Prop}(h:P:=by
 simp only[Cs] at d2;by_cases h0:u=0
 .subst h0;rw[if_pos kn] at d2;exact .inr ⟨hu,kn,kr⟩
 .rw[if_neg kn,JQ] at d2;by_cases e:u-((0:Nat):Int)-1-0=w-((0:Nat):Int)
  .exact .inl ⟨kn,kr⟩
  grind):P:=h
theorem qE{P:Prop}(h:P:=by
 intro _;rw[hre];simp only[Qd];skip
 (exact M.n2 D9 (h6:=(by(repeat'(first|exact trivial|refine And.intro ?_ ?_|refine⟨_,U,_,U,_,U,?_⟩|exact Ap.refl _|exact Ap.of_eq nC));done)) (h8:=mK))):P:=h
theorem qF{P:Prop}(h:P:=by
 intro _;rw[hre];simp only[Nh];skip
 (exact M.n2 Bo (h6:=(by(repeat'(first|exact trivial|refine And.intro ?_ ?_|refine⟨_,U,_,U,_,U,?_⟩|exact Ap.refl _|exact Ap.of_eq l7));done)) (h8:=lW))):P:=h
theorem qG{P:Prop}(h:P:=by
 have h:=((Ty.Aa t).1 he).1;obtain⟨k,zs⟩:=t;rw[Ty.Ak,fD] at h;have h1:=h.1;simp only[Ty.kind,Ty.args] at hk h1;subst hk;have h2:zs.length=0:=by simpa[Ey] using h1
 rw[fX h2];rfl):P:=h
theorem qH{P:Prop}(h:P:=by
 refine Vp w _ b o ?_;rcases jk b w.heap.size with h|h
 .exact h
 .rw[hR.fresh b h] at ho;omega):P:=h
theorem qI{P:Prop}(h:P:=by
 intro _;rw[hre];simp only[Qd];skip
 (exact M.n2 AJ (h6:=(by(repeat'(first|exact trivial|refine And.intro ?_ ?_|refine⟨_,U,_,U,_,U,?_⟩|exact Ap.of_eq nC));done)) (h8:=mK))):P:=h
theorem qJ{P:Prop}(h:P:=by
 intro hP;refine M.w0 ?_;simp[zn,V.wk,V.Ar,za,Ty.view,Tm.view]):P:=h
theorem qK{P:Prop}(h:P:=by
 obtain ⟨l,hl,hb⟩:=iA.1 hb;obtain⟨m,hm,rfl⟩:=gj hl;rw[JP] at hm;rw[KM _ _ _ _ _ hm] at hb;have hk:p.kind≠1:=fun e=>by
  rw[e] at a1;simp[B6] at a1
  grind
 grind):P:=h
theorem qL{P:Prop}(h:P:=by
 intro _;simp only[fH];refine M.w0 ?_
 (exact M.n2 Bo (h8:=lD))):P:=h
theorem qM{P:Prop}(h:P:=by
 intro i v c hv hc;obtain⟨c1,hc2⟩:=Az (xp hc1) hc;obtain⟨c0,hc3,hc4⟩:=h5.nth i c1 hc2;exact hun (hc4 _ _ _ _ (h10 i v c0 hv hc3)) (um hc1 i c c1 hc hc2)):P:=h
theorem qN{P:Prop}(h:P:=by
 intro m hm _;refine M.w0 ?_;exact⟨rfl,trivial,(M.W ID)⟩):P:=h
theorem qO{P:Prop}(h:P:=by
 (exact M.n2 AJ (h6:=(by(repeat'(first|exact trivial|refine And.intro ?_ ?_|refine⟨_,U,_,U,_,U,?_⟩|exact Ap.of_eq (by simp[Ao.AH,FO,h])));done)) (h8:=pz))):P:=h
theorem qP{P:Prop}(h:P:=by
 (exact M.n2 AJ (h6:=(by(repeat'(first|exact trivial|refine And.intro ?_ ?_|refine⟨_,U,_,U,_,U,?_⟩|exact Ap.of_eq (by simp[Ao.AH,RD,h])));done)) (h8:=pG))):P:=h
theorem qQ{P:Prop}(h:P:=by
 rw[e] at st;(repeat' first|refine M.w1 @st ?_|refine M.zb ?_|refine M.ks ?_ ?_<;>intro h|fail);all_goals first
  |rfl
  |(exfalso;simp at h;omega)
  |trace_state):P:=h
theorem qT{P:Prop}(h:P:=by
 rw[e0 0 kn,e0 1 kn] at h;have a:=hds 0 kn;have b:=hds 1 kn;rw[if_neg kn,if_neg kn] at a;rw[if_pos kn,if_pos kn] at b;exact eP (hx 0 kn) B a b c c' X U E h):P:=h
theorem qU{P:Prop}(h:P:=by
 rw[zv,if_neg (fun e=>hi e.symm)] at h;exact h):P:=h
theorem qV{P:Prop}(h:P:=by
 rw[if_pos h1];refine M.F Tryz.func101 ?_;(repeat' first|refine M.v0 ?_|refine M.cs ?_ ?_<;>intro h|fail);all_goals first
  |rfl
  |(exfalso;simp at h;omega)):P:=h
theorem qW{P:Prop}(h:P:=by
 exfalso;simp at h;omega):P:=h
theorem qX{P:Prop}(h:P:=by
 simp only[kL];rcases hk with rfl|rfl
 .rw[if_neg kq];exact AM.2 (h.imp id fun h=>(K9 t1).2 h.2)
 .rw[if_pos rfl];exact h.elim id fun h=>absurd rfl h.1):P:=h
theorem qY{P:Prop}(h:P:=by
 rw[if_pos a1] at h1;exact absurd (y7 h1) a1):P:=h
theorem qZ{P:Prop}(h:P:=by
 intro i j e e' b h2 h3 h4 h5;obtain⟨d,h6,h7⟩:=hfoot i e b h2 h4;obtain⟨d',h8,h9⟩:=hfoot j e' b h3 h5;exact hR.Bd i j d d' b h6 h8 h7 h9):P:=h
theorem ri{P:Prop}(h:P:=by
 refine .inl ⟨hold i e hi he,fun b hb=>⟨hother b (fun e2=>hi ?_),rfl⟩⟩;exact hR.Bd i n e _ b (hold i e hi he) hn hb (by simp[A7.AD,e2])):P:=h
theorem rj{P:Prop}(h:P:=by
 rw[V6 hn,Option.none_or];refine NM rfl fun j u hj hnu=> ?_;rw[gN];refine hsame j fun e=>hn ?_;subst e;rw[hpi] at hj;cases hj;exact hnu):P:=h
theorem rq{P:Prop}(h:P:=by
 exact hR.Bd i j e e' b (hold i e hi h1) (hold j e' hj h2) (hfold i e b (hold i e hi h1) h3).1 (hfold j e' b (hold j e' hj h2) h4).1):P:=h
theorem ru{P:Prop}(h:P:=by
 intro hl;have h2:=ih x (hl x ko) (zp hf (hl x ko)) (A3 f.kind b);have h3:=ihl fun y hy=>hl y kr;simp only[fJ,fT,iN,gx,xg,iw];omega):P:=h
theorem ry{P:Prop}(h:P:=by
 intro l;induction l with
 |nil=>rfl
 |cons p l ih=>
  rw[fJ,show ∀(x:Int×Int) l,x::l=[x]++l from fun _ _=>rfl,xy,ih,vx,if_neg];omega):P:=h
theorem rA{P:Prop}(h:P:=by
 rw[Jh];refine⟨?_,?_⟩
 .simp[vw,Tm.arg,h4,h5]
 .simp only[Tm.Af,fW,gm,or_false,forall_eq_or_imp,forall_eq];exact⟨ha,hf,hn⟩):P:=h
theorem rB{P:Prop}(h:P:=by
 rw[if_pos e1] at he;exact absurd he e1):P:=h
theorem rC{P:Prop}(h:P:=by
 exact absurd (y7 h1) kq):P:=h
theorem rD{P:Prop}(h:P:=by
 simp only[Fm.head,Fm.Ai,Fm.AO,Fm.Am,Fm.Af,gH] at h1 ⊢;exact h1):P:=h
theorem rE{P:Prop}(h:P:=by
 exact ⟨⟨0,ld⟩,(M.W AJ)⟩):P:=h
theorem rF{P:Prop}(h:P:=by
 rw[he,MX hm hP hx];(repeat' first|refine M.w1 @hc ?_|refine M.cs ?_ ?_<;>intro h|fail)
 .rfl
 .exfalso;simp at h;exact hx h):P:=h
theorem rG{P:Prop}(h:P:=by
 refine ⟨kr,rfl,fun t c hc=> ?_⟩;obtain⟨_,h1⟩:=bM hc;simp only[jZ] at h1;obtain⟨v,hv⟩:=Az hl.symm h1
 grind):P:=h
theorem rH{P:Prop}(h:P:=by
 refine M.F Tryz.func235 ?_;refine M.v0 ?_
 rfl):P:=h
theorem rI{P:Prop}(h:P:=by
 intro _;refine M.w0 ?_
 rfl):P:=h
theorem rJ{P:Prop}(h:P:=by
 simp only[Cd] at h0 ⊢;grind):P:=h
theorem rK{P:Prop}(h:P:=by
 simp only[SL.len] at h;refine⟨by simp[SL.sub,SL.len];omega,rfl,fun i hi=> ?_⟩;simp[SL.sub,SL.get,iO,hi]):P:=h
theorem rL{P:Prop}(h:P:=by
 obtain⟨v,g2,h1,h2,h3,h4⟩:=JM.done hq hrs hR1 hF1;exact⟨hF1.defers,v,h1,v,g2,rfl,h2,h3,hx1.trans h4⟩):P:=h
theorem rM{P:Prop}(h:P:=by
 rw[e0 0 kn] at h;have a:=hds 0 kn;rw[if_pos kn,if_pos kn] at a;rw[HY (d:=AB) n2];exact XB B a c c' X U E h):P:=h
theorem rN{P:Prop}(h:P:=by
 obtain⟨a,b⟩:=Rt hs kn mE;obtain⟨i,th,rfl⟩:=KQ hs hk rfl;simp only[Tm.AG,Tm.AO] at a b;rw[a,b];rfl):P:=h
theorem rO{P:Prop}(h:P:=by
 rw[if_pos hr];exact EI (.inl rfl)):P:=h
theorem rP{P:Prop}(h:P:=by
 rw[if_pos e1] at he;cases he):P:=h
theorem rQ{P:Prop}(h:P:=by
 have:¬x=y:=m7
 simp[this,zn,za,V.wk,V.Ar]):P:=h
theorem rR{P:Prop}(h:P:=by
 obtain ⟨l,hl,hb⟩:=iA.1 hb;obtain⟨m,hm,rfl⟩:=gj hl;rw[JP] at hm;rw[KM _ _ _ _ _ hm] at hb
 grind):P:=h
theorem rS{P:Prop}(h:P:=by
 have h2:=hold i e hi he;exact .inl ⟨h2,fun b hb'=>⟨heap_alloc_old w _ b (hR.B4 h2 hb'),rfl⟩⟩):P:=h
theorem rT{P:Prop}(h:P:=by
 obtain ⟨t,ht,rfl⟩:=fO.1 hb;exact fF.2 fun q hq=>kr):P:=h
theorem rU{P:Prop}(h:P:=by
 rw[if_pos e2] at he;exact absurd he e2):P:=h
theorem rV{P:Prop}(h:P:=by
 intro m hm _;refine M.w0 ?_;refine⟨rfl,trivial,?_⟩;simp only[XD hm];rw[<-Vy];exact(M.W AJ)):P:=h
theorem rW{P:Prop}(h:P:=by
 rw[if_neg hz];simp only[Sem.run_bind,VT h2 h5,Result.andThen_ok,Sem.run_pure];rw[key _ ko]
 rfl):P:=h
theorem rX{P:Prop}(h:P:=by
 rw[SE _ _ rfl];have:=Dk.B7 (d.next 9).2 hg hb;have:=Dk.B7 (((d.next 9).2.HM g).2) hg hb;omega):P:=h
theorem rY{P:Prop}(h:P:=by
 obtain rfl:m=4:=kn
 refine M.w0 ?_;all_goals first
  |rfl
  |(exfalso;simp at h;omega)
  |trace_state):P:=h
theorem rZ{P:Prop}(h:P:=by
 have:CV k=none:=by simp at h;simp only[CV];(repeat' rw[if_neg kn])
 simp[this,zn,V.wk,V.Ar,za]):P:=h
theorem r5{P:Prop}(h:P:=by
 simp only[uq] at hq ⊢;cases hb:Nat.beq id C with
 |true=>grind
 |false=>rw[hb] at hq;exact hq):P:=h
theorem r6{P:Prop}(h:P:=by
 rw[OU _ _ _ rfl];have:=Dk.B7 ((d.next 9).2.type 1).2 (zm hg (zg s1 zk)) (b:=b+1) kn;omega):P:=h
theorem r7{P:Prop}(h:P:=by
 rw[e0 0 kn] at h;have a:=hds 0 kn;rw[if_pos kn,if_pos kn] at a;exact XU B a c c' X U E h):P:=h
theorem r8{P:Prop}(h:P:=by
 rw[e0 0 kn] at h;have a:=hds 0 kn;rw[if_pos kn,if_pos kn] at a;exact Zn B a c c' X U E h):P:=h
theorem r9{P:Prop}(h:P:=by
 exact R7 (hrs 0 kn) (n6 trivial) hc):P:=h
theorem sg{P:Prop}(h:P:=by
 intro hP;refine M.w0 ?_
 (exact M.n2 D9 (h8:=nM))):P:=h
theorem si{P:Prop}(h:P:=by
 rw[zv,if_pos rfl] at h;grind):P:=h
theorem sj{P:Prop}(h:P:=by
 rw[if_pos e2] at he;cases he):P:=h
theorem sr{P:Prop}(h:P:=by
 exact hf.2.2 hc' w (.inr hw)):P:=h
theorem sw{P:Prop}(h:P:=by
 rw[if_pos hz];simp only[Sem.run_bind,Sem.run_pure,Result.andThen_ok];rw[key _ ko]
 rfl):P:=h
theorem sC{P:Prop}(h:P:=by
 intro _;simp only[fH];refine M.w0 ?_;rw[he]
 rfl):P:=h
theorem sD{P:Prop}(h:P:=by
 intro l;induction l<;>grind):P:=h
theorem sE{P:Prop}(h:P:=by
 exact R8 (hrs 0 kn) (hrs 1 kn) hc):P:=h
theorem sF{P:Prop}(h:P:=by
 intro _;simp only[fH];refine M.w0 ?_;rw[he];simp[zn,V.wk,V.Ar,za,Ty.view,Tm.view]):P:=h
theorem sG{P:Prop}(h:P:=by
 have hk:t.kind=1:=ku
 (exact M.n2 D9 (h8:=nO))):P:=h
theorem sH{P:Prop}(h:P:=by
 obtain ⟨j,s,rfl⟩:=KQ hs h4 rfl;exact(NB.of hA kn).st (.one (.rz (.refl _)))):P:=h
theorem sI{P:Prop}(h:P:=by
 rw[vy];unfold vt;simp only[Pf.Ai,Pf.AG,Pf.AO,Pf.Am,Pf.Au,Pf.Af];rw[hk,hf,ha]
 rfl):P:=h
theorem sJ{P:Prop}(h:P:=by
 have k1:p.kind≠1:=fun e=>lV
 have k2:p.kind≠2:=fun e=>lV
 simp[DO,C3,dI,k1,k2]):P:=h
theorem sK{P:Prop}(h:P:=by
 have hname':¬fn.name= "runtime.NumGoroutine" :=kr
 simp[callFunc,hf,hname',hb]):P:=h
theorem sL{P:Prop}(h:P:=by
 intro n g a b _ _ ha hb;exact v8 (k:=3) rfl rfl (v8 (k:=3) rfl rfl rfl ha) hb):P:=h
theorem sM{P:Prop}(h:P:=by
 have:=hp.sz;simp only[UN,fJ,fU,fT,gu];omega):P:=h
theorem sN{P:Prop}(h:P:=by
 rw[if_pos a2] at h1;exact absurd (y7 h1) a2):P:=h
theorem sO{P:Prop}(h:P:=by
 exact ⟨⟨2,ld⟩,(M.W AJ)⟩):P:=h
theorem sP{P:Prop}(h:P:=by
 simp only[ut,reduceIte,Int.reduceEq,or_false,or_true,e0.2] at h0;exact h0):P:=h
theorem sQ{P:Prop}(h:P:=by
 first
  |exact Ap.refl _
  |(refine Ap.of_eq ?_;simp[zn,Ty.view,Tm.view];rfl)):P:=h
theorem sR{P:Prop}(h:P:=by
 intro n g t s a b _ hs h1 _ ht ha hb;exact Tr rfl rfl (v8 rfl rfl ha hb)):P:=h
theorem sS{P:Prop}(h:P:=by
 next a=>exact absurd (y7 h1) a):P:=h
theorem sU{P:Prop}(h:P:=by
 simp only[EU] at h ⊢;rw[Ph (hx x ko)];simp only[fL,fE] at h ⊢
 grind):P:=h
theorem sV{P:Prop}(h:P:=by
 simp only[ut,reduceIte,Int.reduceEq,or_false,or_true,e.2] at h;exact h):P:=h
theorem sW{P:Prop}(h:P:=by
 by_cases hi:i=n
 .subst hi;rw[hnew e h2] at h3;exact⟨_,hn,h3⟩
 grind):P:=h
theorem sX{P:Prop}(h:P:=by
 rw[if_pos e4] at he;exact absurd he e4):P:=h
theorem sY{P:Prop}(h:P:=by
 intro p hp;refine hf p ?_;simp[AE,Tm.vars,Tm.BV,up] at hp ⊢
 grind):P:=h
theorem sZ{P:Prop}(h:P:=by
 rw[if_pos e3] at he;cases he):P:=h
theorem s7{P:Prop}(h:P:=by
 obtain ⟨a,b,_⟩:=hmem 0 kn;exact post h4 (Pd _ kq a b hc h1 h3)):P:=h
theorem s8{P:Prop}(h:P:=by
 rename_i h;exact absurd he h):P:=h
theorem ta{P:Prop}(h:P:=by
 rw[h2] at hi1;cases hi1;rw[h5] at hi3;cases hi3;exact(Ql hi4).2.1):P:=h
theorem tc{P:Prop}(h:P:=by
 simp only[ut,reduceIte,Int.reduceEq,or_false,e0.2] at h0;exact h0):P:=h
theorem td{P:Prop}(h:P:=by
 refine M.F Tryz.func201 ?_;refine M.w0 ?_
 (exact M.n2 AJ (h8:=kR))):P:=h
theorem kn{P:Prop}(h:P:=by omega):P:=h
theorem ko{P:Prop}(h:P:=by simp):P:=h
theorem kq{P:Prop}(h:P:=by decide):P:=h
theorem kr{P:Prop}(h:P:=by grind):P:=h
theorem ku{P:Prop}(h:P:=by simpa using h):P:=h
theorem kz{P:Prop}(h:P:=by rfl):P:=h
theorem kA{P:Prop}(h:P:=by kernel_rfl):P:=h
theorem kC{P:Prop}(h:P:=by simp;omega):P:=h
theorem kD{P:Prop}(h:P:=by simp[Op.operands,Call.operands]):P:=h
theorem kE{P:Prop}(h:P:=by decide+kernel):P:=h
theorem kF{P:Prop}(h:P:=by with_unfolding_all rfl):P:=h
theorem kG{P:Prop}(h:P:=by simp[zn,V.wk,V.Ar,za,Ty.view,Tm.view,Pf.view]):P:=h
theorem kH{P:Prop}(h:P:=by rw[e];rfl):P:=h
theorem kJ{P:Prop}(h:P:=by split<;>omega):P:=h
theorem kM{P:Prop}(h:P:=by cases h):P:=h
theorem kO{P:Prop}(h:P:=by simp[Ao.AH,yc _ _ _ hm]):P:=h
theorem kP{P:Prop}(h:P:=by simp_all):P:=h
theorem kQ{P:Prop}(h:P:=by simp[Ao.AH,fS]):P:=h
theorem kR{P:Prop}(h:P:=by simp[zn,V.wk,V.Ar,za,Ty.view,Tm.view,V.B8]):P:=h
theorem kS{P:Prop}(h:P:=by simp at h;omega):P:=h
theorem kT{P:Prop}(h:P:=by unfold Aw;split<;>(try split)<;>omega):P:=h
theorem kU{P:Prop}(h:P:=by simp only[up];split<;>omega):P:=h
theorem kV{P:Prop}(h:P:=by simp[vm]):P:=h
theorem kW{P:Prop}(h:P:=by unfold AN;split<;>omega):P:=h
theorem kX{P:Prop}(h:P:=by unfold AA;split<;>omega):P:=h
theorem kY{P:Prop}(h:P:=by simpa using hj):P:=h
theorem kZ{P:Prop}(h:P:=by cases p;rfl):P:=h
theorem k7{P:Prop}(h:P:=by simp[AL]):P:=h
theorem k8{P:Prop}(h:P:=by simpa using h0):P:=h
theorem ld{P:Prop}(h:P:=by simp at h;simp[Ey,h]):P:=h
theorem lg{P:Prop}(h:P:=by simp[Ao.AH,gF,iy,gq]):P:=h
theorem lp{P:Prop}(h:P:=by unfold Ds;rw[n1]):P:=h
theorem lq{P:Prop}(h:P:=by simp only;omega):P:=h
theorem lu{P:Prop}(h:P:=by rw[wu];rfl):P:=h
theorem lz{P:Prop}(h:P:=by rw[Pf.Ag];omega):P:=h
theorem lB{P:Prop}(h:P:=by simp[he]):P:=h
theorem lC{P:Prop}(h:P:=by first|assumption|omega|(simp only[Ty.Af,Tm.Af,fQ,gB,fM,gi];omega)|(simp at*;omega)|(simp;done)|contradiction):P:=h
theorem lD{P:Prop}(h:P:=by simp[zn,V.wk,V.Ar,za,Ty.view,Tm.view,hre]):P:=h
theorem lF{P:Prop}(h:P:=by simp only[Tm.size,Tm.sizes];omega):P:=h
theorem lG{P:Prop}(h:P:=by simp[Ao.AH,yc _ _ _ hm,fK]):P:=h
theorem lH{P:Prop}(h:P:=by simp[Ao.AH,gF,fU,gq]):P:=h
theorem lI{P:Prop}(h:P:=by intro j hj h;omega):P:=h
theorem lJ{P:Prop}(h:P:=by simp[Ao.AH,ij,iF]):P:=h
theorem lK{P:Prop}(h:P:=by simp at h):P:=h
theorem lM{P:Prop}(h:P:=by simp[xx]):P:=h
theorem lN{P:Prop}(h:P:=by simp[zn,V.wk,V.Ar,za,Ty.view,Tm.view,hc]):P:=h
theorem lP{P:Prop}(h:P:=by rw[Ii] at hn;simp[vw,Tm.arg] at hn):P:=h
theorem lQ{P:Prop}(h:P:=by rw[Fm.A0];grind):P:=h
theorem lS{P:Prop}(h:P:=by rw[uo,Iy];grind):P:=h
theorem lT{P:Prop}(h:P:=by simpa using h1):P:=h
theorem lU{P:Prop}(h:P:=by simp[C4]):P:=h
theorem lV{P:Prop}(h:P:=by rw[e] at n1;simp[B6] at n1;rw[<-n1] at hi;cases hi):P:=h
theorem lW{P:Prop}(h:P:=by simp[zn,V.wk,V.Ar,za,Ty.view,Tm.view,hX1,fK]):P:=h
theorem lX{P:Prop}(h:P:=by simp only[Ck.below,gH];omega):P:=h
theorem lY{P:Prop}(h:P:=by simp[Be,Tm.full,Tm.Ay];omega):P:=h
theorem lZ{P:Prop}(h:P:=by simp[Tm.size,Tm.sizes];omega):P:=h
theorem l5{P:Prop}(h:P:=by simp only[A3];split<;>omega):P:=h
theorem l6{P:Prop}(h:P:=by simp only[gT];omega):P:=h
theorem l7{P:Prop}(h:P:=by simp[Ao.AH,hX1,fK]):P:=h
theorem l8{P:Prop}(h:P:=by have:=f.2;omega):P:=h
theorem l9{P:Prop}(h:P:=by simp[Gh.AU]):P:=h
theorem mc{P:Prop}(h:P:=by simp[vo]):P:=h
theorem me{P:Prop}(h:P:=by simp[AV]):P:=h
theorem mg{P:Prop}(h:P:=by simp[zn,V.wk,V.Ar,za,Ty.view,Tm.view,Pf.view,vd]):P:=h
theorem mj{P:Prop}(h:P:=by simp[zn,V.wk,V.Ar,za,Ty.view,Tm.view,e,nT]):P:=h
theorem mo{P:Prop}(h:P:=by have:=((Fm.Aa _).1 ex).2;omega):P:=h
theorem mq{P:Prop}(h:P:=by simpa[Ck.below] using hr.2):P:=h
theorem mu{P:Prop}(h:P:=by first|assumption|fail):P:=h
theorem mw{P:Prop}(h:P:=by have:=MB es;omega):P:=h
theorem mA{P:Prop}(h:P:=by unfold Aw;omega):P:=h
theorem mB{P:Prop}(h:P:=by rw[e];simp[AL]):P:=h
theorem mC{P:Prop}(h:P:=by cases c<;>rfl):P:=h
theorem mD{P:Prop}(h:P:=by simp[vo,J0]):P:=h
theorem mE{P:Prop}(h:P:=by rw[hk];rfl):P:=h
theorem mF{P:Prop}(h:P:=by simp[t0]):P:=h
theorem mG{P:Prop}(h:P:=by simpa using hix (t.index,bl) (by rw[hv];simp[h])):P:=h
theorem mH{P:Prop}(h:P:=by simp[zn,V.wk,V.Ar,za,Ty.view,Tm.view,AL,Fm.view]):P:=h
theorem mI{P:Prop}(h:P:=by rw[htm];exact iL _ (fO.2 ⟨_,fA hm,rfl⟩)):P:=h
theorem mJ{P:Prop}(h:P:=by rw[hv];exact g9 _ (gh.2 ⟨_,fA hm,hp⟩)):P:=h
theorem mK{P:Prop}(h:P:=by simp[zn,V.wk,V.Ar,za,Ty.view,Tm.view,fK]):P:=h
theorem mL{P:Prop}(h:P:=by simp[zn,V.wk,V.Ar,za,Ty.view,Tm.view,e]):P:=h
theorem mM{P:Prop}(h:P:=by simp only[xx,Ty.size,Ty.sizes];omega):P:=h
theorem mN{P:Prop}(h:P:=by simpa[Ck.Ah,Ck.below] using l2):P:=h
theorem mO{P:Prop}(h:P:=by unfold Cr at he ⊢;grind):P:=h
theorem mP{P:Prop}(h:P:=by first|omega|(simp;omega)):P:=h
theorem mQ{P:Prop}(h:P:=by simpa[Ck.below] using l1):P:=h
theorem mR{P:Prop}(h:P:=by simp only[SL.len];omega):P:=h
theorem mS{P:Prop}(h:P:=by simp only at hAok;omega):P:=h
theorem mT{P:Prop}(h:P:=by simp[Ck.below];omega):P:=h
theorem mU{P:Prop}(h:P:=by simp only[up];omega):P:=h
theorem mV{P:Prop}(h:P:=by simp at h ⊢;omega):P:=h
theorem mW{P:Prop}(h:P:=by have:=hc.len;omega):P:=h
theorem mX{P:Prop}(h:P:=by simp[Fm.err,hs,hz]):P:=h
theorem mY{P:Prop}(h:P:=by simp[vw,Tm.arg,h4]):P:=h
theorem mZ{P:Prop}(h:P:=by simp[Op.operands]):P:=h
theorem m6{P:Prop}(h:P:=by rw[ig];simp;omega):P:=h
theorem m7{P:Prop}(h:P:=by rw[heq];simp_all):P:=h
theorem ng{P:Prop}(h:P:=by have:=ss.2;omega):P:=h
theorem ni{P:Prop}(h:P:=by simp[ev,AF.get]):P:=h
theorem nj{P:Prop}(h:P:=by unfold up;omega):P:=h
theorem nr{P:Prop}(h:P:=by unfold C3;grind):P:=h
theorem nv{P:Prop}(h:P:=by unfold AA;omega):P:=h
theorem nw{P:Prop}(h:P:=by unfold yl;grind):P:=h
theorem ny{P:Prop}(h:P:=by show 1<=N;omega):P:=h
theorem nA{P:Prop}(h:P:=by simpa using hm):P:=h
theorem nC{P:Prop}(h:P:=by simp[Ao.AH,fK]):P:=h
theorem nE{P:Prop}(h:P:=by simp[Ao.AH,e]):P:=h
theorem nF{P:Prop}(h:P:=by simp[SL.len]):P:=h
theorem nG{P:Prop}(h:P:=by rw[uk];omega):P:=h
theorem nH{P:Prop}(h:P:=by simp[A3,hqk]):P:=h
theorem nI{P:Prop}(h:P:=by simp[Tm.full,Tm.Ay,Ty.size,Ty.sizes,vT,zT,vv,BT,Dm,AE,CN]):P:=h
theorem nJ{P:Prop}(h:P:=by simp[zn,V.wk,V.Ar,za,Ty.view,Tm.view,e,Dk.cells]):P:=h
theorem nK{P:Prop}(h:P:=by simp[zn,V.wk,V.Ar,za,Ty.view,Tm.view,AV,Fm.view]):P:=h
theorem nL{P:Prop}(h:P:=by simp[zn,V.wk,V.Ar,za,Ty.view,Tm.view,vm,Fm.view]):P:=h
theorem nM{P:Prop}(h:P:=by simp[zn,V.wk,V.Ar,za,Ty.view,Tm.view,hre,hk1']):P:=h
theorem nN{P:Prop}(h:P:=by simp[AE,Tm.full,Tm.Ay,Ty.size,Ty.sizes];omega):P:=h
theorem nO{P:Prop}(h:P:=by simp[zn,V.wk,V.Ar,za,Ty.view,Tm.view,hre,hk]):P:=h
theorem nP{P:Prop}(h:P:=by simp[zn,V.wk,V.Ar,za,Ty.view,Tm.view,gY,iz]):P:=h
theorem nQ{P:Prop}(h:P:=by rw[htm];exact g9 _ (gh.2 ⟨_,fA hm,hp⟩)):P:=h
theorem nR{P:Prop}(h:P:=by simp[vT,Tm.full,Tm.Ay,Ty.size,Ty.sizes]):P:=h
theorem nS{P:Prop}(h:P:=by have:=hc.len;simp only at this;omega):P:=h
theorem nU{P:Prop}(h:P:=by have:=hc.nl;simp only at this;omega):P:=h
theorem nV{P:Prop}(h:P:=by have:=hc.nh;simp only at this;omega):P:=h
theorem nW{P:Prop}(h:P:=by have:=yh (hc.lems f hf).1;omega):P:=h
theorem nX{P:Prop}(h:P:=by have:=yh (hc.hyps f hf).1;omega):P:=h
theorem nY{P:Prop}(h:P:=by rw[hkd,kI];split<;>omega):P:=h
theorem nZ{P:Prop}(h:P:=by show(1:Int)≠2;decide):P:=h
theorem oa{P:Prop}(h:P:=by simp[Ao.AH,e,Dk.cells]):P:=h
theorem ob{P:Prop}(h:P:=by simp only at h0;omega):P:=h
theorem oc{P:Prop}(h:P:=by have:=Ny b 0 t;omega):P:=h
theorem od{P:Prop}(h:P:=by simp only[z6];grind):P:=h
theorem om{P:Prop}(h:P:=by simp[Ao.AH,up, *]):P:=h
theorem oo{P:Prop}(h:P:=by have:=ht.2;omega):P:=h
theorem ot{P:Prop}(h:P:=by have:=hA.2;omega):P:=h
theorem ou{P:Prop}(h:P:=by simp[Ao.AH,e,AE]):P:=h
theorem ov{P:Prop}(h:P:=by simp[Ao.AH,e,nT]):P:=h
theorem ow{P:Prop}(h:P:=by have:=Sj (Xs++p.terms.map ((BN a) v)++p.Ae.map ((BX a) (v+AN p.kind))) (Pf.Bp (BN a) (BX a) v (Aw p.kind) p.args) m (by rw[JE];exact hm);rw[Kq _ _ _ _ _ _ hm] at this;simpa only[fK] using this):P:=h
theorem oz{P:Prop}(h:P:=by have:=RH (Xs++p.terms.map ((BN a) v)) ((Pf.Bp (BN a) (BX a) v (Aw p.kind) p.args).flatten) p.Ae ((BX a) (v+AN p.kind)) m hm;simpa only[fK] using this):P:=h
theorem oC{P:Prop}(h:P:=by have:=RH Xs (p.Ae.map ((BX a) (v+AN p.kind))++(Pf.Bp (BN a) (BX a) v (Aw p.kind) p.args).flatten) p.terms ((BN a) v) m hm;simpa only[fK] using this):P:=h
theorem oD{P:Prop}(h:P:=by have h9:=(Sj X1 (Pf.Bn (C3 a) y (AA p.kind) p.args) m (by rw[JP];exact hm)).length_le;rw[KM _ _ _ _ _ hm] at h9;rw[hX1] at h9 ⊢;omega):P:=h
theorem oE{P:Prop}(h:P:=by simp only[execOp,h7,hrun,Sem.run_bind,Result.andThen_ok,Sem.run_pure,Sem.run_map]):P:=h
theorem oF{P:Prop}(h:P:=by rw[fK,Sw (fun(_:Int) (t:Tm)=>t.near) (fun(_:Int) (f:Fm)=>f.near) hm]):P:=h
theorem oG{P:Prop}(h:P:=by simp only[hsh,hn,hn',Gy Ty.shape t.args fun j hj=>hP j hj hj];simp):P:=h
theorem oH{P:Prop}(h:P:=by simp only[hsh,hd,Gy Tm.shape t.args fun j hj=>hP j hj hj];simp):P:=h
theorem oI{P:Prop}(h:P:=by rw[Tm.Ak,fD] at hs;have:=hs.1;simp[Tm.head,x9] at this;grind):P:=h
theorem oJ{P:Prop}(h:P:=by simp[Tm.full,Tm.Ay,Ty.size,Ty.sizes,vT,zT,vv,BT,Dm,AE]):P:=h
theorem oK{P:Prop}(h:P:=by simp[zn,V.wk,V.Ar,za,Ty.view,Tm.view,Pf.view,Fm.view]):P:=h
theorem oL{P:Prop}(h:P:=by simp[Tm.full,Tm.Ay,Ty.size,Ty.sizes,vT,sT,vv,Ct,Dm]):P:=h
theorem oM{P:Prop}(h:P:=by simp only[Ck.Ah,Ck.below];exact(Gt.cons c.tys).inf):P:=h
theorem oN{P:Prop}(h:P:=by simp[execOp,ho,Instr.loadAt,Instr.sureAddr,hv,h2]):P:=h
theorem oO{P:Prop}(h:P:=by simp only[xz,Pf.size,Pf.sizes,fJ,fU,fT,gu];omega):P:=h
theorem oP{P:Prop}(h:P:=by simp only[Ck.Ah,Ck.below];exact(Gt.Ob c.tys).inf):P:=h
theorem oQ{P:Prop}(h:P:=by rw[show(f0,u0,(0:Int)).1=f0 from rfl,e];simp[AL]):P:=h
theorem oR{P:Prop}(h:P:=by simp[zn,V.wk,V.Ar,za,Ty.view,Tm.view,yq,h',h0']):P:=h
theorem oS{P:Prop}(h:P:=by simp[zn,V.wk,V.Ar,za,Ty.view,Tm.view,gY,iz,h1]):P:=h
theorem oT{P:Prop}(h:P:=by intro x hx;simp[Op.operands,Call.operands,hx]):P:=h
theorem oU{P:Prop}(h:P:=by simp[Tm.full,Tm.Ay,Ty.size,Ty.sizes,vT,sT,vv]):P:=h
theorem oV{P:Prop}(h:P:=by simp[nT,Tm.full,Tm.Ay,Ty.size,Ty.sizes];omega):P:=h
theorem oW{P:Prop}(h:P:=by simp[zn,V.wk,V.Ar,za,Ty.view,Tm.view,Fm.view]):P:=h
theorem oZ{P:Prop}(h:P:=by simp[zn,V.wk,V.Ar,za,Ty.view,Tm.view,vx,this]):P:=h
theorem o7{P:Prop}(h:P:=by simp[zn,V.wk,V.Ar,za,Ty.view,Tm.view,zi,h']):P:=h
theorem o8{P:Prop}(h:P:=by rw[htm];exact g9 _ (gh.2 ⟨_,fA hm,hp'⟩)):P:=h
theorem o9{P:Prop}(h:P:=by simp[zn,V.wk,V.Ar,za,Ty.view,Tm.view,JN,h']):P:=h
theorem pg{P:Prop}(h:P:=by rw[show IA lems tys hyps=0 from WT hc];simp):P:=h
theorem pq{P:Prop}(h:P:=by first|exact trivial|exact⟨rfl,trivial⟩):P:=h
theorem pz{P:Prop}(h:P:=by simp[zn,V.wk,V.Ar,za,Ty.view,Tm.view,FO,h]):P:=h
theorem pE{P:Prop}(h:P:=by simp[Tm.full,Tm.Ay,Ty.size,Ty.sizes,vT,sT]):P:=h
theorem pF{P:Prop}(h:P:=by simp[zn,V.wk,V.Ar,za,Ty.view,Tm.view,e,AE]):P:=h
theorem pG{P:Prop}(h:P:=by simp[zn,V.wk,V.Ar,za,Ty.view,Tm.view,RD,h]):P:=h
theorem pH{P:Prop}(h:P:=by simp[zn,V.wk,V.Ar,za,Ty.view,Tm.view,htm]):P:=h
theorem pI{P:Prop}(h:P:=by simp[execOp,ho,eqGuard,hvx,hvy,binOp,he]):P:=h
theorem pJ{P:Prop}(h:P:=by simp[zn,V.wk,V.Ar,za,Ty.view,Tm.view,hv]):P:=h
theorem pK{P:Prop}(h:P:=by simp[zn,V.wk,V.Ar,za,Ty.view,Tm.view,h1]):P:=h
theorem pL{P:Prop}(h:P:=by simp[zn,V.wk,V.Ar,za,Ty.view,Tm.view,gB]):P:=h
theorem pM{P:Prop}(h:P:=by unfold Pf.Ie;rw[hnd];simp only[hty];rfl):P:=h
theorem pN{P:Prop}(h:P:=by simp[zi,Tm.full,Tm.Ay,Ty.size,Ty.sizes]):P:=h
theorem pO{P:Prop}(h:P:=by intro x hx;simpa[Op.operands] using hx):P:=h
theorem pP{P:Prop}(h:P:=by show(l[q/c.cells]?).map c.view=_;grind):P:=h
inductive Ty where
 |mk (kind:Int) (args:List Ty)
def Ty.kind:Ty->Int| .mk k _=>k
def Ty.args:Ty->List Ty| .mk _ as=>as
inductive Tm where
 |mk (kind index:Int) (ty:Ty) (args:List Tm)
def Tm.kind:Tm->Int| .mk k _ _ _=>k
def Tm.index:Tm->Int| .mk _ i _ _=>i
def Tm.ty:Tm->Ty| .mk _ _ t _=>t
def Tm.args:Tm->List Tm| .mk _ _ _ as=>as
inductive Vl where
 |mk (kind num:Int) (list:List Int) (args:List Vl)
def Vl.kind:Vl->Int| .mk k _ _ _=>k
def Vl.num:Vl->Int| .mk _ n _ _=>n
def Vl.list:Vl->List Int| .mk _ _ l _=>l
def Vl.args:Vl->List Vl| .mk _ _ _ as=>as
inductive Fm where
 |mk (kind:Int) (ty:Ty) (terms:List Tm) (args:List Fm)
def Fm.kind:Fm->Int| .mk k _ _ _=>k
def Fm.ty:Fm->Ty| .mk _ t _ _=>t
def Fm.terms:Fm->List Tm| .mk _ _ ts _=>ts
def Fm.args:Fm->List Fm| .mk _ _ _ as=>as
inductive Pf where
 |mk (kind index:Int) (ty:Ty) (terms:List Tm) (Ae:List Fm) (args:List Pf)
def Pf.kind:Pf->Int| .mk k _ _ _ _ _=>k
def Pf.index:Pf->Int| .mk _ i _ _ _ _=>i
def Pf.ty:Pf->Ty| .mk _ _ t _ _ _=>t
def Pf.terms:Pf->List Tm| .mk _ _ _ ts _ _=>ts
def Pf.Ae:Pf->List Fm| .mk _ _ _ _ fs _=>fs
def Pf.args:Pf->List Pf| .mk _ _ _ _ _ as=>as
structure Sq where
 types:List Ty
 hyps:List Fm
structure Gl where
 sq:Sq
 fm:Fm
structure St where
 kind:Int
 index:Int
 terms:List Tm
 Ae:List Fm
structure Sz where
 ty:Ty
 nodes:Int
inductive Ed where
 |mk (num:Int) (list:List Int) (pair:List Ed) (body:Tm) (env:List Ed)
def Ed.num:Ed->Int| .mk n _ _ _ _=>n
def Ed.list:Ed->List Int| .mk _ l _ _ _=>l
def Ed.pair:Ed->List Ed| .mk _ _ p _ _=>p
def Ed.body:Ed->Tm| .mk _ _ _ b _=>b
def Ed.env:Ed->List Ed| .mk _ _ _ _ e=>e
structure Tk where
 kind:Int
 num:Int
 pos:Int
 text:ByteArray
inductive EC where
 |int|u8|str|ty|tm|vl|fm|pf|gl|st|sz|tk|tys|A6|bl|rs
 deriving DecidableEq
abbrev EC.sem:EC->Type
 | .int=>Int| .u8=>Int| .str=>ByteArray| .ty=>Ty| .tm=>Tm| .vl=>Vl| .fm=>Fm| .pf=>Pf| .gl=>Gl| .st=>St| .sz=>Sz| .tk=>Tk
 | .tys=>List Ty| .A6=>List Tm| .bl=>Bool| .rs=>Ed
def EC.cells:EC->Nat
 | .int=>1| .u8=>1| .str=>1| .ty=>2| .tm=>5| .vl=>4| .fm=>5| .pf=>7| .gl=>7| .st=>4| .sz=>3| .tk=>4
 | .tys=>1| .A6=>1| .bl=>1| .rs=>9
inductive Sp where
 |any|full|nil|own (r:Nat)
inductive SL (V:Type) where
 |t (c:EC) (xs:List c.sem)
 |u (sz:Nat) (xs:List (List V))
inductive V where
 |int (k:IntKind) (n:Int)
 |bool (b:Bool)
 |str (s:ByteArray)
 |agg (cs:List V)
 |AP (vs:List V)
 |nil
 |slice (sp:Sp) (l:SL V)
 |addr (cs:List V)
 |ptr (n off:Nat)
 |arr (n len sz:Nat)
 |mp (n:Nat)
 |nilp
 |fn (f:Fn) (fi caps:List V)
 |nilf
 |raw (v:Value)
 |ifc (t:TypeId) (cs:List V)
instance:Inhabited V:=⟨.nilf⟩
abbrev V.i(n:Int):V:= .int .i64 n
abbrev V.s(c:EC)(xs:List c.sem):V:= .slice .any (.t c xs)
def Ty.view(t:Ty):List V:=[.i t.kind,.s .ty t.args]
def Tm.view(t:Tm):List V:=[.i t.kind,.i t.index,.i t.ty.kind,.s .ty t.ty.args,.s .tm t.args]
def Vl.view(v:Vl):List V:=[.i v.kind,.i v.num,.s .int v.list,.s .vl v.args]
def Fm.view(f:Fm):List V:=[.i f.kind,.i f.ty.kind,.s .ty f.ty.args,.s .tm f.terms,.s .fm f.args]
def Pf.view(p:Pf):List V:=[.i p.kind,.i p.index,.i p.ty.kind,.s .ty p.ty.args,.s .tm p.terms,.s .fm p.Ae,.s .pf p.args]
def Gl.view(g:Gl):List V:=[.s .ty g.sq.types,.s .fm g.sq.hyps,.i g.fm.kind,.i g.fm.ty.kind,.s .ty g.fm.ty.args,.s .tm g.fm.terms,.s .fm g.fm.args]
def St.view(s:St):List V:=[.i s.kind,.i s.index,.s .tm s.terms,.s .fm s.Ae]
def Sz.view(s:Sz):List V:=[.i s.ty.kind,.s .ty s.ty.args,.i s.nodes]
def Tk.view(t:Tk):List V:=[.i t.kind,.i t.num,.i t.pos,.str t.text]
def Ed.view(r:Ed):List V:=[.i r.num,.s .int r.list,.s .rs r.pair,.i r.body.kind,.i r.body.index,.i r.body.ty.kind,.s .ty r.body.ty.args,.s .tm r.body.args,.s .rs r.env]
def EC.view:(c:EC)->c.sem->List V
 | .int,n=>[.i n]| .u8,n=>[.int .u8 n]| .str,s=>[.str s]| .ty,t=>Ty.view t| .tm,t=>Tm.view t| .vl,v=>Vl.view v| .fm,f=>Fm.view f| .pf,p=>Pf.view p
 | .gl,g=>Gl.view g| .st,s=>St.view s| .sz,s=>Sz.view s| .tk,t=>Tk.view t
 | .tys,l=>[.s .ty l]| .A6,l=>[.s .tm l]| .bl,b=>[.bool b]| .rs,r=>Ed.view r
theorem EC.Bk(c:EC)(x:c.sem):(c.view x).length=c.cells:=mC
def HI(c:EC)(x:c.sem):V:=match c.view x with|[v]=>v|cs=> .agg cs
def EC.fold:(c:EC)->List V->Option c.sem
 | .int,[.int .i64 n]=>some n
 | .u8,[.int .u8 n]=>some n
 | .str,[.str s]=>some s
 | .ty,[.int .i64 k,.slice _ (.t .ty as)]=>some (Ty.mk k as)
 | .tm,[.int .i64 k,.int .i64 i,.int .i64 hk,.slice _ (.t .ty hs),.slice _ (.t .tm as)]=>some (Tm.mk k i (.mk hk hs) as)
 | .vl,[.int .i64 k,.int .i64 n,.slice _ (.t .int l),.slice _ (.t .vl as)]=>some (Vl.mk k n l as)
 | .fm,[.int .i64 k,.int .i64 hk,.slice _ (.t .ty hs),.slice _ (.t .tm ts),.slice _ (.t .fm as)]=>some (Fm.mk k (.mk hk hs) ts as)
 | .pf,[.int .i64 k,.int .i64 i,.int .i64 hk,.slice _ (.t .ty hs),.slice _ (.t .tm ts),.slice _ (.t .fm fs),.slice _ (.t .pf as)]=>some (Pf.mk k i (.mk hk hs) ts fs as)
 | .gl,[.slice _ (.t .ty ts),.slice _ (.t .fm fs),.int .i64 k,.int .i64 hk,.slice _ (.t .ty hs),.slice _ (.t .tm us),.slice _ (.t .fm as)]=>some ⟨⟨ts,fs⟩,Fm.mk k (.mk hk hs) us as⟩
 | .st,[.int .i64 k,.int .i64 i,.slice _ (.t .tm ts),.slice _ (.t .fm fs)]=>some ⟨k,i,ts,fs⟩
 | .sz,[.int .i64 k,.slice _ (.t .ty as),.int .i64 n]=>some ⟨Ty.mk k as,n⟩
 | .tk,[.int .i64 k,.int .i64 n,.int .i64 p,.str s]=>some ⟨k,n,p,s⟩
 | .tys,[.slice _ (.t .ty l)]=>some l
 | .A6,[.slice _ (.t .tm l)]=>some l
 | .bl,[.bool b]=>some b
 | .rs,[.int .i64 n,.slice _ (.t .int l),.slice _ (.t .rs ps),.int .i64 k,.int .i64 i,.int .i64 hk,.slice _ (.t .ty hs),.slice _ (.t .tm as),.slice _ (.t .rs es)]=>some (Ed.mk n l ps (Tm.mk k i (.mk hk hs) as) es)
 |_,_=>none
def V.weak:V->V
 | .slice _ l=> .slice .any l
 |v=>v
theorem EC.HK(c:EC)(cs:List V)(x:c.sem)(h:c.fold cs=some x):c.view x=cs.map V.weak:=by
 unfold EC.fold at h;split at h<;>first|(cases h;rfl)|cases h
def SL.len{V:Type}:SL V->Nat| .t _ xs=>xs.length| .u _ xs=>xs.length
def SL.cells{V:Type}:SL V->Nat| .t c _=>c.cells| .u s _=>s
def SL.get(l:SL V)(i:Nat):Option (List V):=match l with| .t c xs=>(xs[i]?).map c.view| .u _ xs=>xs[i]?
end Go.Ab
namespace Go.Ab
open Go
set_option linter.unusedSimpArgs false
set_option linter.unusedVariables false
structure Fj where
 b:Nat
 len:Nat
 cap:Nat
 sz:Nat
 off:Nat
structure Gh where
 blk:Nat->Nat
 row:Nat->Option Fj
 m:Nat->Nat
inductive A2 (m:Nat->Nat) (w:World):Value->V->Prop
 |int (k n):A2 m w (.int k n) (.int k n)
 |bool (b):A2 m w (.bool b) (.bool b)
 |str (s):A2 m w (.string s) (.str s)
 |nilS (l:SL V) (h:l.len=0):A2 m w (.slice none 0 0) (.slice .any l)
 |emp (l:SL V) (h:l.len=0) (a:Addr) (cap:Nat):A2 m w (.slice (some a) 0 cap) (.slice .any l)
 |slice (l:SL V) (b off cap:Nat) (f:Nat->Nat->Value) (hm:off+l.len*l.cells<=m b) (hcap:l.len<=cap)
  (hl:∀i,i<l.len->∃cs,l.get i=some cs/\cs.length=l.cells)
  (hc:∀i j,i<l.len->j<l.cells->w.cell? ⟨b,off+(i*l.cells+j),none⟩=some (f i j))
  (hr:∀i j cs c,i<l.len->l.get i=some cs->cs[j]? =some c->A2 m w (f i j) c):
  A2 m w (.slice (some ⟨b,off,none⟩) l.len cap) (.slice .any l)
 |ifc (t:TypeId) (vs:List Value) (cs:List V) (hl:vs.length=cs.length) (h1:∀v∈vs,v.oneCell'=true)
  (h:∀(i:Nat) v c,vs[i]? =some v->cs[i]? =some c->A2 m w v c):A2 m w (.iface t (.agg vs.toArray)) (.ifc t cs)
def Q5:Option Fj->Nat->Nat->Value->Prop
 |none,n,_,v=>(v= .slice none 0 0\/∃a,v= .slice (some a) 0 0)/\n=0
 |some ρ,n,sz,v=>v= .slice (some ⟨ρ.b,ρ.off,none⟩) ρ.len ρ.cap/\n=ρ.len/\sz=ρ.sz
inductive Aq (g:Gh) (D:Nat->Prop) (w:World):Value->V->Prop
 |data {v c} (h:A2 g.m w v c):Aq g D w v c
 |agg (vs:List Value) (cs:List V) (hl:vs.length=cs.length) (h1:∀v∈vs,v.oneCell'=true)
  (h:∀(i:Nat) v c,vs[i]? =some v->cs[i]? =some c->Aq g D w v c):Aq g D w (.agg vs.toArray) (.agg cs)
 |AP (vs:List Value) (cs:List V) (hl:vs.length=cs.length)
  (h:∀(i:Nat) v c,vs[i]? =some v->cs[i]? =some c->Aq g D w v c):Aq g D w (.tuple vs.toArray) (.AP cs)
 |nil:Aq g D w (.slice none 0 0) .nil
 |fullNil (l:SL V) (h:l.len=0):Aq g D w (.slice none 0 0) (.slice .full l)
 |nilS (l:SL V) (h:l.len=0):Aq g D w (.slice none 0 0) (.slice .nil l)
 |full (a:Addr) (n:Nat) (l:SL V) (h:A2 g.m w (.slice (some a) n n) (.slice .any l)):Aq g D w (.slice (some a) n n) (.slice .full l)
 |own (r:Nat) (hr:D r) (v:Value) (l:SL V) (h:Q5 (g.row r) l.len l.cells v) (hd:A2 g.m w v (.slice .any l)):Aq g D w v (.slice (.own r) l)
 |addr (b off:Nat) (cs:List V) (f:Nat->Value) (hm:off+cs.length<=g.m b)
  (hc:∀j,j<cs.length->w.cell? ⟨b,off+j,none⟩=some (f j)) (hr:∀(j:Nat) c,cs[j]? =some c->A2 g.m w (f j) c):
  Aq g D w (.pointer (some ⟨b,off,none⟩)) (.addr cs)
 |ptr (n off:Nat) (hn:D n):Aq g D w (.pointer (some ⟨g.blk n,off,none⟩)) (.ptr n off)
 |arr (n len sz cap:Nat) (hn:D n) (hcap:len<=cap) (hrow:g.row n=some ⟨g.blk n,0,cap,sz,0⟩):Aq g D w (.slice (some ⟨g.blk n,0,none⟩) len cap) (.arr n len sz)
 |mp (n:Nat) (hn:D n):Aq g D w (.map (some (g.blk n))) (.mp n)
 |nilp:Aq g D w (.pointer none) .nilp
 |fn (f:Fn) (fi caps:List Value) (fi' caps':List V) (hl:fi.length=fi'.length) (hl':caps.length=caps'.length)
  (h:∀(i:Nat) v c,fi[i]? =some v->fi'[i]? =some c->Aq g D w v c)
  (h':∀(i:Nat) v c,caps[i]? =some v->caps'[i]? =some c->Aq g D w v c):Aq g D w (.func f fi.toArray caps.toArray) (.fn f fi' caps')
 |nilf:Aq g D w .nilFunc .nilf
 |raw (v:Value):Aq g D w v (.raw v)
inductive A7 where
 |var (cs:List V)
 |map (c:EC) (ks:List Int) (xs:List c.sem)
 |row
 |gone
abbrev Es:=List (Nat×A7)
def zo:Es->Nat->Option A7
 |[],_=>none
 |p::l,n=>bif Nat.beq p.1 n then some p.2 else zo l n
theorem UM{n n':Nat}(h:¬n=n'):Nat.beq n n'=false:=by
 cases hb:Nat.beq n n'<;>simp_all
theorem zv(m:Nat)(e:A7)(es:Es)(n:Nat):zo ((m,e)::es) n=if m=n then some e else zo es n:=by
 show(bif Nat.beq m n then some e else zo es n)=_;simp
def A7.AD(g:Gh)(n:Nat):A7->Option Nat
 | .var _=>some (g.blk n)
 | .map _ _ _=>some (g.blk n)
 | .row=>(g.row n).map Fj.b
 | .gone=>none
def Av(g:Gh)(es:Es)(b:Nat):Prop:=∃n e,zo es n=some e/\e.AD g n=some b
def Ej(es:List MapEntry)(clock:Nat):Prop:=(∀x∈es,x.born<clock)/\(es.map (·.born)).Nodup
def GO(g:Gh)(D:Nat->Prop)(w:World)(n:Nat):A7->Prop
 | .var cs=>g.m (g.blk n)=0/\∃(vs:List Value) (t:TypeId),w.heap[g.blk n]? =some (.cells vs.toArray t (0,0))/\cs.length<=vs.length/\
  (∀v∈vs,v.oneCell'=true)/\(∀(i:Nat) v c,vs[i]? =some v->cs[i]? =some c->Aq g D w v c)/\∀ρ,g.row n=some ρ->vs.length=ρ.cap*ρ.sz
 | .map c ks xs=>g.m (g.blk n)=0/\∃(es:List MapEntry) (clock:Nat),w.heap[g.blk n]? =some (.map es.toArray clock)/\(es.length=xs.length/\Ej es clock)/\ks.length=xs.length/\
  (∀(i:Nat) e k,es[i]? =some e->ks[i]? =some k->e.key= .int .i64 k)/\∀(i:Nat) e x,es[i]? =some e->xs[i]? =some x->Aq g D w e.val (HI c x)
 | .row=>∀ρ,g.row n=some ρ->∃(cur:Array Value) (t:TypeId),w.heap[ρ.b]? =some (.cells cur t (0,0))/\cur.size=ρ.off+ρ.cap*ρ.sz/\g.m ρ.b=ρ.off+ρ.len*ρ.sz/\ρ.len<=ρ.cap
 | .gone=>True
abbrev D5:=List (Nat×List V)
structure R (G:D5) (g:Gh) (D:Nat->Prop) (es:Es) (w:World):Prop where
 lt:∀n e,zo es n=some e->D n
 Bd:∀n n' e e' b,zo es n=some e->zo es n'=some e'->e.AD g n=some b->e'.AD g n'=some b->n=n'
 Cg:∀n e,zo es n=some e->GO g D w n e
 fresh:∀b,w.heap.size<=b->g.m b=0
 FN:∀p∈G,p.2.length<=g.m p.1/\∀(j:Nat) c,p.2[j]? =some c->∃v,w.cell? ⟨p.1,j,none⟩=some v/\A2 g.m w v c
structure Ext (D:Nat->Prop) (g:Gh) (F:Nat->Prop) (w:World) (g':Gh) (F':Nat->Prop) (w':World):Prop where
 os:w'.os=w.os
 tape:w'.tape=w.tape
 output:w'.output=w.output
 size:w.heap.size<=w'.heap.size
 cells:∀b o,o<g.m b->w'.cell? ⟨b,o,none⟩=w.cell? ⟨b,o,none⟩
 mark:∀b,g.m b<=g'.m b
 blk:∀n,D n->g'.blk n=g.blk n
 row:∀n,D n->g'.row n=g.row n
 frame:∀b,b<w.heap.size->¬F b->w'.heap[b]? =w.heap[b]? /\g'.m b=g.m b
 CQ:∀b,F' b->F b\/w.heap.size<=b
theorem Ext.refl(D:Nat->Prop)(g:Gh)(F:Nat->Prop)(w:World):Ext D g F w g F w:=
 ⟨rfl,rfl,rfl,fB _,fun _ _ _=>rfl,fun _=>fB _,fun _ _=>rfl,fun _ _=>rfl,fun _ _ _=>⟨rfl,rfl⟩,fun _ h=> .inl h⟩
theorem Ext.trans{D:Nat->Prop}{g g' g'':Gh}{F F' F'':Nat->Prop}{w w' w'':World}(h:Ext D g F w g' F' w')(h':Ext D g' F' w' g'' F'' w''):Ext D g F w g'' F'' w'' where
 os:=h'.os.trans h.os
 tape:=h'.tape.trans h.tape
 output:=h'.output.trans h.output
 size:=gD h.size h'.size
 cells b o ho:=(h'.cells b o (iW ho (h.mark b))).trans (h.cells b o ho)
 mark b:=gD (h.mark b) (h'.mark b)
 blk n hn:=(h'.blk n hn).trans (h.blk n hn)
 row n hn:=(h'.row n hn).trans (h.row n hn)
 frame b hb hF:=by
  have h1:=h.frame b hb hF;have h2:=h'.frame b (iW hb h.size) (fun hm=>by
   rcases h.CQ b hm with hf|hf;all_goals grind)
  grind
 CQ b hb:=by
  rcases h'.CQ b hb with hf|hf
  .exact h.CQ b hf
  .exact .inr (gD h.size hf)
theorem Ext.mono{D D':Nat->Prop}{g g':Gh}{F F':Nat->Prop}{w w':World}(h:Ext D g F w g' F' w')(hk:∀n,D' n->D n):Ext D' g F w g' F' w':=
 {h with blk:=fun n hn=>h.blk n (hk n hn),row:=fun n hn=>h.row n (hk n hn)}
theorem Ext.wider{D:Nat->Prop}{g g':Gh}{F F' F1 F1':Nat->Prop}{w w':World}(h:Ext D g F w g' F' w')(hF:∀b,F b->F1 b)(hF':∀b,F1' b->F' b\/F1 b):Ext D g F1 w g' F1' w':=
 {h with
  frame:=fun b hb hn=>h.frame b hb (fun hm=>hn (hF b hm))
  CQ:=fun b hb=>by
   rcases hF' b hb with h1|h1
   .exact (h.CQ b h1).imp (hF b) id
   grind}
theorem OI{i n j c:Nat}(hi:i<n)(hj:j<c):i*c+j<n*c:=
 calc i*c+j<i*c+c:=kn
  _=(i+1)*c:=kr
  _<=n*c:=gX _ hi
theorem A2.mono{m m':Nat->Nat}{w w':World}{v:Value}{c:V}(h:A2 m w v c)(hm:∀b,m b<=m' b)
 (hw:∀b o,o<m b->w'.cell? ⟨b,o,none⟩=w.cell? ⟨b,o,none⟩):A2 m' w' v c:=by
 induction h with
 |int k n=>exact .int k n
 |bool b=>exact .bool b
 |str s=>exact .str s
 |nilS l h=>exact .nilS l h
 |emp l h a cap=>exact .emp l h a cap
 |slice l b off cap f hm1 hcap hl hc _ ih=>
  exact .slice l b off cap f (gD hm1 (hm b)) hcap hl
   (fun i j hi hj=>(hw b _ (by have:=OI hi hj;omega)).trans (hc i j hi hj)) ih
 |ifc t vs cs hl h1 _ ih=>exact .ifc t vs cs hl h1 ih
theorem Aq.mono{g g':Gh}{D D':Nat->Prop}{w w':World}{v:Value}{c:V}(h:Aq g D w v c)(hm:∀b,g.m b<=g'.m b)
 (hw:∀b o,o<g.m b->w'.cell? ⟨b,o,none⟩=w.cell? ⟨b,o,none⟩) (hn:∀n,D n->D' n) (hb:∀n,D n->g'.blk n=g.blk n)
 (hr:∀n,D n->g'.row n=g.row n):Aq g' D' w' v c:=by
 induction h with
 |data h=>exact .data (h.mono hm hw)
 |agg vs cs hl h1 _ ih=>exact .agg vs cs hl h1 ih
 |AP vs cs hl _ ih=>exact .AP vs cs hl ih
 |nil=>exact .nil
 |fullNil l h=>exact .fullNil l h
 |nilS l h=>exact .nilS l h
 |full a n l h=>exact .full a n l (h.mono hm hw)
 |own r hr' v l h hd=>exact .own r (hn r hr') v l kr (hd.mono hm hw)
 |addr b off cs f h1 hc h2=>
  exact .addr b off cs f (gD h1 (hm b)) (fun j hj=>(hw b _ kn).trans (hc j hj)) (fun j c hj=>(h2 j c hj).mono hm hw)
 |ptr n off h=>rw[<-hb n h];exact .ptr n off (hn n h)
 |arr n len sz cap h hc hr'=>rw[<-hb n h];exact .arr n len sz cap (hn n h) hc kr
 |mp n h=>rw[<-hb n h];exact .mp n (hn n h)
 |nilp=>exact .nilp
 |fn f fi caps fi' caps' hl hl' _ _ ih ih'=>exact .fn f fi caps fi' caps' hl hl' ih ih'
 |nilf=>exact .nilf
 |raw v=>exact .raw v
theorem Aq.ext{D D':Nat->Prop}{g g':Gh}{F F':Nat->Prop}{w w':World}{v:Value}{c:V}(h:Aq g D w v c)(e:Ext D g F w g' F' w')(hn:∀n,D n->D' n):Aq g' D' w' v c:=
 h.mono e.mark e.cells hn e.blk e.row
def Du:List (Option Nat)->Nat->Option (Option Nat)
 |[],_=>none
 |x::_,0=>some x
 |_::l,n+1=>Du l n
theorem Ic{ρ:List (Option Nat)}:∀{n x},Du ρ n=some x->n<ρ.length:=by
 induction ρ with
 |nil=>intro n x h;cases h
 |cons y l ih=>
  intro n x h;cases n with
  |zero=>simp
  |succ n=>have:=ih h;grind
def CJ(ρ:List (Option Nat))(n:Nat):Option Nat:=match Du ρ n with|some (some m)=>some m|_=>none
theorem I6{ρ:List (Option Nat)}{n m:Nat}(h:CJ ρ n=some m):Du ρ n=some (some m):=by
 unfold CJ at h;grind
mutual
def uc(ρ:List (Option Nat)):V->Option V
 | .int k n=>some (.int k n)
 | .bool b=>some (.bool b)
 | .str s=>some (.str s)
 | .agg cs=>(vn ρ cs).map .agg
 | .AP cs=>(vn ρ cs).map .AP
 | .nil=>some .nil
 | .slice sp l=>match sp with
   | .any=>some (.slice .any l)
   | .full=>some (.slice .full l)
   | .nil=>some (.slice .nil l)
   | .own r=>match Du ρ r with
     |some (some r')=>some (.slice (.own r') l)
     |some none=>some (.slice .nil l)
     |none=>none
 | .addr cs=>some (.addr cs)
 | .ptr n off=>(CJ ρ n).map fun n'=> .ptr n' off
 | .arr n len sz=>(CJ ρ n).map fun n'=> .arr n' len sz
 | .mp n=>(CJ ρ n).map .mp
 | .nilp=>some .nilp
 | .fn f fi caps=>(vn ρ fi).bind fun fi'=>(vn ρ caps).map fun caps'=> .fn f fi' caps'
 | .nilf=>some .nilf
 | .raw v=>some (.raw v)
 | .ifc t cs=>some (.ifc t cs)
def vn(ρ:List (Option Nat)):List V->Option (List V)
 |[]=>some []
 |c::cs=>(uc ρ c).bind fun c'=>(vn ρ cs).map fun cs'=>c'::cs'
end
theorem KO{w:World}{b:Nat}{vs:Array Value}{t:TypeId}{fr:Nat×Nat}(h:w.heap[b]? =some (.cells vs t fr))(j:Nat):w.cell? ⟨b,j,none⟩=vs[j]? :=
 cell_of_row w b j vs t fr h
theorem xp{ρ:List (Option Nat)}:∀{cs' cs:List V},vn ρ cs'=some cs->cs'.length=cs.length:=by
 intro cs';induction cs' with
 |nil=>intro cs h;simp[vn] at h;grind
 |cons c l ih=>
  intro cs h;simp only[vn,fL,fE] at h
  grind
theorem um{ρ:List (Option Nat)}:∀{cs' cs:List V},vn ρ cs'=some cs->∀(i:Nat) c' c,cs'[i]? =some c'->cs[i]? =some c->uc ρ c'=some c:=by
 intro cs';induction cs' with
 |nil=>simp
 |cons x l ih=>
  intro cs h i c' c h1 h2;simp only[vn,fL,fE] at h
  grind
theorem Az{α β:Type}{l:List α}{l':List β}(h:l.length=l'.length){i:Nat}{x:α}(hx:l[i]? =some x):∃y,l'[i]? =some y:=by
 have:=(fZ.1 hx).1;simp_all
theorem Xq{ρ:List (Option Nat)}{sp:Sp}{l:SL V}{c:V}(h:uc ρ (.slice sp l)=some c):
 (sp= .any/\c= .slice .any l)\/(sp= .full/\c= .slice .full l)\/(sp= .nil/\c= .slice .nil l)\/
 (∃r r',sp= .own r/\Du ρ r=some (some r')/\c= .slice (.own r') l)\/(∃r,sp= .own r/\Du ρ r=some none/\c= .slice .nil l):=by
 cases sp with
 |any=>simp only[uc,fI] at h;grind
 |full=>simp only[uc,fI] at h;grind
 |nil=>simp only[uc,fI] at h;grind
 |own r=>
  simp only[uc] at h
  grind
theorem Aq.G1{ρ:List (Option Nat)}{g g2:Gh}{D:Nat->Prop}{w:World}{v:Value}{c:V}(h:Aq g D w v c)(hm:g2.m=g.m)
 (hb:∀n n',CJ ρ n=some n'->g2.blk n=g.blk n') (hr:∀n n',CJ ρ n=some n'->g2.row n=g.row n') (hn:∀n,Du ρ n=some none->g2.row n=none):
 ∀c',uc ρ c'=some c->Aq g2 (·<ρ.length) w v c':=by
 have hlt:∀{n n'},CJ ρ n=some n'->n<ρ.length:=fun {n n'} h=>Ic (I6 h);have hs:∀{v c},Aq g D w v c->∀sp l,uc ρ (.slice sp l)=some c->Aq g2 (·<ρ.length) w v (.slice sp l):=by
  intro v c h sp l hc;rcases Xq hc with⟨rfl,rfl⟩|⟨rfl,rfl⟩|⟨rfl,rfl⟩|⟨r,r',rfl,h2,rfl⟩|⟨r,rfl,h2,rfl⟩
  .cases h with|data h=>exact .data (hm▸h)
  .cases h with
   |data h=>cases h
   |fullNil _ h=>exact .fullNil _ h
   |full a n _ h=>exact .full a n _ (hm▸h)
  .cases h with
   |data h=>cases h
   |nilS _ h=>exact .nilS _ h
  .cases h with
   |data h=>cases h
   |own _ hr' _ _ h hd=>
    refine Aq.own (D:=fun x=>x<ρ.length) r (Ic h2) v _ ?_ (hm▸hd);rw[hr r r' (by simp[CJ,h2])];exact h
  .cases h with
   |data h=>cases h
   |nilS _ h=>
    refine Aq.own (D:=fun x=>x<ρ.length) r (Ic h2) _ _ ?_ (.nilS _ h);rw[hn r h2];exact⟨.inl rfl,h⟩
 induction h with
 |data h=>
  intro c' hc;have hd:=h;cases h<;>cases c';all_goals first
   |exact hs (.data hd) _ _ hc
   |(simp only[uc,fE,fL,fI,reduceCtorEq,and_false,exists_false,exists_const,false_and] at hc;done)
   |(simp only[uc,fE,fL,fI,reduceCtorEq,and_false,exists_false,exists_const,false_and] at hc;cases hc;exact .data (hm▸hd))
 |agg vs cs hl h1 h ih=>
  intro c' hc;cases c';case slice sp l'=>exact hs (.agg vs cs hl h1 h) sp l' hc
  all_goals simp only[uc,fE,fL,fI,reduceCtorEq,and_false,exists_false,exists_const,false_and,V.agg.injEq,exists_eq_right] at hc
  case agg cs'=>
   have hll:=xp hc;refine .agg vs cs' kn h1 fun i v c' hv hc'=> ?_;obtain⟨y,hy⟩:=Az hll hc';exact ih i v y hv hy c' (um hc i c' y hc' hy)
 |AP vs cs hl h ih=>
  intro c' hc;cases c';case slice sp l'=>exact hs (.AP vs cs hl h) sp l' hc
  all_goals simp only[uc,fE,fL,fI,reduceCtorEq,and_false,exists_false,exists_const,false_and,V.AP.injEq,exists_eq_right] at hc
  case AP cs'=>
   have hll:=xp hc;refine .AP vs cs' kn fun i v c' hv hc'=> ?_;obtain⟨y,hy⟩:=Az hll hc';exact ih i v y hv hy c' (um hc i c' y hc' hy)
 |nil=>
  intro c' hc;cases c';case slice sp l'=>exact hs (.nil) sp l' hc
  all_goals simp only[uc,fE,fL,fI,reduceCtorEq,and_false,exists_false,exists_const,false_and] at hc
  case nil=>exact .nil
 |fullNil l h=>
  intro c' hc;cases c';case slice sp l'=>exact hs (.fullNil l h) sp l' hc
  all_goals simp only[uc,fE,fL,fI,reduceCtorEq,and_false,exists_false,exists_const,false_and] at hc
 |nilS l h=>
  intro c' hc;cases c';case slice sp l'=>exact hs (.nilS l h) sp l' hc
  all_goals simp only[uc,fE,fL,fI,reduceCtorEq,and_false,exists_false,exists_const,false_and] at hc
 |full a n l h=>
  intro c' hc;cases c';case slice sp l'=>exact hs (.full a n l h) sp l' hc
  all_goals simp only[uc,fE,fL,fI,reduceCtorEq,and_false,exists_false,exists_const,false_and] at hc
 |own r hr' v l h hd=>
  intro c' hc;cases c';case slice sp l'=>exact hs (Aq.own r hr' v l h hd) sp l' hc
  all_goals simp only[uc,fE,fL,fI,reduceCtorEq,and_false,exists_false,exists_const,false_and] at hc
 |addr b off cs f h1 hc1 h2=>
  intro c' hc;cases c';case slice sp l'=>exact hs (.addr b off cs f h1 hc1 h2) sp l' hc
  all_goals simp only[uc,fE,fL,fI,reduceCtorEq,and_false,exists_false,exists_const,false_and,V.addr.injEq] at hc
  case addr cs'=>subst hc;exact .addr b off cs' f kr hc1 (fun j c hj=>kr)
 |ptr n off hn=>
  intro c' hc;cases c';case slice sp l'=>exact hs (.ptr n off hn) sp l' hc
  all_goals simp only[uc,fE,fL,fI,reduceCtorEq,and_false,exists_false,exists_const,false_and,V.ptr.injEq] at hc
  case ptr n' off'=>
   obtain⟨x,hx,rfl,rfl⟩:=hc;rw[<-hb _ _ hx];exact .ptr _ _ (hlt hx)
 |arr n len sz cap hn hcap hrw=>
  intro c' hc;cases c';case slice sp l'=>exact hs (.arr n len sz cap hn hcap hrw) sp l' hc
  all_goals simp only[uc,fE,fL,fI,reduceCtorEq,and_false,exists_false,exists_const,false_and,V.arr.injEq] at hc
  case arr n' len' sz'=>
   obtain⟨x,hx,rfl,rfl,rfl⟩:=hc;rw[<-hb _ _ hx];exact .arr _ _ _ _ (hlt hx) hcap kr
 |mp n hn=>
  intro c' hc;cases c';case slice sp l'=>exact hs (.mp n hn) sp l' hc
  all_goals simp only[uc,fE,fL,fI,reduceCtorEq,and_false,exists_false,exists_const,false_and,V.mp.injEq] at hc
  case mp n'=>
   obtain⟨x,hx,rfl⟩:=hc;rw[<-hb _ _ hx];exact .mp _ (hlt hx)
 |nilp=>
  intro c' hc;cases c';case slice sp l'=>exact hs (.nilp) sp l' hc
  all_goals simp only[uc,fE,fL,fI,reduceCtorEq,and_false,exists_false,exists_const,false_and] at hc
  case nilp=>exact .nilp
 |fn f fi caps fi' caps' hl hl' h h' ih ih'=>
  intro c' hc;cases c';case slice sp l'=>exact hs (Aq.fn f fi caps fi' caps' hl hl' h h') sp l' hc
  all_goals simp only[uc,fE,fL,fI,reduceCtorEq,and_false,exists_false,exists_const,false_and,V.fn.injEq] at hc
  case fn f1 fi1 caps1=>
   obtain⟨x,hx,y,hy,rfl,rfl,rfl⟩:=hc;have l1:=xp hx;have l2:=xp hy;refine .fn f1 fi caps fi1 caps1 kn kn (fun i v c' hv hc'=> ?_) (fun i v c' hv hc'=> ?_)
   .obtain ⟨z,hz⟩:=Az l1 hc';exact ih i v z hv hz c' (um hx i c' z hc' hz)
   .obtain ⟨z,hz⟩:=Az l2 hc';exact ih' i v z hv hz c' (um hy i c' z hc' hz)
 |nilf=>
  intro c' hc;cases c';case slice sp l'=>exact hs (.nilf) sp l' hc
  all_goals simp only[uc,fE,fL,fI,reduceCtorEq,and_false,exists_false,exists_const,false_and] at hc
  case nilf=>exact .nilf
 |raw v=>
  intro c' hc;cases c';case slice sp l'=>exact hs (.raw v) sp l' hc
  all_goals simp only[uc,fE,fL,fI,reduceCtorEq,and_false,exists_false,exists_const,false_and,V.raw.injEq] at hc
  case raw v'=>subst hc;exact .raw _
theorem Aq.M8{ρ:List (Option Nat)}{g g2:Gh}{D D2:Nat->Prop}{w:World}{v:Value}{c':V}(h:Aq g2 D2 w v c')(hm:g2.m=g.m)
 (hb:∀n n',CJ ρ n=some n'->g2.blk n=g.blk n'/\D n') (hr:∀n n',CJ ρ n=some n'->g2.row n=g.row n') (hall:∀n,Du ρ n≠some none):
 ∀c,uc ρ c'=some c->Aq g D w v c:=by
 induction h with
 |data h=>
  intro c hc;have hd:=h;cases h<;>simp only[uc,fI] at hc<;>subst hc<;>exact .data (hm▸hd)
 |agg vs cs hl h1 _ ih=>
  intro c hc;simp only[uc,fE] at hc;obtain⟨cs2,hc,rfl⟩:=hc;have hll:=xp hc;refine .agg vs cs2 kn h1 fun i v c hv hc'=> ?_;obtain⟨y,hy⟩:=Az hll.symm hc';exact ih i v y hv hy c (um hc i y c hy hc')
 |AP vs cs hl _ ih=>
  intro c hc;simp only[uc,fE] at hc;obtain⟨cs2,hc,rfl⟩:=hc;have hll:=xp hc;refine .AP vs cs2 kn fun i v c hv hc'=> ?_;obtain⟨y,hy⟩:=Az hll.symm hc';exact ih i v y hv hy c (um hc i y c hy hc')
 |nil=>intro c hc;simp only[uc,fI] at hc;subst hc;exact .nil
 |fullNil l h=>intro c hc;simp only[uc,fI] at hc;subst hc;exact .fullNil l h
 |nilS l h=>intro c hc;simp only[uc,fI] at hc;subst hc;exact .nilS l h
 |full a n l h=>intro c hc;simp only[uc,fI] at hc;subst hc;exact .full a n l (hm▸h)
 |own r hr' v l h hd=>
  intro c hc;rcases Xq hc with⟨h1,_⟩|⟨h1,_⟩|⟨h1,_⟩|⟨r1,r',h1,h2,rfl⟩|⟨r1,h1,h2,rfl⟩
  .cases h1
  .cases h1
  .cases h1
  .cases h1;have hx:CJ ρ r=some r':=by simp[CJ,h2]
   exact .own _ (hb _ _ hx).2 v l kr (hm▸hd)
  grind
 |addr b off cs f h1 hc1 h2=>
  intro c hc;simp only[uc,fI] at hc;subst hc;exact .addr b off cs f kr hc1 (fun j c hj=>kr)
 |ptr n off hn=>
  intro c hc;simp only[uc,fE] at hc;obtain⟨x,hx,rfl⟩:=hc;rw[(hb _ _ hx).1];exact .ptr _ _ (hb _ _ hx).2
 |arr n len sz cap hn hcap hrw=>
  intro c hc;simp only[uc,fE] at hc;obtain⟨x,hx,rfl⟩:=hc;rw[(hb _ _ hx).1];exact .arr _ _ _ _ (hb _ _ hx).2 hcap kr
 |mp n hn=>
  intro c hc;simp only[uc,fE] at hc;obtain⟨x,hx,rfl⟩:=hc;rw[(hb _ _ hx).1];exact .mp _ (hb _ _ hx).2
 |nilp=>intro c hc;simp only[uc,fI] at hc;subst hc;exact .nilp
 |fn f fi caps fi' caps' hl hl' _ _ ih ih'=>
  intro c hc;simp only[uc,fL,fE] at hc;obtain⟨x,hx,y,hy,rfl⟩:=hc;have l1:=xp hx;have l2:=xp hy;refine .fn f fi caps x y kn kn (fun i v c hv hc'=> ?_) (fun i v c hv hc'=> ?_)
  .obtain ⟨z,hz⟩:=Az l1.symm hc';exact ih i v z hv hz c (um hx i z c hz hc')
  .obtain ⟨z,hz⟩:=Az l2.symm hc';exact ih' i v z hv hz c (um hy i z c hz hc')
 |nilf=>intro c hc;simp only[uc,fI] at hc;subst hc;exact .nilf
 |raw v=>intro c hc;simp only[uc,fI] at hc;subst hc;exact .raw _
abbrev AF:=List (Nat×V)
def AF.get:AF->Nat->Option V
 |[],_=>none
 |p::l,n=>bif Nat.beq p.1 n then some p.2 else AF.get l n
def AF.put(a:AF)(d:Option Nat)(v:V):AF:=match d with|some d=>(d,v)::a|none=>a
theorem AF.Bf(m:Nat)(e:V)(es:AF)(n:Nat):AF.get ((m,e)::es) n=if m=n then some e else AF.get es n:=by
 show(bif Nat.beq m n then some e else AF.get es n)=_;simp
inductive TD where
 |int (k:IntKind)|bool|str|other
 |strct (fs:List (Nat×Nat×Bool))
 |arr (n esz:Nat) (eagg:Bool)
 |slc (c:Option EC) (esz bytes:Nat)
structure TI where
 size:Nat
 zero:List V
 desc:TD
def MD:List Value->List V->Bool
 |[],[]=>true
 |v::vs,c::cs=>(match v,c with
  | .int k n,.int k' n'=>decide (k=k')&&decide (n=n')
  | .bool b,.bool b'=>decide (b=b')
  | .string s,.str s'=>decide (s=s')
  | .slice none 0 0,.slice .nil l=>Nat.beq l.len 0
  | .pointer none,.nilp=>true
  | .nilFunc,.nilf=>true
  | .map none,.raw (.map none)=>true
  | .nilIface,.raw .nilIface=>true
  |_,_=>false)&&MD vs cs
 |_,_=>false
def PW(P:Program)(t:TypeId):Option Bool:=
 match P.underlying t with
 |some (.struct _)|some (.array _ _)=>some true
 |some _=>some false
 |none=>none
def MN(P:Program)(t:TypeId)(n:Nat):Bool:=match P.info? t with|some i=>Nat.beq i.size n|none=>false
def Jm(P:Program):List Field->List (Nat×Nat×Bool)->Bool
 |[],[]=>true
 |f::fs,g::gs=>Nat.beq f.offset g.1&&MN P f.type g.2.1&&Nat.blt 0 g.2.1&&(match PW P f.type with|some b=>decide (b=g.2.2)|none=>false)&&Jm P fs gs
 |_,_=>false
def Vj(P:Program)(e:TypeId)(esz bytes:Nat):Bool:=
 match P.info? e with
 |some i=>Nat.beq i.size esz&&Nat.beq i.bytes bytes&&(match i.zero with|some z=>Nat.beq z.cells.size esz|none=>false)
 |none=>false
def Og(c:Option EC)(sz:Nat):Bool:=match c with|some c=>Nat.beq c.cells sz|none=>true
def PX(P:Program)(t:TypeId)(i:TI):Bool:=
 (match P.info? t with
  |some inf=>Nat.beq inf.size i.size&&(match inf.zero with|some z=>MD z.cells.toList i.zero|none=>false)
  |none=>false)&&
 (match P.underlying t,i.desc with
  |some (.int k),.int k'=>decide (k=k')
  |some .bool,.bool=>true
  |some .string,.str=>true
  |some (.struct fs),.strct gs=>Jm P fs.toList gs
  |some (.array n e),.arr n' esz eagg=>Nat.beq n n'&&MN P e esz&&Nat.blt 0 esz&&(match PW P e with|some b=>decide (b=eagg)|none=>false)
  |some (.slice e),.slc c esz bytes=>Vj P e esz bytes&&Nat.blt 0 esz&&Og c esz
  |some d,.other=>(match d with| .struct _| .array _ _| .slice _=>false|_=>true)
  |_,_=>false)
def Qt:List (TypeId×TI)->TypeId->Option TI
 |[],_=>none
 |p::l,t=>bif Nat.beq p.1 t then some p.2 else Qt l t
abbrev Ys:=List (Nat×Nat×List V)
def ET(y:Ys)(g:Gh)(F:Nat->Prop)(w:World):Prop:=
 ∀p∈y,g.m p.1=0/\¬F p.1/\∃(vs:List Value) (t:TypeId),w.heap[p.1]? =some (.cells vs.toArray t (0,0))/\vs.length=p.2.1/\p.2.2.length<=p.2.1/\(∀v∈vs,v.oneCell'=true)/\
  ∀(i:Nat) v c,vs[i]? =some v->p.2.2[i]? =some c->Aq g (fun _=>False) w v c
theorem ET.ext{y:Ys}{D:Nat->Prop}{g g':Gh}{F F':Nat->Prop}{w w':World}(h:ET y g F w)(x:Ext D g F w g' F' w'):ET y g' F' w':=by
 intro p hp;obtain⟨h1,h2,vs,t,h3,h4,h4',h5,h6⟩:=h p hp;have hb:p.1<w.heap.size:=(g8.1 h3).1;obtain⟨h7,h8⟩:=x.frame p.1 hb h2;refine⟨h8.trans h1,fun hf=> ?_,vs,t,h7.trans h3,h4,h4',h5,fun i v c hv hc=>(h6 i v c hv hc).mono x.mark x.cells (fun _ h=>h) (fun _ h=>h.elim) (fun _ h=>h.elim)⟩;rcases x.CQ _ hf with h9|h9;all_goals grind
theorem ET.nil{g:Gh}{F:Nat->Prop}{w:World}:ET [] g F w:=fun _ h=>kM
structure Env where
 P:Program
 G:D5
 PN:List (TypeId×TI)
 ok:PN.all (fun p=>PX P p.1 p.2)=true
 Y:Ys
theorem ET.none{y:Ys}(hy:y=[]){g:Gh}{F:Nat->Prop}{w:World}:ET y g F w:=hy▸ .nil
def Env.ti(E:Env)(t:TypeId):Option TI:=Qt E.PN t
theorem Ydg{l:List (TypeId×TI)}{t:TypeId}{i:TI}(h:Qt l t=some i):(t,i)∈l:=by
 induction l with
 |nil=>cases h
 |cons p l ih=>
  simp only[Qt] at h;cases hb:Nat.beq p.1 t<;>simp_all<;>grind
theorem Env.KZ{E:Env}{t:TypeId}{i:TI}(h:E.ti t=some i):PX E.P t i=true:=
 fF.1 E.ok _ (Ydg h)
def za(E:Env)(T:TypeId):Value->V
 | .int k n=> .int k n
 | .bool b=> .bool b
 | .string s=> .str s
 | .slice none 0 0=>match E.ti T with
   |some ⟨_,_,.slc (some c) _ _⟩=> .slice .nil (.t c [])
   |some ⟨_,_,.slc none sz _⟩=> .slice .nil (.u sz [])
   |_=> .nil
 | .pointer none=> .nilp
 | .nilFunc=> .nilf
 |v=> .raw v
def P7:D5->Nat->Option (List V)
 |[],_=>none
 |p::l,n=>bif Nat.beq p.1 n then some p.2 else P7 l n
def ev(E:Env)(T:TypeId)(a:AF):Operand->Option V
 | .tmp t=>a.get t
 | .const v=>some (za E T v)
 | .global n=>(P7 E.G n).map .addr
 | .func f=>some (.fn (.func f) [] [])
structure Bi (g:Gh) (D:Nat->Prop) (w:World) (N:Nat) (act:Act) (a:AF):Prop where
 size:act.tmps.size=N
 defers:act.defers=[]
 vals:∀t c,a.get t=some c->∃v,act.tmps[t]? =some v/\Aq g D w v c
theorem Bi.ext{D D':Nat->Prop}{g g':Gh}{F F':Nat->Prop}{w w':World}{N:Nat}{act:Act}{a:AF}(h:Bi g D w N act a)(e:Ext D g F w g' F' w')(hn:∀n,D n->D' n):Bi g' D' w' N act a:=
 ⟨h.size,h.defers,fun t c hc=>let ⟨v,h1,h2⟩:=h.vals t c hc;⟨v,h1,h2.ext e hn⟩⟩
theorem Bi.put{g:Gh}{D:Nat->Prop}{w:World}{N:Nat}{act:Act}{a:AF}(h:Bi g D w N act a){d:Option Nat}(hd:∀t,d=some t->t<N){v:Value}{c:V}(hv:Aq g D w v c):
 Bi g D w N (act.put d v) (a.put d c):=by
 cases d with
 |none=>exact h
 |some d=>
  have hd:=hd d rfl;refine⟨by simp[Act.put,h.size],h.defers,fun t c' hc=> ?_⟩;simp only[AF.put,AF.Bf] at hc;by_cases ht:d=t
  .subst ht;simp only[if_true,fI] at hc;subst hc;refine⟨v,?_,hv⟩;simp[Act.put,gU,h.size,hd]
  .simp only[ht,if_false] at hc;obtain⟨v',h1,h2⟩:=h.vals t c' hc;exact⟨v',by simp[Act.put,gU,ht,h1],h2⟩
theorem Zyx(E:Env)(T:TypeId)(v:Value)(g:Gh)(D:Nat->Prop)(w:World):Aq g D w v (za E T v):=by
 unfold za;split
 .exact .data (.int _ _)
 .exact .data (.bool _)
 .exact .data (.str _)
 .split
  .exact .nilS _ rfl
  .exact .nilS _ rfl
  .exact .nil
 .exact .nilp
 .exact .nilf
 .exact .raw _
theorem Yb7{l:D5}{t:Nat}{i:List V}(h:P7 l t=some i):(t,i)∈l:=by
 induction l with
 |nil=>cases h
 |cons p l ih=>
  simp only[P7] at h;cases hb:Nat.beq p.1 t<;>simp_all<;>grind
theorem yk{E:Env}{T:TypeId}{a:AF}{x:Operand}{c:V}(h:ev E T a x=some c){g:Gh}{D:Nat->Prop}{es:Es}{w:World}{N:Nat}{act:Act}
 (hR:R E.G g D es w) (hF:Bi g D w N act a):Aq g D w (act.eval x) c:=by
 cases x with
 |tmp t=>
  obtain⟨v,h1,h2⟩:=hF.vals t c h;have:act.eval (.tmp t)=v:=by simp[Act.eval,gv,h1]
  grind
 |const v=>cases h;exact Zyx ..
 |global n=>
  simp only[ev,fE] at h;obtain⟨cs,h1,rfl⟩:=h;obtain⟨h2,h3⟩:=hR.FN _ (Yb7 h1);have h4:∀j,∃v,∀c,cs[j]? =some c->w.cell? ⟨n,j,none⟩=some v/\A2 g.m w v c:=by
   intro j;cases hj:cs[j]?<;>simp_all
  obtain⟨f,hf⟩:=Classical.axiomOfChoice h4;refine .addr n 0 cs f kr (fun j hj=> ?_) (fun j c hj=>(hf j c hj).2);simp_all
 |func f=>cases h;exact .fn (.func f) [] [] [] [] rfl rfl (fun i v c h=>ko) (fun i v c h=>ko)
structure Ao where
 nx:Nat
 es:Es
def Post(E:Env)(N k:Nat)(g:Gh)(F:Nat->Prop)(w:World)(Q:Exit->AF->Ao->Prop)(e:Exit)(act':Act)(w':World):Prop:=
 ∃g' a' σ',Q e a' σ'/\k<=σ'.nx/\R E.G g' (·<σ'.nx) σ'.es w'/\Bi g' (·<σ'.nx) w' N act' a'/\Ext (·<k) g F w g' (Av g' σ'.es) w'
structure AW (E:Env) (N k:Nat) (c:Code) (a:AF) (σ:Ao) (Q:Exit->AF->Ao->Prop):Prop where
 run:k<=σ.nx->∀g w act,R E.G g (·<σ.nx) σ.es w->Bi g (·<σ.nx) w N act a->ET E.Y g (Av g σ.es) w->c.wp E.P (Post E N k g (Av g σ.es) w Q) act w
def J6(E:Env)(N k:Nat)(y:Code)(Q:Exit->AF->Ao->Prop):Exit->AF->Ao->Prop
 | .normal,a,σ=>AW E N k y a σ Q
 |e,a,σ=>Q e a σ
def uq(id:Nat)(Q:Exit->AF->Ao->Prop):Exit->AF->Ao->Prop
 | .exit id',a,σ=>bif Nat.beq id' id then Q .normal a σ else Q (.exit id') a σ
 |e,a,σ=>Q e a σ
section
variable {E:Env} {N k:Nat} {a:AF} {σ:Ao} {Q:Exit->AF->Ao->Prop}
theorem Post.later{g g':Gh}{F F':Nat->Prop}{w w':World}{e:Exit}{act:Act}{w'':World}(h:Post E N k g' F' w' Q e act w'')(x:Ext (·<k) g F w g' F' w'):Post E N k g F w Q e act w'':=
 let ⟨g2,a2,σ2,h1,h2,h3,h4,h5⟩:=h;⟨g2,a2,σ2,h1,h2,h3,h4,x.trans h5⟩
theorem AW.seq{x y:Code}(h:AW E N k x a σ (J6 E N k y Q)):AW E N k (.seq x y) a σ Q:=by
 constructor;intro hk g w act hR hF hY;refine wp_seq (wp_mono (h.run hk g w act hR hF hY) ?_);rintro e act1 w1 ⟨g1,a1,σ1,hq,hk1,hR1,hF1,hx⟩;cases e with
 |normal=>exact wp_mono (AW.run hq hk1 g1 w1 act1 hR1 hF1 (hY.ext hx)) (fun e act2 w2 hp=>hp.later hx)
 |exit id=>exact⟨g1,a1,σ1,hq,hk1,hR1,hF1,hx⟩
 |goto l=>exact⟨g1,a1,σ1,hq,hk1,hR1,hF1,hx⟩
 |ret=>exact⟨g1,a1,σ1,hq,hk1,hR1,hF1,hx⟩
 |panic ch=>exact⟨g1,a1,σ1,hq,hk1,hR1,hF1,hx⟩
 |outgrown=>exact⟨g1,a1,σ1,hq,hk1,hR1,hF1,hx⟩
theorem AW.mono{c:Code}{Q':Exit->AF->Ao->Prop}(h:AW E N k c a σ Q)(hq:∀e a σ,Q e a σ->Q' e a σ):AW E N k c a σ Q':=by
 constructor;intro hk g w act hR hF hY;refine wp_mono (h.run hk g w act hR hF hY) ?_;rintro e act1 w1 ⟨g1,a1,σ1,h1,h2⟩;exact⟨g1,a1,σ1,hq _ _ _ h1,h2⟩
theorem AW.skip(h:Q .normal a σ):AW E N k .skip a σ Q:=
 ⟨fun hk g w act hR hF hY=>wp_skip ⟨g,a,σ,h,hk,hR,hF,.refl ..⟩⟩
theorem AW.ret(h:Q .ret a σ):AW E N k .ret a σ Q:=
 ⟨fun hk g w act hR hF hY=>wp_ret ⟨g,a,σ,h,hk,hR,hF,.refl ..⟩⟩
theorem AW.exit{id:Nat}(h:Q (.exit id) a σ):AW E N k (.exit id) a σ Q:=
 ⟨fun hk g w act hR hF hY=>wp_exit ⟨g,a,σ,h,hk,hR,hF,.refl ..⟩⟩
theorem AW.block{id:Nat}{c:Code}(h:AW E N k c a σ (uq id Q)):AW E N k (.block id c) a σ Q:=by
 constructor;intro hk g w act hR hF hY;refine wp_block (wp_mono (h.run hk g w act hR hF hY) ?_);rintro e act1 w1 ⟨g1,a1,σ1,hq,h2⟩;cases e with
 |exit id'=>
  simp only[Exit.inBlock];by_cases hi:id'=id
  .subst hi;simp only[uq,jC,cond_true] at hq;rw[if_pos rfl];exact⟨g1,a1,σ1,hq,h2⟩
  .simp only[uq,UM hi,cond_false] at hq;rw[if_neg hi];exact⟨g1,a1,σ1,hq,h2⟩
 |normal=>exact⟨g1,a1,σ1,hq,h2⟩
 |goto l=>exact⟨g1,a1,σ1,hq,h2⟩
 |ret=>exact⟨g1,a1,σ1,hq,h2⟩
 |panic ch=>exact⟨g1,a1,σ1,hq,h2⟩
 |outgrown=>exact⟨g1,a1,σ1,hq,h2⟩
theorem AW.cond{c:Operand}{x y:Code}{b:Bool}(hc:ev E 0 a c=some (.bool b))(ht:b=true->AW E N k x a σ Q)(hf:b=false->AW E N k y a σ Q):AW E N k (.cond c x y) a σ Q:=by
 constructor;intro hk g w act hR hF hY;have hv:=yk hc hR hF;have hb:act.eval c= .bool b:=by
  generalize act.eval c=v at hv;cases hv with
  |data h=>cases h;rfl
 exact wp_cond_split hb (fun h=>(ht h).run hk g w act hR hF hY) (fun h=>(hf h).run hk g w act hR hF hY)
theorem AW.Cn{c:Operand}{x y:Code}(hc:ev E 0 a c=some (.bool true))(ht:AW E N k x a σ Q):AW E N k (.cond c x y) a σ Q:=
 .cond hc (fun _=>ht) (fun h=>kM)
theorem AW.Cp{c:Operand}{x y:Code}(hc:ev E 0 a c=some (.bool false))(hf:AW E N k y a σ Q):AW E N k (.cond c x y) a σ Q:=
 .cond hc (fun h=>kM) (fun _=>hf)
def Bg(E:Env)(N k:Nat)(a:AF)(σ:Ao)(a2:AF)(σ2:Ao):Prop:=
 k<=σ.nx->k<=σ2.nx/\∀g w act,R E.G g (·<σ.nx) σ.es w->Bi g (·<σ.nx) w N act a->
  ∃g2,R E.G g2 (·<σ2.nx) σ2.es w/\Bi g2 (·<σ2.nx) w N act a2/\Ext (·<k) g (Av g σ.es) w g2 (Av g2 σ2.es) w
theorem Bg.refl:Bg E N k a σ a σ:=fun hk=>⟨hk,fun g w act hR hF=>⟨g,hR,hF,.refl ..⟩⟩
theorem AW.weak{a2:AF}{σ2:Ao}{c:Code}(h:Bg E N k a σ a2 σ2)(h2:AW E N k c a2 σ2 Q):AW E N k c a σ Q:=by
 constructor;intro hk g w act hR hF hY;obtain⟨hk2,hw⟩:=h hk;obtain⟨g2,hR2,hF2,hx⟩:=hw g w act hR hF;exact wp_mono (h2.run hk2 g2 w act hR2 hF2 (hY.ext hx)) (fun e act2 w2 hp=>hp.later hx)
def N9(E:Env)(N k:Nat){ι:Type}(J:ι->AF×Ao)(μ:ι->Nat)(i:ι)(Q:Exit->AF->Ao->Prop):Exit->AF->Ao->Prop
 | .normal,a,σ=>∃j,μ j<μ i/\Bg E N k a σ (J j).1 (J j).2
 |e,a,σ=>Q e a σ
theorem AW.loop{ι:Type}{c:Code}(J:ι->AF×Ao)(μ:ι->Nat)(i₀:ι)(h₀:Bg E N k a σ (J i₀).1 (J i₀).2)
 (h:∀i,AW E N k c (J i).1 (J i).2 (N9 E N k J μ i Q)):AW E N k (.loop c) a σ Q:=by
 refine AW.weak h₀ ?_;constructor;intro hk g w act hR hF hY;refine wp_loop_ghost (fun n act' w'=>∃i g',μ i=n/\k<=(J i).2.nx/\R E.G g' (·<(J i).2.nx) (J i).2.es w'/\Bi g' (·<(J i).2.nx) w' N act' (J i).1/\Ext (·<k) g (Av g (J i₀).2.es) w g' (Av g' (J i).2.es) w')
  (μ i₀) ⟨i₀,g,rfl,hk,hR,hF,.refl ..⟩ ?_
 rintro n act1 w1 ⟨i,g1,rfl,hk1,hR1,hF1,hx1⟩;refine wp_mono ((h i).run hk1 g1 w1 act1 hR1 hF1 (hY.ext hx1)) ?_;rintro e act2 w2 ⟨g2,a2,σ2,hq,hk2,hR2,hF2,hx2⟩;cases e with
 |normal=>
  obtain⟨j,hj,hJ⟩:=hq;obtain⟨hk3,hJ⟩:=hJ hk2;obtain⟨g3,hR3,hF3,hx3⟩:=hJ g2 w2 act2 hR2 hF2;exact⟨μ j,hj,j,g3,rfl,hk3,hR3,hF3,(hx1.trans hx2).trans hx3⟩
 |exit id=>exact⟨g2,a2,σ2,hq,hk2,hR2,hF2,hx1.trans hx2⟩
 |goto l=>exact⟨g2,a2,σ2,hq,hk2,hR2,hF2,hx1.trans hx2⟩
 |ret=>exact⟨g2,a2,σ2,hq,hk2,hR2,hF2,hx1.trans hx2⟩
 |panic ch=>exact⟨g2,a2,σ2,hq,hk2,hR2,hF2,hx1.trans hx2⟩
 |outgrown=>exact⟨g2,a2,σ2,hq,hk2,hR2,hF2,hx1.trans hx2⟩
end
def Ap(c c':V):Prop:=∀g D w v,Aq g D w v c->Aq g D w v c'
theorem Ap.refl(c:V):Ap c c:=fun _ _ _ _ h=>h
theorem Ap.of_eq{c c':V}(h:c=c'):Ap c c':=h▸ .refl c
theorem Ap.any(sp:Sp)(l:SL V):Ap (.slice sp l) (.slice .any l):=by
 intro g D w v h;cases h with
 |data h=>cases h with
  |nilS _ h=>exact .data (.nilS _ h)
  |emp _ h a cap=>exact .data (.emp _ h a cap)
  |slice _ b off cap f h1 h2 h3 h4 h5=>exact .data (.slice _ b off cap f h1 h2 h3 h4 h5)
 |fullNil _ h=>exact .data (.nilS _ h)
 |nilS _ h=>exact .data (.nilS _ h)
 |full a n _ h=>exact .data h
 |own r hr _ _ h hd=>exact .data hd
def BA:List V->List V->Prop
 |[],[]=>True
 |c::cs,c'::cs'=>Ap c c'/\BA cs cs'
 |_,_=>False
theorem BA.len:∀{cs cs':List V},BA cs cs'->cs.length=cs'.length:=by
 intro cs;induction cs with
 |nil=>intro cs' h;cases cs' with|nil=>rfl|cons=>exact h.elim
 |cons c l ih=>intro cs' h;cases cs' with|nil=>exact h.elim|cons c' l'=>simp[ih h.2]
theorem BA.nth:∀{cs cs':List V},BA cs cs'->∀(i:Nat) c',cs'[i]? =some c'->∃c,cs[i]? =some c/\Ap c c':=by
 intro cs;induction cs with
 |nil=>intro cs' h i c' hc;cases cs' with|nil=>grind|cons=>exact h.elim
 |cons c l ih=>
  intro cs' h i c' hc;cases cs' with
  |nil=>grind
  |cons d l'=>
   cases i with
   |zero=>simp at hc;subst hc;exact⟨c,rfl,h.1⟩
   |succ i=>simp at hc;exact ih h.2 i c' hc
theorem BA.refl:∀cs:List V,BA cs cs
 |[]=>trivial
 |c::cs=>⟨.refl c,BA.refl cs⟩
theorem Ap.agg{cs cs':List V}(h:BA cs cs'):Ap (.agg cs) (.agg cs'):=by
 intro g D w v hv;cases hv with
 |data h=>cases h
 |agg vs _ hl h1 hr=>
  refine .agg vs cs' (hl.trans h.len) h1 fun i v c' hv hc=> ?_;obtain⟨c,hc1,hc2⟩:=h.nth i c' hc;exact hc2 _ _ _ _ (hr i v c hv hc1)
theorem Ap.AP{cs cs':List V}(h:BA cs cs'):Ap (.AP cs) (.AP cs'):=by
 intro g D w v hv;cases hv with
 |data h=>cases h
 |AP vs _ hl hr=>
  refine .AP vs cs' (hl.trans h.len) fun i v c' hv hc=> ?_;obtain⟨c,hc1,hc2⟩:=h.nth i c' hc;exact hc2 _ _ _ _ (hr i v c hv hc1)
theorem V5(ρ:List (Option Nat))(c:EC)(x:c.sem):uc ρ (HI c x)=some (HI c x):=mC
def Od(ρ:List (Option Nat))(a:AF):AF->Prop
 |[]=>True
 |p::l=>(∃c,uc ρ p.2=some c/\∃c0,a.get p.1=some c0/\Ap c0 c)/\Od ρ a l
def Eh(ρ:List (Option Nat))(es:Es):Es->Prop
 |[]=>True
 |p::l=>(match p.2 with
  | .var cs=>∃m,CJ ρ p.1=some m/\∃cs1,vn ρ cs=some cs1/\∃cs0,zo es m=some (.var cs0)/\BA cs0 cs1
  | .map c ks xs=>∃m,CJ ρ p.1=some m/\∃ks0 xs0,zo es m=some (.map c ks0 xs0)/\ks0=ks/\xs0=xs
  | .row=>Du ρ p.1=some none\/∃m,CJ ρ p.1=some m/\zo es m=some .row
  | .gone=>Nat.blt p.1 ρ.length=true)/\Eh ρ es l
def HR:Nat->Nat->List (Option Nat)->Bool
 |_,0,_=>true
 |i,n+1,some m::l=>Nat.beq m i&&HR (i+1) n l
 |_,_,_=>false
def yj:List (Option Nat)->Bool
 |[]=>true
 |none::l=>yj l
 |some m::l=>(l.all fun x=>match x with|some m'=> !Nat.beq m m'|none=>true)&&yj l
def below(nx:Nat)(ρ:List (Option Nat)):Bool:=ρ.all fun x=>match x with|some m=>Nat.blt m nx|none=>true
theorem Uv:∀(n i:Nat) (ρ:List (Option Nat)),HR i n ρ=true->∀j,j<n->Du ρ j=some (some (i+j)):=by
 intro n;induction n with
 |zero=>omega
 |succ n ih=>
  intro i ρ h j hj;cases ρ with
  |nil=>simp[HR] at h
  |cons x l=>
   cases x with
   |none=>simp[HR] at h
   |some m=>
    simp only[HR,fD] at h;have hm:=gA h.1;cases j with
    |zero=>simp[Du,hm]
    |succ j=>
     have:=ih (i+1) l h.2 j kn;simp only[Du]
     grind
theorem Zo:∀{ρ:List (Option Nat)} {n x},Du ρ n=some x->x∈ρ:=by
 intro ρ;induction ρ with
 |nil=>intro n x h;cases h
 |cons y l ih=>
  intro n x h;cases n with
  |zero=>simp[Du] at h;grind
  |succ n=>exact kf _ (ih h)
theorem cW:∀{ρ:List (Option Nat)},yj ρ=true->∀n n' m,Du ρ n=some (some m)->Du ρ n'=some (some m)->n=n':=by
 intro ρ;induction ρ with
 |nil=>intro _ n n' m h;cases h
 |cons y l ih=>
  intro h n n' m h1 h2;have hd:yj l=true:=by
   cases y with
   |none=>simpa[yj] using h
   |some z=>simp only[yj,fD] at h;grind
  have hne:∀z,y=some z->∀j,Du l j≠some (some z):=by
   intro z hz j hj;subst hz;simp only[yj,fD,fF] at h;have:=h.1 _ (Zo hj);simp_all
  cases n with
  |zero=>
   simp only[Du,fI] at h1;cases n' with
   |zero=>rfl
   |succ n'=>exact absurd h2 (hne m h1 n')
  |succ n=>
   cases n' with
   |zero=>
    simp only[Du,fI] at h2;exact absurd h1 (hne m h2 n)
   |succ n'=>exact congrArg (·+1) (ih hd n n' m h1 h2)
theorem Zyt{nx:Nat}{ρ:List (Option Nat)}(h:below nx ρ=true){n m:Nat}(hn:Du ρ n=some (some m)):m<nx:=by
 have:=fF.1 h _ (Zo hn);simp_all
theorem Od.get{ρ:List (Option Nat)}{a:AF}:∀{a2:AF},Od ρ a a2->∀t c2,a2.get t=some c2->∃c,uc ρ c2=some c/\∃c0,a.get t=some c0/\Ap c0 c:=by
 intro a2;induction a2 with
 |nil=>intro _ t c2 h;cases h
 |cons p l ih=>
  intro h t c2 hc;obtain⟨m,e⟩:=p;rw[AF.Bf] at hc;by_cases ht:m=t
  .subst ht;simp only[if_true,fI] at hc;subst hc;exact h.1
  .simp only[ht,if_false] at hc;exact ih h.2 t c2 hc
theorem Eh.get{ρ:List (Option Nat)}{es:Es}:∀{es2:Es},Eh ρ es es2->∀n e2,zo es2 n=some e2->(match e2 with
 | .var cs=>∃m,CJ ρ n=some m/\∃cs1,vn ρ cs=some cs1/\∃cs0,zo es m=some (.var cs0)/\BA cs0 cs1
 | .map c ks xs=>∃m,CJ ρ n=some m/\∃ks0 xs0,zo es m=some (.map c ks0 xs0)/\ks0=ks/\xs0=xs
 | .row=>Du ρ n=some none\/∃m,CJ ρ n=some m/\zo es m=some .row
 | .gone=>Nat.blt n ρ.length=true):=by
 intro es2;induction es2 with
 |nil=>intro _ t c2 h;cases h
 |cons p l ih=>
  intro h n e2 hc;obtain⟨m,e⟩:=p;rw[zv] at hc;by_cases ht:m=n
  .subst ht;simp only[if_true,fI] at hc;subst hc;exact h.1
  .simp only[ht,if_false] at hc;exact ih h.2 n e2 hc
theorem Bg.mk{E:Env}{N k:Nat}{a:AF}{σ:Ao}(ρ:List (Option Nat))(a2:AF)(es2:Es)(nx2:Nat)(hnx:nx2=ρ.length)(hid:HR 0 k ρ=true)(hd:yj ρ=true)(hb:below σ.nx ρ=true)
 (hf:Od ρ a a2) (he:Eh ρ σ.es es2):Bg E N k a σ a2 ⟨nx2,es2⟩:=by
 subst hnx;intro hk;have hidk:∀n,n<k->Du ρ n=some (some n):=fun n hn=>by simpa using Uv k 0 ρ hid n hn
 refine⟨?_,fun g w act hR hF=> ?_⟩
 .show k<=ρ.length;rcases Nat.eq_zero_or_pos k with h|h
  .omega
  .have:=Ic (hidk (k-1) kn);omega
 let g2:Gh:={blk:=fun n=>g.blk ((CJ ρ n).getD n),row:=fun n=>match CJ ρ n with|some m=>g.row m|none=>none,m:=g.m}
 have hblk:∀n n',CJ ρ n=some n'->g2.blk n=g.blk n':=fun n n' h=>kr
 have hrow:∀n n',CJ ρ n=some n'->g2.row n=g.row n':=fun n n' h=>kr
 have hnone:∀n,Du ρ n=some none->g2.row n=none:=fun n h=>by simp[g2,CJ,h]
 have hun:∀{v c c2},Aq g (·<σ.nx) w v c->uc ρ c2=some c->Aq g2 (·<ρ.length) w v c2:=fun {v c c2} h hc=>Aq.G1 (g2:=g2) h rfl hblk hrow hnone c2 hc;have hfoot:∀n e2 b,zo es2 n=some e2->e2.AD g2 n=some b->∃m e,CJ ρ n=some m/\zo σ.es m=some e/\e.AD g m=some b:=by
  intro n e2 b h1 h2;have h3:=he.get n e2 h1;cases e2 with
  |var cs=>
   obtain⟨m,hm,cs1,_,cs0,h4,_⟩:=h3;refine⟨m,_,hm,h4,?_⟩;simp only[A7.AD,hblk n m hm] at h2 ⊢;exact h2
  |map c ks xs=>
   obtain⟨m,hm,ks0,xs0,h4,_⟩:=h3;refine⟨m,_,hm,h4,?_⟩;simp only[A7.AD,hblk n m hm] at h2 ⊢;exact h2
  |row=>
   rcases h3 with h3|⟨m,hm,h4⟩
   .simp[A7.AD,hnone n h3] at h2
   .refine ⟨m,_,hm,h4,?_⟩;simp only[A7.AD,hrow n m hm] at h2 ⊢;exact h2
  |gone=>cases h2
 refine⟨g2,⟨?_,?_,?_,hR.fresh,hR.FN⟩,⟨hF.size,hF.defers,?_⟩,?_⟩
 .exact qq
 .intro n n' e e' b h1 h2 h3 h4;obtain⟨m,d,hm,h5,h6⟩:=hfoot n e b h1 h3;obtain⟨m',d',hm',h7,h8⟩:=hfoot n' e' b h2 h4;have:=hR.Bd m m' d d' b h5 h7 h6 h8;subst this;exact cW hd n n' m (I6 hm) (I6 hm')
 .intro n e h;have h3:=he.get n e h;cases e with
  |var cs=>
   obtain⟨m,hm,cs1,hc1,cs0,h4,h5⟩:=h3;obtain⟨h6,vs,t,h7,h8,h9,h10,h11⟩:=hR.Cg m _ h4;refine⟨kr,vs,t,kr,?_,h9,?_,kr⟩
   .have e1:=h5.len;have e2:=xp hc1;omega
   .exact qM
  |map c ks xs=>
   obtain⟨m,hm,ks0,xs0,h4,rfl,rfl⟩:=h3;obtain⟨h6,vs,t,h7,h8,h9,h9',h10⟩:=hR.Cg m _ h4;refine⟨kr,vs,t,kr,h8,h9,h9',?_⟩;intro i v x hv hx;exact hun (h10 i v x hv hx) (V5 ρ c x)
  |row=>
   intro ρ' hρ';rcases h3 with h3|⟨m,hm,h4⟩
   .grind
   .rw[hrow n m hm] at hρ';exact hR.Cg m _ h4 ρ' hρ'
  |gone=>trivial
 .intro t c2 hc;obtain⟨c,h1,c0,h2,h3⟩:=hf.get t c2 hc;obtain⟨v,hv,hv2⟩:=hF.vals t c0 h2;exact⟨v,hv,hun (h3 _ _ _ _ hv2) h1⟩
 .have hrk:∀n,n<k->CJ ρ n=some n:=fun n hn=>by simp[CJ,hidk n hn]
  refine⟨rfl,rfl,rfl,fB _,fun _ _ _=>rfl,fun _=>fB _,fun n hn=>hblk n n (hrk n hn),fun n hn=>hrow n n (hrk n hn),fun _ _ _=>⟨rfl,rfl⟩,?_⟩;rintro b ⟨n,e,h1,h2⟩;obtain⟨m,e',_,h3,h4⟩:=hfoot n e b h1 h2;exact .inl ⟨m,e',h3,h4⟩
theorem GO.mono{g g':Gh}{D D':Nat->Prop}{w w':World}{n:Nat}{e:A7}(h:GO g D w n e)(hn:D n)(hm:∀b,g.m b<=g'.m b)
 (hw:∀b o,o<g.m b->w'.cell? ⟨b,o,none⟩=w.cell? ⟨b,o,none⟩) (hD:∀n,D n->D' n) (hb:∀n,D n->g'.blk n=g.blk n)
 (hr:∀n,D n->g'.row n=g.row n) (hf:∀b,e.AD g n=some b->w'.heap[b]? =w.heap[b]? /\g'.m b=g.m b):GO g' D' w' n e:=by
 cases e with
 |var cs=>
  obtain⟨h1,vs,t,h2,h3,h4,h5,h7⟩:=h;have h6:=hf _ rfl;refine⟨kr,vs,t,kr,h3,h4,fun i v c hv hc=>(h5 i v c hv hc).mono hm hw hD hb hr,kr⟩
 |map c ks xs=>
  obtain⟨h1,vs,t,h2,h3,h4,h4',h5⟩:=h;have h6:=hf _ rfl;exact⟨kr,vs,t,kr,h3,h4,h4',fun i v c hv hc=>(h5 i v c hv hc).mono hm hw hD hb hr⟩
 |row=>
  intro ρ hρ;rw[hr n hn] at hρ;obtain⟨cur,t,h1,h2,h3,h4⟩:=h ρ hρ;have h6:=hf ρ.b (by simp[A7.AD,hρ])
  grind
 |gone=>trivial
theorem R.step{G:D5}{g g':Gh}{D D':Nat->Prop}{es es':Es}{w w':World}(hR:R G g D es w)(hm:∀b,g.m b<=g'.m b)
 (hw:∀b o,o<g.m b->w'.cell? ⟨b,o,none⟩=w.cell? ⟨b,o,none⟩) (hD:∀n,D n->D' n) (hb:∀n,D n->g'.blk n=g.blk n)
 (hr:∀n,D n->g'.row n=g.row n)
 (hents:∀n e,zo es' n=some e->(zo es n=some e/\∀b,e.AD g n=some b->w'.heap[b]? =w.heap[b]? /\g'.m b=g.m b)\/(D' n/\GO g' D' w' n e))
 (hfoots:∀n n' e e' b,zo es' n=some e->zo es' n'=some e'->e.AD g' n=some b->e'.AD g' n'=some b->n=n')
 (hfresh:∀b,w'.heap.size<=b->g'.m b=0):R G g' D' es' w' where
 lt n e h:=by
  rcases hents n e h with h1|h1
  .exact hD n (hR.lt n e h1.1)
  grind
 Bd:=hfoots
 Cg n e h:=by
  rcases hents n e h with h1|h1
  .exact (hR.Cg n e h1.1).mono (hR.lt n e h1.1) hm hw hD hb hr h1.2
  grind
 fresh:=hfresh
 FN p hp:=by
  obtain⟨h1,h2⟩:=hR.FN p hp;refine⟨gD h1 (hm _),fun j c hc=> ?_⟩;obtain⟨v,h3,h4⟩:=h2 j c hc;exact⟨v,(hw _ _ kr).trans h3,h4.mono hm hw⟩
theorem R.B4{G:D5}{g:Gh}{D:Nat->Prop}{es:Es}{w:World}(hR:R G g D es w){n:Nat}{e:A7}{b:Nat}(h:zo es n=some e)(hf:e.AD g n=some b):b<w.heap.size:=by
 have he:=hR.Cg n e h;cases e with
 |var cs=>
  obtain⟨_,vs,t,h2,_⟩:=he;simp only[A7.AD,fI] at hf
  grind
 |map c ks xs=>
  obtain⟨_,vs,t,h2,_⟩:=he;simp only[A7.AD,fI] at hf
  grind
 |row=>
  simp only[A7.AD,fE] at hf;obtain⟨ρ,hρ,rfl⟩:=hf;obtain⟨cur,t,h1,_⟩:=he ρ hρ
  grind
 |gone=>cases hf
theorem A7.Ci{g g':Gh}{D:Nat->Prop}{n:Nat}{e:A7}(hn:D n)(hb:∀n,D n->g'.blk n=g.blk n)(hr:∀n,D n->g'.row n=g.row n):e.AD g' n=e.AD g n:=by
 cases e with
 |var cs=>simp[A7.AD,hb n hn]
 |map c ks xs=>simp[A7.AD,hb n hn]
 |row=>simp[A7.AD,hr n hn]
 |gone=>rfl
theorem Vp(w:World)(o:Obj)(b j:Nat)(h:b<w.heap.size):(w.alloc o).cell? ⟨b,j,none⟩=w.cell? ⟨b,j,none⟩:=World.cell?_alloc_lt (w:=w) (o:=o) (a:=⟨b,j,none⟩) h
def Gh.name(g:Gh)(n b:Nat):Gh:={g with blk:=fun i=>if i=n then b else g.blk i}
def Gh.AU(g:Gh)(n b:Nat)(ρ:Option Fj):Gh:={g with blk:=fun i=>if i=n then b else g.blk i,row:=fun i=>if i=n then ρ else g.row i}
theorem R.J8{G:D5}{g:Gh}{D:Nat->Prop}{es:Es}{w:World}(hR:R G g D es w){n:Nat}(hn:¬D n)(ρ:Option Fj){vs:List Value}{cs:List V}(t:TypeId)(hl:cs.length<=vs.length)
 (h1:∀v∈vs,v.oneCell'=true) (h:∀(i:Nat) v c,vs[i]? =some v->cs[i]? =some c->Aq g D w v c) (hρ:∀r,ρ=some r->vs.length=r.cap*r.sz):
 R G (g.AU n w.heap.size ρ) (fun i=>D i\/i=n) ((n,.var cs)::es) (w.alloc (.cells vs.toArray t))/\
 Ext D g (Av g es) w (g.AU n w.heap.size ρ) (Av (g.AU n w.heap.size ρ) ((n,.var cs)::es)) (w.alloc (.cells vs.toArray t)):=by
 have hb:∀i,D i->(g.AU n w.heap.size ρ).blk i=g.blk i:=fun i hi=>by
  have:i≠n:=fun e=>hn (e▸hi);simp[Gh.AU,this]
 have hr:∀i,D i->(g.AU n w.heap.size ρ).row i=g.row i:=fun i hi=>by
  have:i≠n:=fun e=>hn (e▸hi);simp[Gh.AU,this]
 have hcell:∀b o,o<g.m b->(w.alloc (.cells vs.toArray t)).cell? ⟨b,o,none⟩=w.cell? ⟨b,o,none⟩:=fun b o ho=>by
  exact qH
 have hm0:g.m w.heap.size=0:=hR.fresh _ (fB _);have hold:∀i e,i≠n->zo ((n,A7.var cs)::es) i=some e->zo es i=some e:=fun i e hi h=>by
  exact qU
 have hfold:∀i e b,zo es i=some e->e.AD (g.AU n w.heap.size ρ) i=some b->e.AD g i=some b/\b<w.heap.size:=fun i e b h1 h2=>by
  rw[A7.Ci (hR.lt i e h1) hb hr] at h2;exact⟨h2,hR.B4 h1 h2⟩
 have hnew:∀e,zo ((n,A7.var cs)::es) n=some e->e= .var cs:=fun e h=>by
  exact si
 refine⟨hR.step (fun _=>fB _) hcell (fun i hi=> .inl hi) hb hr ?_ ?_ ?_,?_⟩
 .intro i e he;by_cases hi:i=n
  .subst hi;rw[hnew e he];refine .inr ⟨.inr rfl,by simp[Gh.AU,hm0],vs,t,by rw[show(g.AU i w.heap.size ρ).blk i=w.heap.size from l9];exact heap_alloc_new w _,hl,h1,fun j v c hv hc=> ?_,fun r hr'=>hρ r (by simpa[Gh.AU] using hr')⟩;exact(h j v c hv hc).mono (fun _=>fB _) hcell (fun i hi=> .inl hi) hb hr
  .exact rS
 .intro i j e e' b h1 h2 h3 h4;by_cases hi:i=n
  .by_cases hj:j=n
   .omega
   .subst hi;rw[hnew e h1] at h3;simp[A7.AD,Gh.AU] at h3
    grind
  .by_cases hj:j=n
   .subst hj;rw[hnew e' h2] at h4;simp[A7.AD,Gh.AU] at h4
    grind
   .exact rq
 .intro b hb';simp at hb';exact hR.fresh b kn
 .refine ⟨rfl,rfl,rfl,ko,hcell,fun _=>fB _,hb,hr,fun b hb' _=>⟨heap_alloc_old w _ b hb',rfl⟩,?_⟩;rintro b ⟨i,e,h2,h3⟩;by_cases hi:i=n
  .subst hi;rw[hnew e h2] at h3;simp[A7.AD,Gh.AU] at h3;omega
  .exact .inl ⟨i,e,hold i e hi h2,(hfold i e b (hold i e hi h2) h3).1⟩
theorem R.box{G:D5}{g:Gh}{D:Nat->Prop}{es:Es}{w:World}(hR:R G g D es w){n:Nat}(hn:¬D n){vs:List Value}{cs:List V}(t:TypeId)(hl:cs.length<=vs.length)
 (h1:∀v∈vs,v.oneCell'=true) (h:∀(i:Nat) v c,vs[i]? =some v->cs[i]? =some c->Aq g D w v c):
 R G (g.AU n w.heap.size none) (fun i=>D i\/i=n) ((n,.var cs)::es) (w.alloc (.cells vs.toArray t))/\
 Ext D g (Av g es) w (g.AU n w.heap.size none) (Av (g.AU n w.heap.size none) ((n,.var cs)::es)) (w.alloc (.cells vs.toArray t)):=
 hR.J8 hn none t hl h1 h (fun r h=>kM)
def Gh.share(g:Gh)(b n:Nat):Gh:={g with m:=fun i=>if i=b then n else g.m i}
theorem R.share{G:D5}{g:Gh}{D:Nat->Prop}{es:Es}{w:World}(hR:R G g D es w)(vs:Array Value)(t:TypeId)(n:Nat)(hn:n<=vs.size):
 R G (g.share w.heap.size n) D es (w.alloc (.cells vs t))/\
 Ext D g (Av g es) w (g.share w.heap.size n) (Av (g.share w.heap.size n) es) (w.alloc (.cells vs t)):=by
 have hm0:g.m w.heap.size=0:=hR.fresh _ (fB _);have hm:∀b,g.m b<=(g.share w.heap.size n).m b:=fun b=>by
  by_cases h:b=w.heap.size
  .grind
  .simp[Gh.share,h]
 have hcell:∀b o,o<g.m b->(w.alloc (.cells vs t)).cell? ⟨b,o,none⟩=w.cell? ⟨b,o,none⟩:=fun b o ho=>by
  exact qH
 have hsame:∀b,b<w.heap.size->(w.alloc (.cells vs t)).heap[b]? =w.heap[b]? /\(g.share w.heap.size n).m b=g.m b:=fun b hb=>
  ⟨heap_alloc_old w _ b hb,by simp[Gh.share,Nat.ne_of_lt hb]⟩
 refine⟨hR.step hm hcell (fun i hi=>hi) (fun _ _=>rfl) (fun _ _=>rfl) (fun i e he=> .inl ⟨he,fun b hb=>hsame b (hR.B4 he hb)⟩) hR.Bd ?_,?_⟩
 .intro b hb;simp at hb;have:b≠w.heap.size:=kn
  simp[Gh.share,this];exact hR.fresh b kn
 .exact ⟨rfl,rfl,rfl,ko,hcell,hm,fun _ _=>rfl,fun _ _=>rfl,fun b hb _=>hsame b hb,fun b h=> .inl h⟩
theorem Z3(w:World)(b:Nat)(vs:Array Value)(b' o:Nat)(h:b'≠b):(w.setRow b vs).cell? ⟨b',o,none⟩=w.cell? ⟨b',o,none⟩:=
 World.cell?_of_block (a:=⟨b',o,none⟩) (setRow_other w b b' vs h)
theorem R.store{G:D5}{g:Gh}{D:Nat->Prop}{es:Es}{w:World}(hR:R G g D es w){n:Nat}{cs cs':List V}(hn:zo es n=some (.var cs))
 {vs:List Value} {vs':List Value} {t:TypeId} (hh:w.heap[g.blk n]? =some (.cells vs.toArray t (0,0))) (hl:cs'.length<=vs'.length) (hlv:vs'.length=vs.length)
 (h1:∀v∈vs',v.oneCell'=true) (h:∀(i:Nat) v c,vs'[i]? =some v->cs'[i]? =some c->Aq g D w v c):
 R G g D ((n,.var cs')::es) (w.setRow (g.blk n) vs'.toArray)/\
 Ext D g (Av g es) w g (Av g ((n,.var cs')::es)) (w.setRow (g.blk n) vs'.toArray):=by
 have hm0:g.m (g.blk n)=0:=(hR.Cg n _ hn).1;have hrw:∀r,g.row n=some r->vs.length=r.cap*r.sz:=fun r hr=>by
  obtain⟨_,us,t',q1,_,_,_,q2⟩:=hR.Cg n _ hn
  grind
 have hne:∀b o,o<g.m b->b≠g.blk n:=fun b o ho e=>kr
 have hcell:∀b o,o<g.m b->(w.setRow (g.blk n) vs'.toArray).cell? ⟨b,o,none⟩=w.cell? ⟨b,o,none⟩:=fun b o ho=>
  Z3 w _ _ b o (hne b o ho)
 have hold:∀i e,i≠n->zo ((n,A7.var cs')::es) i=some e->zo es i=some e:=fun i e hi h=>by
  exact qU
 have hnew:∀e,zo ((n,A7.var cs')::es) n=some e->e= .var cs':=fun e h=>by
  exact si
 have hfoot:∀i e b,zo ((n,A7.var cs')::es) i=some e->e.AD g i=some b->∃e',zo es i=some e'/\e'.AD g i=some b:=fun i e b h2 h3=>by
  exact sW
 have hother:∀b,b≠g.blk n->(w.setRow (g.blk n) vs'.toArray).heap[b]? =w.heap[b]? :=fun b hb=>setRow_other w _ b _ hb;refine⟨hR.step (fun _=>fB _) hcell (fun i hi=>hi) (fun _ _=>rfl) (fun _ _=>rfl) ?_ ?_ ?_,?_⟩
 .intro i e he;by_cases hi:i=n
  .subst hi;rw[hnew e he];exact .inr ⟨hR.lt _ _ hn,hm0,vs',t,setRow_heap w _ _ _ t _ hh,hl,h1,fun j v c hv hc=>
    (h j v c hv hc).mono (fun _=>fB _) hcell (fun i hi=>hi) (fun _ _=>rfl) (fun _ _=>rfl),fun r hr=>hlv.trans (hrw r hr)⟩
  .exact ri
 .exact qZ
 .intro b hb;simp at hb;exact hR.fresh b hb
 .refine ⟨rfl,rfl,rfl,ko,hcell,fun _=>fB _,fun _ _=>rfl,fun _ _=>rfl,fun b hb hf=>⟨hother b (fun e=>hf ⟨n,_,hn,by simp[A7.AD,e]⟩),rfl⟩,?_⟩;rintro b ⟨i,e,h2,h3⟩;obtain⟨d,h6,h7⟩:=hfoot i e b h2 h3;exact .inl ⟨i,d,h6,h7⟩
theorem Aq.drew{g:Gh}{D:Nat->Prop}{w:World}{v:Value}{c:V}(h:Aq g D w v c):Aq g D w.drew v c:=
 h.mono (fun _=>fB _) (fun _ _ _=>rfl) (fun _ h=>h) (fun _ _=>rfl) (fun _ _=>rfl)
theorem R.drew{G:D5}{g:Gh}{D:Nat->Prop}{es:Es}{w:World}(hR:R G g D es w):R G g D es w.drew:=
 hR.step (fun _=>fB _) (fun _ _ _=>rfl) (fun _ h=>h) (fun _ _=>rfl) (fun _ _=>rfl) (fun n e h=> .inl ⟨h,fun _ _=>⟨rfl,rfl⟩⟩) hR.Bd hR.fresh
theorem Ext.drew{D:Nat->Prop}{g:Gh}{F:Nat->Prop}{w:World}:Ext D g F w g F w.drew:=
 ⟨rfl,rfl,rfl,fB _,fun _ _ _=>rfl,fun _=>fB _,fun _ _=>rfl,fun _ _=>rfl,fun _ _ _=>⟨rfl,rfl⟩,fun _ h=> .inl h⟩
theorem R.more{G:D5}{g:Gh}{D D':Nat->Prop}{es:Es}{w:World}(hR:R G g D es w)(hD:∀n,D n->D' n):R G g D' es w:=
 hR.step (fun _=>fB _) (fun _ _ _=>rfl) hD (fun _ _=>rfl) (fun _ _=>rfl) (fun n e h=> .inl ⟨h,fun _ _=>⟨rfl,rfl⟩⟩) hR.Bd hR.fresh
theorem Aq.more{g:Gh}{D D':Nat->Prop}{w:World}{v:Value}{c:V}(h:Aq g D w v c)(hD:∀n,D n->D' n):Aq g D' w v c:=
 h.mono (fun _=>fB _) (fun _ _ _=>rfl) hD (fun _ _=>rfl) (fun _ _=>rfl)
theorem O5{es:Es}{r i:Nat}{e:A7}(h:zo ((r,A7.gone)::es) i=some e):(i=r/\e= .gone)\/(i≠r/\zo es i=some e):=by
 rw[zv] at h
 grind
theorem R.gone{G:D5}{g:Gh}{D:Nat->Prop}{es:Es}{w:World}(hR:R G g D es w){r:Nat}{e:A7}(hr:zo es r=some e):
 R G g D ((r,.gone)::es) w/\Ext D g (Av g es) w g (Av g ((r,.gone)::es)) w:=by
 refine⟨hR.step (fun _=>fB _) (fun _ _ _=>rfl) (fun _ h=>h) (fun _ _=>rfl) (fun _ _=>rfl) ?_ ?_ hR.fresh,?_⟩
 .intro n e h;rcases O5 h with⟨rfl,rfl⟩|⟨_,h2⟩
  .exact .inr ⟨hR.lt _ _ hr,trivial⟩
  grind
 .intro n n' e e' b h1 h2 h3 h4;rcases O5 h1 with⟨rfl,rfl⟩|⟨_,h1⟩
  .cases h3
  .rcases O5 h2 with⟨rfl,rfl⟩|⟨_,h2⟩
   .cases h4
   .exact hR.Bd n n' e e' b h1 h2 h3 h4
 .refine {Ext.refl D g (Av g es) w with CQ:= ?_};rintro b ⟨n,e,h1,h2⟩;rcases O5 h1 with⟨rfl,rfl⟩|⟨_,h1⟩
  .cases h2
  .exact .inl ⟨n,e,h1,h2⟩
def Gh.BQ(g:Gh)(n:Nat)(ρ:Option Fj):Gh:={g with row:=fun i=>if i=n then ρ else g.row i}
theorem yo{es:Es}{n i:Nat}{d e:A7}(hi:i≠n)(h:zo ((n,d)::es) i=some e):zo es i=some e:=by
 exact qU
theorem ug{es:Es}{n:Nat}{d e:A7}(h:zo ((n,d)::es) n=some e):e=d:=by
 exact si
theorem R.Mf{G:D5}{g:Gh}{D:Nat->Prop}{es:Es}{w:World}(hR:R G g D es w){n:Nat}(hn:¬D n)(vs:Array Value)(t:TypeId)(len cap sz:Nat)(hs:vs.size=cap*sz)(hc:len<=cap):
 R G ((g.share w.heap.size (len*sz)).BQ n (some ⟨w.heap.size,len,cap,sz,0⟩)) (fun i=>D i\/i=n) ((n,.row)::es) (w.alloc (.cells vs t))/\
 Ext D g (Av g es) w ((g.share w.heap.size (len*sz)).BQ n (some ⟨w.heap.size,len,cap,sz,0⟩)) (Av ((g.share w.heap.size (len*sz)).BQ n (some ⟨w.heap.size,len,cap,sz,0⟩)) ((n,.row)::es)) (w.alloc (.cells vs t)):=by
 obtain⟨h1,h2⟩:=hR.share vs t (len*sz) (by rw[hs];exact gX _ hc);have hrow:∀i,D i->((g.share w.heap.size (len*sz)).BQ n (some ⟨w.heap.size,len,cap,sz,0⟩)).row i=(g.share w.heap.size (len*sz)).row i:=fun i hi=>by
  have:i≠n:=fun e=>hn (e▸hi);simp[Gh.BQ,this]
 have hnew:((g.share w.heap.size (len*sz)).BQ n (some ⟨w.heap.size,len,cap,sz,0⟩)).row n=some ⟨w.heap.size,len,cap,sz,0⟩:=by simp[Gh.BQ]
 have hfold:∀i e b,zo es i=some e->e.AD ((g.share w.heap.size (len*sz)).BQ n (some ⟨w.heap.size,len,cap,sz,0⟩)) i=some b->e.AD g i=some b/\b<w.heap.size:=fun i e b h1 h2=>by
  have h2:=(A7.Ci (g:=g) (g':=(g.share w.heap.size (len*sz)).BQ n (some ⟨w.heap.size,len,cap,sz,0⟩)) (e:=e) (hR.lt i e h1) (fun _ _=>rfl) hrow).symm.trans h2;exact⟨h2,hR.B4 h1 h2⟩
 refine⟨h1.step (fun _=>fB _) (fun _ _ _=>rfl) (fun i hi=> .inl hi) (fun _ _=>rfl) hrow ?_ ?_ h1.fresh,?_⟩
 .intro i e he;by_cases hi:i=n
  .subst hi;rw[ug he];refine .inr ⟨.inr rfl,fun ρ hρ=> ?_⟩;rw[hnew] at hρ;cases hρ;exact⟨vs,t,heap_alloc_new w _,kr,by simp[Gh.share,Gh.BQ],hc⟩
  .exact .inl ⟨yo hi he,fun b hb=>⟨rfl,rfl⟩⟩
 .intro i j e e' b h3 h4 h5 h6;by_cases hi:i=n
  .by_cases hj:j=n
   .omega
   .subst hi;rw[ug h3] at h5;simp[A7.AD,hnew] at h5;have:=hfold j e' b (yo hj h4) h6;omega
  .by_cases hj:j=n
   .subst hj;rw[ug h4] at h6;simp[A7.AD,hnew] at h6;have:=hfold i e b (yo hi h3) h5;omega
   .exact hR.Bd i j e e' b (yo hi h3) (yo hj h4) (hfold i e b (yo hi h3) h5).1 (hfold j e' b (yo hj h4) h6).1
 .refine ⟨rfl,rfl,rfl,h2.size,h2.cells,h2.mark,fun _ _=>rfl,hrow,h2.frame,?_⟩;rintro b ⟨i,e,h3,h4⟩;by_cases hi:i=n
  .subst hi;rw[ug h3] at h4;simp[A7.AD,hnew] at h4;omega
  .exact .inl ⟨i,e,yo hi h3,(hfold i e b (yo hi h3) h4).1⟩
theorem R.Mt{G:D5}{g:Gh}{D:Nat->Prop}{es:Es}{w:World}(hR:R G g D es w){n:Nat}(hn:¬D n):
 R G (g.BQ n none) (fun i=>D i\/i=n) ((n,.row)::es) w/\Ext D g (Av g es) w (g.BQ n none) (Av (g.BQ n none) ((n,.row)::es)) w:=by
 have hrow:∀i,D i->(g.BQ n none).row i=g.row i:=fun i hi=>by
  have:i≠n:=fun e=>hn (e▸hi);simp[Gh.BQ,this]
 have hnew:(g.BQ n none).row n=none:=by simp[Gh.BQ]
 have hfold:∀i e b,zo es i=some e->e.AD (g.BQ n none) i=some b->e.AD g i=some b:=fun i e b h1 h2=>by
  exact(A7.Ci (g:=g) (g':=g.BQ n none) (e:=e) (hR.lt i e h1) (fun _ _=>rfl) hrow).symm.trans h2
 refine⟨hR.step (fun _=>fB _) (fun _ _ _=>rfl) (fun i hi=> .inl hi) (fun _ _=>rfl) hrow ?_ ?_ hR.fresh,?_⟩
 .intro i e he;by_cases hi:i=n
  .subst hi;rw[ug he];exact .inr ⟨.inr rfl,fun ρ hρ=>kr⟩
  .exact .inl ⟨yo hi he,fun b hb=>⟨rfl,rfl⟩⟩
 .intro i j e e' b h3 h4 h5 h6;by_cases hi:i=n
  .subst hi;rw[ug h3] at h5;simp[A7.AD,hnew] at h5
  .by_cases hj:j=n
   .subst hj;rw[ug h4] at h6;simp[A7.AD,hnew] at h6
   .exact hR.Bd i j e e' b (yo hi h3) (yo hj h4) (hfold i e b (yo hi h3) h5) (hfold j e' b (yo hj h4) h6)
 .refine {Ext.refl D g (Av g es) w with row:=hrow,CQ:= ?_};rintro b ⟨i,e,h3,h4⟩;by_cases hi:i=n
  .subst hi;rw[ug h3] at h4;simp[A7.AD,hnew] at h4
  .exact .inl ⟨i,e,yo hi h3,hfold i e b (yo hi h3) h4⟩
theorem R.grow{G:D5}{g:Gh}{D:Nat->Prop}{es:Es}{w:World}(hR:R G g D es w){n r:Nat}(hn:¬D n)(hr:zo es r=some .row){ρ:Fj}(hρ:g.row r=some ρ)
 {cur:Array Value} {t:TypeId} (hh:w.heap[ρ.b]? =some (.cells cur t (0,0))) (cur':Array Value) (hsz:cur'.size=cur.size) (hsame:∀o,o<ρ.off+ρ.len*ρ.sz->cur'[o]? =cur[o]?) (len:Nat)
 (hlen:ρ.len<=len) (hcap:len<=ρ.cap):
 R G (({g with m:=fun i=>if i=ρ.b then ρ.off+len*ρ.sz else g.m i}:Gh).BQ n (some ⟨ρ.b,len,ρ.cap,ρ.sz,ρ.off⟩)) (fun i=>D i\/i=n) ((n,.row)::(r,.gone)::es) (w.setRow ρ.b cur')/\
 Ext D g (Av g es) w (({g with m:=fun i=>if i=ρ.b then ρ.off+len*ρ.sz else g.m i}:Gh).BQ n (some ⟨ρ.b,len,ρ.cap,ρ.sz,ρ.off⟩))
  (Av (({g with m:=fun i=>if i=ρ.b then ρ.off+len*ρ.sz else g.m i}:Gh).BQ n (some ⟨ρ.b,len,ρ.cap,ρ.sz,ρ.off⟩)) ((n,.row)::(r,.gone)::es)) (w.setRow ρ.b cur'):=by
 obtain⟨cur0,t0,h1,h2,h3,h4⟩:=hR.Cg r _ hr ρ hρ;rw[hh] at h1;cases h1;generalize hg':(({g with m:=fun i=>if i=ρ.b then ρ.off+len*ρ.sz else g.m i}:Gh).BQ n (some ⟨ρ.b,len,ρ.cap,ρ.sz,ρ.off⟩))=g';have hblk:∀i,g'.blk i=g.blk i:=fun i=>by subst hg';rfl
 have hrow:∀i,D i->g'.row i=g.row i:=fun i hi=>by
  have:i≠n:=fun e=>hn (e▸hi);subst hg';simp[Gh.BQ,this]
 have hnew:g'.row n=some ⟨ρ.b,len,ρ.cap,ρ.sz,ρ.off⟩:=by subst hg';simp[Gh.BQ]
 have hmb:g'.m ρ.b=ρ.off+len*ρ.sz:=by subst hg';simp[Gh.BQ]
 have hmo:∀b,b≠ρ.b->g'.m b=g.m b:=fun b hb=>by subst hg';simp[Gh.BQ,hb]
 have hm:∀b,g.m b<=g'.m b:=fun b=>by
  by_cases hb:b=ρ.b
  .subst hb;rw[hmb,h3];exact Nat.add_le_add_left (gX _ hlen) _
  grind
 have hheap:(w.setRow ρ.b cur').heap[ρ.b]? =some (.cells cur' t (0,0)):=setRow_heap w _ _ _ t _ hh;have hother:∀b,b≠ρ.b->(w.setRow ρ.b cur').heap[b]? =w.heap[b]? :=fun b hb=>setRow_other w _ b _ hb;have hcell:∀b o,o<g.m b->(w.setRow ρ.b cur').cell? ⟨b,o,none⟩=w.cell? ⟨b,o,none⟩:=fun b o ho=>by
  by_cases hb:b=ρ.b
  .subst hb;rw[KO hheap,KO hh]
   grind
  .exact Z3 w _ _ b o hb
 have hDr:D r:=hR.lt r _ hr;have hnr:r≠n:=fun e=>hn (e▸hDr);have hent:∀i e,zo ((n,A7.row)::(r,A7.gone)::es) i=some e->(i=n/\e= .row)\/(i=r/\e= .gone)\/(i≠n/\i≠r/\zo es i=some e):=fun i e h=>by
  by_cases hi:i=n
  .subst hi;exact .inl ⟨rfl,ug h⟩
  .rcases O5 (yo hi h) with⟨h5,h6⟩|⟨h5,h6⟩;all_goals grind
 have hfold:∀i e b,zo es i=some e->e.AD g' i=some b->e.AD g i=some b:=fun i e b h1 h2=>by
  rw[A7.Ci (hR.lt i e h1) (g:=g) (fun i _=>hblk i) hrow] at h2;exact h2
 have hrb:(A7.row).AD g r=some ρ.b:=by simp[A7.AD,hρ]
 have hne:∀i e b,i≠r->zo es i=some e->e.AD g i=some b->b≠ρ.b:=fun i e b hi h5 h6 e2=>by
  subst e2;exact hi (hR.Bd i r e _ _ h5 hr h6 hrb)
 have hnf:∀b,(A7.row).AD g' n=some b->b=ρ.b:=fun b h=>by simp[A7.AD,hnew] at h;omega
 refine⟨hR.step hm hcell (fun i hi=> .inl hi) (fun i _=>hblk i) hrow ?_ ?_ ?_,?_⟩
 .intro i e he;rcases hent i e he with⟨rfl,rfl⟩|⟨rfl,rfl⟩|⟨h5,h6,h7⟩
  .refine .inr ⟨.inr rfl,fun ρ' hρ'=> ?_⟩
   grind
  .exact .inr ⟨.inl hDr,trivial⟩
  grind
 .intro i j e e' b h5 h6 h7 h8;rcases hent i e h5 with⟨rfl,rfl⟩|⟨rfl,rfl⟩|⟨h9,h10,h11⟩
  .rcases hent j e' h6 with⟨rfl,rfl⟩|⟨rfl,rfl⟩|⟨h12,h13,h14⟩
   .rfl
   .cases h8
   grind
  .cases h7
  .rcases hent j e' h6 with⟨rfl,rfl⟩|⟨rfl,rfl⟩|⟨h12,h13,h14⟩
   .grind
   .cases h8
   .exact hR.Bd i j e e' b h11 h14 (hfold i e b h11 h7) (hfold j e' b h14 h8)
 .intro b hb;simp at hb;have h5:ρ.b<w.heap.size:=(g8.1 hh).1;rw[hmo b kn];exact hR.fresh b hb
 .refine ⟨rfl,rfl,rfl,ko,hcell,hm,fun i _=>hblk i,hrow,fun b hb hf=> ?_,?_⟩
  .have:b≠ρ.b:=fun e=>hf ⟨r,_,hr,kr⟩
   grind
  .rintro b ⟨i,e,h5,h6⟩;rcases hent i e h5 with⟨rfl,rfl⟩|⟨rfl,rfl⟩|⟨h9,h10,h11⟩
   .exact .inl ⟨r,_,hr,kr⟩
   .cases h6
   .exact .inl ⟨i,e,h11,hfold i e b h11 h6⟩
def OS(E:Env)(N:Nat)(o:Oper)(a:AF)(pre:Es)(v:V)(news:List Nat)(post:Es):Prop:=
 ∀g D es w act,R E.G g D es w->(∀p∈pre,zo es p.1=some p.2)->(∀n∈news,¬D n)->Bi g D w N act a->∀(K:Act->World->Prop) (Q:Exit->Act->World->Prop),
  (∀g' v' w',R E.G g' (fun n=>D n\/n∈news) (post++es) w'->Aq g' (fun n=>D n\/n∈news) w' v' v->Ext D g (Av g es) w g' (Av g' (post++es)) w'->K (act.put o.dst v') w')->o.wp E.P act w K Q
def Ku(E:Env)(N:Nat)(o:Oper)(a:AF)(pre:Es)(v:V)(news:List Nat)(post:Es):Prop:=
 ∀g D es w act,R E.G g D es w->ET E.Y g (Av g es) w->(∀p∈pre,zo es p.1=some p.2)->(∀n∈news,¬D n)->Bi g D w N act a->∀(K:Act->World->Prop) (Q:Exit->Act->World->Prop),
  (∀g' v' w',R E.G g' (fun n=>D n\/n∈news) (post++es) w'->Aq g' (fun n=>D n\/n∈news) w' v' v->Ext D g (Av g es) w g' (Av g' (post++es)) w'->K (act.put o.dst v') w')->o.wp E.P act w K Q
theorem OS.y{E:Env}{N:Nat}{o:Oper}{a:AF}{pre:Es}{v:V}{news:List Nat}{post:Es}(h:OS E N o a pre v news post):Ku E N o a pre v news post:=
 fun g D es w act hR _=>h g D es w act hR
section
variable {E:Env} {N:Nat} {o:Oper} {a:AF}
theorem OS.of_run{pre:Es}{v:V}{news:List Nat}{post:Es}
 (h:∀g D es w act,R E.G g D es w->(∀p∈pre,zo es p.1=some p.2)->(∀n∈news,¬D n)->Bi g D w N act a->
  ∃g' v' w',(execOp act.eval o).run E.P w= .ok (.value v') w'/\R E.G g' (fun n=>D n\/n∈news) (post++es) w'/\Aq g' (fun n=>D n\/n∈news) w' v' v/\Ext D g (Av g es) w g' (Av g' (post++es)) w'):
 OS E N o a pre v news post:=by
 intro g D es w act hR hp hn hF K Q hK;obtain⟨g',v',w',h1,h2,h3,h4⟩:=h g D es w act hR hp hn hF;unfold Oper.wp;rw[h1];exact hK g' v' w' h2 h3 h4
theorem OS.HD{pre:Es}{post:Es}
 (h:∀g D es w act,R E.G g D es w->(∀p∈pre,zo es p.1=some p.2)->Bi g D w N act a->
  ∃w',(execOp act.eval o).run E.P w= .ok .skip w'/\R E.G g D (post++es) w'/\Ext D g (Av g es) w g (Av g (post++es)) w'):
 OS E N o a pre (.AP []) [] post:=by
 intro g D es w act hR hp hn hF K Q hK;obtain⟨w',h1,h2,h4⟩:=h g D es w act hR hp hF;unfold Oper.wp;rw[h1];exact hK g undef w' (h2.more fun n h=> .inl h) (.AP [] [] rfl (fun i v c h=>ko)) h4
theorem OS.pure{pre:Es}{v:V}
 (h:∀g D es w act,R E.G g D es w->(∀p∈pre,zo es p.1=some p.2)->Bi g D w N act a->∃v',(execOp act.eval o).run E.P w= .ok (.value v') w/\Aq g D w v' v):
 OS E N o a pre v [] []:=
 .of_run fun g D es w act hR hp _ hF=>
  let ⟨v',h1,h2⟩:=h g D es w act hR hp hF
  ⟨g,v',w,h1,hR.more fun n h=> .inl h,h2.more fun n h=> .inl h,.refl ..⟩
theorem Aq.BS{g:Gh}{D:Nat->Prop}{w:World}{v:Value}{k:IntKind}{n:Int}(h:Aq g D w v (.int k n)):v= .int k n:=by
 cases h with|data h=>cases h;rfl
theorem Aq.DE{g:Gh}{D:Nat->Prop}{w:World}{v:Value}{b:Bool}(h:Aq g D w v (.bool b)):v= .bool b:=by
 cases h with|data h=>cases h;rfl
theorem Aq.GY{g:Gh}{D:Nat->Prop}{w:World}{v:Value}{cs:List V}(h:Aq g D w v (.agg cs)):
 ∃vs:List Value,v= .agg vs.toArray/\vs.length=cs.length/\(∀v∈vs,v.oneCell'=true)/\∀(i:Nat) v c,vs[i]? =some v->cs[i]? =some c->Aq g D w v c:=by
 cases h with
 |data h=>cases h
 |agg vs _ hl h1 h=>grind
theorem Aq.Kw{g:Gh}{D:Nat->Prop}{w:World}{v:Value}{cs:List V}(h:Aq g D w v (.AP cs)):
 ∃vs:List Value,v= .tuple vs.toArray/\vs.length=cs.length/\∀(i:Nat) v c,vs[i]? =some v->cs[i]? =some c->Aq g D w v c:=by
 cases h with
 |data h=>cases h
 |AP vs _ hl h=>grind
theorem Aq.Bq{g:Gh}{D:Nat->Prop}{w:World}{v:Value}{sp:Sp}{l:SL V}(h:Aq g D w v (.slice sp l)):A2 g.m w v (.slice .any l):=by
 have:=Ap.any sp l g D w v h;cases this<;>simp_all
theorem Aq.LI{g:Gh}{D:Nat->Prop}{w:World}{v:Value}{f:Fn}{fi caps:List V}(h:Aq g D w v (.fn f fi caps)):
 ∃vs vs':List Value,v= .func f vs.toArray vs'.toArray/\vs.length=fi.length/\vs'.length=caps.length/\(∀(i:Nat) v c,vs[i]? =some v->fi[i]? =some c->Aq g D w v c)/\
  ∀(i:Nat) v c,vs'[i]? =some v->caps[i]? =some c->Aq g D w v c:=by
 cases h with
 |data h=>cases h
 |fn _ vs vs' _ _ h1 h2 h3 h4=>grind
theorem A2.Bq{m:Nat->Nat}{w:World}{v:Value}{l:SL V}(h:A2 m w v (.slice .any l)):∃b cap,v= .slice b l.len cap:=by
 cases h<;>simp_all
theorem MO{t:TypeId}{i:TI}(h:E.ti t=some i):∃inf,E.P.info? t=some inf/\inf.size=i.size/\∃z,inf.zero=some z/\MD z.cells.toList i.zero=true:=by
 have:=Env.KZ h;unfold PX at this;rw[fD] at this;have h1:=this.1;split at h1
 .rename_i inf hi;rw[fD] at h1;have h2:=h1.2;split at h2;all_goals simp_all
 grind
theorem MV{t:TypeId}{i:TI}(h:E.ti t=some i):∃d,E.P.underlying t=some d/\(match d,i.desc with
 |(.int k),.int k'=>decide (k=k')
 | .bool,.bool=>true
 | .string,.str=>true
 |(.struct fs),.strct gs=>Jm E.P fs.toList gs
 |(.array n e),.arr n' esz eagg=>Nat.beq n n'&&MN E.P e esz&&Nat.blt 0 esz&&(match PW E.P e with|some b=>decide (b=eagg)|none=>false)
 |(.slice e),.slc c esz bytes=>Vj E.P e esz bytes&&Nat.blt 0 esz&&Og c esz
 |d,.other=>(match d with| .struct _| .array _ _| .slice _=>false|_=>true)
 |_,_=>false)=true:=by
 have:=Env.KZ h;unfold PX at this
 grind
theorem VT{t:TypeId}{inf:TypeInfo}{z:Value}{w:World}(h:E.P.info? t=some inf)(hz:inf.zero=some z):(zeroValue t).run E.P w= .ok z w:=by
 simp[zeroValue,typeInfo,h,hz]
theorem vq{t:TypeId}{inf:TypeInfo}{w:World}(h:E.P.info? t=some inf):(sizeOf t).run E.P w= .ok inf.size w:=by
 simp[sizeOf,typeInfo,h]
theorem wj{t:TypeId}{d:TypeDesc}{w:World}(h:E.P.underlying t=some d):(underlying t).run E.P w= .ok d w:=by
 simp[underlying,h]
def TD.agg:TD->Bool| .strct _| .arr _ _ _=>true|_=>false
theorem Ya1{t:TypeId}{i:TI}{w:World}(h:E.ti t=some i):(isAgg t).run E.P w= .ok i.desc.agg w:=by
 obtain⟨d,h1,h2⟩:=MV h;unfold isAgg;simp only[Sem.run_bind,wj h1,Result.andThen_ok];revert h2;cases d<;>cases i.desc<;>simp[TD.agg]
theorem Ql:∀{vs:List Value} {cs:List V},MD vs cs=true->vs.length=cs.length/\(∀v∈vs,v.oneCell'=true)/\
 ∀(g:Gh) (D:Nat->Prop) (w:World) (i:Nat) v c,vs[i]? =some v->cs[i]? =some c->Aq g D w v c:=by
 intro vs;induction vs with
 |nil=>intro cs h;cases cs with|nil=>simp|cons=>simp[MD] at h
 |cons v l ih=>
  intro cs h;cases cs with
  |nil=>simp[MD] at h
  |cons c l'=>
   simp only[MD,fD] at h;obtain⟨h1,h2⟩:=h;obtain⟨h3,h4,h5⟩:=ih h2;have hv:v.oneCell'=true/\∀(g:Gh) (D:Nat->Prop) (w:World),Aq g D w v c:=by
    split at h1
    .simp only[fD,decide_eq_true_eq] at h1;obtain⟨rfl,rfl⟩:=h1;exact⟨rfl,fun _ _ _=> .data (.int _ _)⟩
    .simp only[decide_eq_true_eq] at h1;subst h1;exact⟨rfl,fun _ _ _=> .data (.bool _)⟩
    .simp only[decide_eq_true_eq] at h1;subst h1;exact⟨rfl,fun _ _ _=> .data (.str _)⟩
    .exact ⟨rfl,fun _ _ _=> .nilS _ (gA h1)⟩
    .exact ⟨rfl,fun _ _ _=> .nilp⟩
    .exact ⟨rfl,fun _ _ _=> .nilf⟩
    .exact ⟨rfl,fun _ _ _=> .raw _⟩
    .exact ⟨rfl,fun _ _ _=> .raw _⟩
    grind
   grind
theorem OS.move{x:Operand}{v:V}(ho:o.op= .move x\/o.op= .assign x)(h:ev E o.type a x=some v):OS E N o a [] v [] []:=
 .pure fun g D es w act hR _ hF=>⟨_,by rcases ho with ho|ho<;>simp[execOp,ho],yk h hR hF⟩
theorem OS.pick{c x y:Operand}{b:Bool}{v:V}(ho:o.op= .pick c x y)(hc:ev E 0 a c=some (.bool b))(h:ev E o.type a (if b then x else y)=some v):OS E N o a [] v [] []:=
 .pure fun g D es w act hR _ hF=>by
  have h1:=(yk hc hR hF).DE;have h2:=yk h hR hF;refine⟨_,?_,h2⟩;cases b<;>simp[execOp,ho,h1,asBool]
def cellsOf:V->Option (List V)
 | .agg cs=>some cs
 | .AP _=>none
 | .raw _=>none
 |v=>some [v]
theorem Nz{c:V}{cs:List V}(h:cellsOf c=some cs){g:Gh}{D:Nat->Prop}{w:World}{v:Value}(hv:Aq g D w v c):
 ∃vs:List Value,v.cells=vs.toArray/\vs.length=cs.length/\(∀v∈vs,v.oneCell'=true)/\∀(i:Nat) v c,vs[i]? =some v->cs[i]? =some c->Aq g D w v c:=by
 have one:∀{v:Value} {c:V},Aq g D w v c->v.oneCell'=true->v.cells= #[v]->∃vs:List Value,v.cells=vs.toArray/\vs.length=[c].length/\(∀v∈vs,v.oneCell'=true)/\∀(i:Nat) v c',vs[i]? =some v->[c][i]? =some c'->Aq g D w v c':=by
  grind
 have hv0:=hv;cases hv with
 |data h1=>cases h1<;>(simp only[cellsOf,fI] at h;subst h;exact one hv0 rfl rfl)
 |agg vs cs' hl h1 h2=>simp only[cellsOf,fI] at h;subst h;exact⟨vs,rfl,hl,h1,h2⟩
 |AP=>cases h
 |raw=>cases h
 |own r hr v l h1 hd=>
  simp only[cellsOf,fI] at h;subst h;cases hd<;>exact one hv0 rfl rfl
 |_=>simp only[cellsOf,fI] at h;subst h;exact one hv0 rfl rfl
theorem ZS(D:Nat->Prop)(g:Gh)(n:Nat)(w:World){b:Nat}{ρ:Option Fj}:Aq (g.AU n b ρ) (fun i=>D i\/i∈[n]) w (.pointer (some ⟨b,0,none⟩)) (.ptr n 0):=by
 have h:=Aq.ptr (g:=g.AU n b ρ) (D:=fun i=>D i\/i∈[n]) (w:=w) n 0 (Or.inr (gp.2 rfl));have hb:(g.AU n b ρ).blk n=b:=l9
 grind
theorem OS.box{t:TypeId}{x:Operand}{c:V}{cs:List V}{n:Nat}(ho:o.op= .box t x)(h:ev E t a x=some c)(hc:cellsOf c=some cs):OS E N o a [] (.ptr n 0) [n] [(n,.var cs)]:=
 .of_run fun g D es w act hR _ hn hF=>by
  obtain⟨vs,h1,h2,h3,h4⟩:=Nz hc (yk h hR hF);obtain⟨hR',hx⟩:=hR.box (hn n ko) t (jD h2.symm) h3 h4;refine⟨g.AU n w.heap.size none,.pointer (some ⟨w.heap.size,0,none⟩),w.alloc (.cells vs.toArray t),?_,hR'.more (fun i hi=>kr),?_,hx⟩
  .simp only[execOp,ho,Instr.box,newVar,newRow,Sem.run_bind,Sem.run_pure,run_newObj,Result.andThen_ok,h1,World.alloc_eq]
  .exact ZS D g n _
theorem OS.alloc{t:TypeId}{i:TI}{n:Nat}(ho:o.op= .alloc t)(h:E.ti t=some i):OS E N o a [] (.ptr n 0) [n] [(n,.var i.zero)]:=
 .of_run fun g D es w act hR _ hn hF=>by
  obtain⟨inf,h1,h2,z,h3,h4⟩:=MO h;obtain⟨h5,h6,h7⟩:=Ql h4;obtain⟨hR',hx⟩:=hR.box (hn n ko) t (jD h5.symm) h6 (fun i v c hv hc=>h7 g D w i v c hv hc);refine⟨g.AU n w.heap.size none,.pointer (some ⟨w.heap.size,0,none⟩),w.alloc (.cells z.cells.toList.toArray t),?_,hR'.more (fun i hi=>kr),?_,hx⟩
  .simp only[execOp,ho,Instr.alloc,newVar,newRow,Sem.run_bind,Sem.run_pure,run_newObj,Result.andThen_ok,VT h1 h3,World.alloc_eq,Array.toArray_toList]
  .exact ZS D g n _
def KL(i:TI)(cs:List V):Option V:=
 bif i.desc.agg then(bif Nat.ble i.size cs.length then some (.agg (cs.take i.size)) else none) else cs.head?
theorem IK(b off n:Nat):(⟨b,off,none⟩:Addr).add n=⟨b,off+n,none⟩:=by
 unfold Addr.add;simp
theorem Uh{t:TypeId}{i:TI}{b off:Nat}{cs:List V}{c:V}{g:Gh}{D:Nat->Prop}{w:World}(h:E.ti t=some i)(hc:KL i cs=some c)(f:Nat->Value)
 (h1:∀j,j<cs.length->w.cell? ⟨b,off+j,none⟩=some (f j)) (h2:∀(j:Nat) c,cs[j]? =some c->Aq g D w (f j) c/\(f j).oneCell'=true):
 ∃v,(loadVar t ⟨b,off,none⟩).run E.P w= .ok v w/\Aq g D w v c:=by
 obtain⟨inf,hi,hs,_⟩:=MO h;unfold loadVar;simp only[Sem.run_bind,Ya1 h,Result.andThen_ok];unfold KL at hc;cases ha:i.desc.agg with
 |true=>
  rw[ha] at hc;simp only[cond_true] at hc;cases hb:Nat.ble i.size cs.length with
  |false=>grind
  |true=>
   rw[hb] at hc;simp only[cond_true,fI] at hc;have hle:=fP hb;have hload:=run_loadCells (P:=E.P) (w:=w) ⟨b,off,none⟩ i.size f (fun j hj=>by rw[IK];grind);subst hc;refine⟨.agg ((List.range i.size).map f).toArray,?_,?_⟩
   .simp only[if_true,Sem.run_bind,vq hi,Result.andThen_ok,hs,hload,Sem.run_pure]
   .refine .agg _ _ kr ?_ ?_
    .intro v hv;simp only[fO,iT] at hv;obtain⟨j,hj,rfl⟩:=hv;exact(h2 j _ (fG kn)).2
    grind
 |false=>
  rw[ha] at hc;simp only[cond_false] at hc;cases cs with
  |nil=>cases hc
  |cons c' l=>
   simp only[List.head?_cons,fI] at hc;subst hc;have h3:=h1 0 ko;simp_all
end
section
variable {E:Env} {N:Nat} {o:Oper} {a:AF}
theorem A2.one{m:Nat->Nat}{w:World}{v:Value}{c:V}(h:A2 m w v c):v.oneCell'=true:=by cases h<;>rfl
theorem OS.Ox{t:TypeId}{x:Operand}{i:TI}{cs:List V}{c:V}(ho:o.op= .load t x)(ht:E.ti t=some i)(hx:ev E 0 a x=some (.addr cs))(hc:KL i cs=some c):OS E N o a [] c [] []:=
 .pure fun g D es w act hR _ hF=>by
  have h1:=yk hx hR hF;generalize hv:act.eval x=v at h1;cases h1 with
  |data h=>cases h
  |addr b off _ f hm hc1 hr=>
   obtain⟨v',h2,h3⟩:=Uh (E:=E) (g:=g) (D:=D) (w:=w) (b:=b) (off:=off) ht hc f hc1 (fun j c hj=>⟨.data (hr j c hj),(hr j c hj).one⟩);exact⟨v',oN,h3⟩
theorem OS.Om{t:TypeId}{x:Operand}{i:TI}{n off:Nat}{cs:List V}{c:V}(ho:o.op= .load t x)(ht:E.ti t=some i)(hx:ev E 0 a x=some (.ptr n off))(hc:KL i (cs.drop off)=some c):
 OS E N o a [(n,.var cs)] c [] []:=
 .pure fun g D es w act hR hp hF=>by
  have h1:=yk hx hR hF;have hn:=hp (n,.var cs) ko;obtain⟨_,vs,t',h4,h5,h6,h7,_⟩:=hR.Cg n _ hn;generalize hv:act.eval x=v at h1;cases h1 with
  |data h=>cases h
  |ptr _ _ hD=>
   obtain⟨v',h2,h3⟩:=Uh (E:=E) (g:=g) (D:=D) (w:=w) (b:=g.blk n) (off:=off) ht hc (fun j=>vs.getD (off+j) undef)
    (fun j hj=>by
     simp only[List.length_drop] at hj;rw[KO h4]
     grind)
    (fun j c hj=>by
     grind)
   exact⟨v',oN,h3⟩
theorem XV{α:Type}(l m:List α)(o i:Nat)(ho:o+m.length<=l.length):
 (l.take o++m++l.drop (o+m.length))[i]? =if i<o then l[i]? else if i<o+m.length then m[i-o]? else l[i]? :=by
 grind
theorem OS.store{t:TypeId}{x y:Operand}{i:TI}{n off:Nat}{cs:List V}{c:V}{vc:List V}(ho:o.op= .store t x y)(ht:E.ti t=some i)(hx:ev E 0 a x=some (.ptr n off))(hy:ev E t a y=some c)
 (hc:cellsOf c=some vc) (hs:vc.length=i.size) (hb:Nat.ble (off+vc.length) cs.length=true):
 OS E N o a [(n,.var cs)] (.AP []) [] [(n,.var (cs.take off++vc++cs.drop (off+vc.length)))]:=
 .HD fun g D es w act hR hp hF=>by
  have h1:=yk hx hR hF;have hn:=hp (n,.var cs) ko;have hle:=fP hb;obtain⟨_,vs,t',h4,h5,h6,h7,_⟩:=hR.Cg n _ hn;obtain⟨us,h8,h9,h10,h11⟩:=Nz hc (yk hy hR hF);obtain⟨inf,h12,h13,_⟩:=MO ht;have hl:us.length=vc.length:=h9;generalize hv:act.eval x=v at h1;cases h1 with
  |data h=>cases h
  |ptr _ _ hD=>
   have hst:=run_storeCells_at E.P (g.blk n) off t' us 0 vs.toArray w h4 kr h10;obtain⟨hR',hx'⟩:=hR.store hn h4 (vs':=vs.take off++us++vs.drop (off+us.length)) (cs':=cs.take off++vc++cs.drop (off+vc.length)) kr kr
    (fun u hu=>by
     grind)
    (fun j u d hu hd=>by
     grind)
   refine⟨w.setRow (g.blk n) (vs.take off++us++vs.drop (off+us.length)).toArray,?_,hR',hx'⟩;have h14:((act.eval y).cells.size≠inf.size)=False:=kr
   have h15:(act.eval y).cells.toList=us:=by rw[h8]
   simp only[execOp,ho,Instr.storeAt,Instr.sureAddr,hv,storeVar,Sem.run_bind,Sem.run_pure,Result.andThen_ok,vq h12,h14,if_false,h15,hst,jc]
theorem U5:∀{fs:List Field} {gs:List (Nat×Nat×Bool)},Jm E.P fs gs=true->∀(f:Nat) p,gs[f]? =some p->
 ∃fd,fs[f]? =some fd/\fd.offset=p.1/\(∃inf,E.P.info? fd.type=some inf/\inf.size=p.2.1)/\0<p.2.1/\(∀w,(isAgg fd.type).run E.P w= .ok p.2.2 w):=by
 intro fs;induction fs with
 |nil=>intro gs h f p hp;cases gs with|nil=>grind|cons=>simp[Jm] at h
 |cons fd l ih=>
  intro gs h f p hp;cases gs with
  |nil=>grind
  |cons q l'=>
   simp only[Jm,fD] at h;obtain⟨⟨⟨⟨h1,h2⟩,h3⟩,h4⟩,h5⟩:=h;cases f with
   |succ f=>grind
   |zero=>
    simp at hp;subst hp;refine⟨fd,rfl,gA h1,?_,fP h3,?_⟩
    .unfold MN at h2;split at h2;all_goals simp_all
    .intro w;unfold PW at h4;unfold isAgg;cases hu:E.P.underlying fd.type with
     |none=>grind
     |some d=>
      rw[hu] at h4;simp only[Sem.run_bind,wj hu,Result.andThen_ok];cases d<;>simp at h4<;>simp[h4]
theorem SI{t:TypeId}{i:TI}{gs:List (Nat×Nat×Bool)}(h:E.ti t=some i)(hd:i.desc= .strct gs):∃fs,E.P.underlying t=some (.struct fs)/\Jm E.P fs.toList gs=true:=by
 obtain⟨d,h1,h2⟩:=MV h
 grind
theorem aR{fd:Field}{inf:TypeInfo}{b off:Nat}{w:World}(h:E.P.info? fd.type=some inf)(hs:0<inf.size):
 (fieldPlace ⟨b,off,none⟩ fd).run E.P w= .ok ⟨b,off+fd.offset,none⟩ w:=by
 have:¬inf.size=0:=kn
 simp[fieldPlace,vq h,this,IK]
theorem OS.GL{t:TypeId}{x:Operand}{i:TI}{gs:List (Nat×Nat×Bool)}{f:Nat}{p:Nat×Nat×Bool}{cs:List V}(ho:o.op= .fieldAddr t x f)(ht:E.ti t=some i)(hd:i.desc= .strct gs)
 (hf:gs[f]? =some p) (hx:ev E 0 a x=some (.addr cs)) (hb:Nat.ble p.1 cs.length=true):OS E N o a [] (.addr (cs.drop p.1)) [] []:=
 .pure fun g D es w act hR _ hF=>by
  obtain⟨fs,h1,h2⟩:=SI ht hd;obtain⟨fd,h3,h4,⟨inf,h5,h6⟩,h7,_⟩:=U5 h2 f p hf;have h8:=yk hx hR hF;have hle:=fP hb;generalize hv:act.eval x=v at h8;cases h8 with
  |data h=>cases h
  |addr b off _ k hm hc hr=>
   have h9:fs[f]? =some fd:=kr
   refine⟨.pointer (some ⟨b,off+p.1,none⟩),?_,?_⟩
   .simp only[execOp,ho,Instr.fieldAt,wj h1,Sem.run_bind,Result.andThen_ok,h9,Instr.sureAddr,hv,Sem.run_pure,aR (E:=E) h5 kn,h4]
   .refine .addr b (off+p.1) _ (fun j=>k (p.1+j)) kr (fun j hj=> ?_) (fun j c hj=> ?_);all_goals grind
theorem OS.Gz{t:TypeId}{x:Operand}{i:TI}{gs:List (Nat×Nat×Bool)}{f:Nat}{p:Nat×Nat×Bool}{n off:Nat}(ho:o.op= .fieldAddr t x f)(ht:E.ti t=some i)(hd:i.desc= .strct gs)
 (hf:gs[f]? =some p) (hx:ev E 0 a x=some (.ptr n off)):OS E N o a [] (.ptr n (off+p.1)) [] []:=
 .pure fun g D es w act hR _ hF=>by
  obtain⟨fs,h1,h2⟩:=SI ht hd;obtain⟨fd,h3,h4,⟨inf,h5,h6⟩,h7,_⟩:=U5 h2 f p hf;have h8:=yk hx hR hF;generalize hv:act.eval x=v at h8;cases h8 with
  |data h=>cases h
  |ptr _ _ hD=>
   have h9:fs[f]? =some fd:=kr
   refine⟨.pointer (some ⟨g.blk n,off+p.1,none⟩),?_,.ptr n _ hD⟩;simp only[execOp,ho,Instr.fieldAt,wj h1,Sem.run_bind,Result.andThen_ok,h9,Instr.sureAddr,hv,Sem.run_pure,aR (E:=E) h5 kn,h4]
theorem Aq.sub{g:Gh}{D:Nat->Prop}{w:World}{vs:List Value}{cs:List V}(hl:vs.length=cs.length)(h1:∀v∈vs,v.oneCell'=true)(h:∀(i:Nat) v c,vs[i]? =some v->cs[i]? =some c->Aq g D w v c)
 (off n:Nat):Aq g D w (.agg ((vs.drop off).take n).toArray) (.agg ((cs.drop off).take n)):=by
 refine .agg _ _ kr (fun v hv=>h1 v (List.mem_of_mem_drop (List.mem_of_mem_take hv))) (fun i v c hv hc=> ?_)
 grind
def Wj(p:Nat×Nat×Bool)(cs:List V):Option V:=bif p.2.2 then some (.agg ((cs.drop p.1).take p.2.1)) else cs[p.1]?
theorem OS.field{t:TypeId}{x:Operand}{i:TI}{gs:List (Nat×Nat×Bool)}{f:Nat}{p:Nat×Nat×Bool}{cs:List V}{c:V}(ho:o.op= .field t x f)(ht:E.ti t=some i)(hd:i.desc= .strct gs)
 (hf:gs[f]? =some p) (hx:ev E 0 a x=some (.agg cs)) (hc:Wj p cs=some c):OS E N o a [] c [] []:=
 .pure fun g D es w act hR _ hF=>by
  obtain⟨fs,h1,h2⟩:=SI ht hd;obtain⟨fd,h3,h4,⟨inf,h5,h6⟩,h7,h8⟩:=U5 h2 f p hf;obtain⟨vs,h9,h10,h11,h12⟩:=(yk hx hR hF).GY;have h13:fs[f]? =some fd:=kr
  unfold Wj at hc;cases hb:p.2.2 with
  |true=>
   rw[hb] at hc;simp only[cond_true,fI] at hc;subst hc;refine⟨_,?_,Aq.sub h10 h11 h12 p.1 p.2.1⟩;simp only[execOp,ho,Instr.field,wj h1,Sem.run_bind,Result.andThen_ok,h13,h9,asAgg,Sem.run_pure,part,h8,hb,if_true,vq h5,h4,h6];simp
  |false=>
   rw[hb] at hc;simp only[cond_false] at hc;have hlt:=(fZ.1 hc).1;have h14:vs[p.1]? =some (vs[p.1]' kn):=fG _;refine⟨vs[p.1]' kn,?_,h12 _ _ c h14 hc⟩;have h15:vs.toArray[p.1]? =some (vs[p.1]' kn):=ko
   simp only[execOp,ho,Instr.field,wj h1,Sem.run_bind,Result.andThen_ok,h13,h9,asAgg,Sem.run_pure,part,h8,hb,jE,if_false,h4,h15]
theorem OS.extract{x:Operand}{ix:Nat}{cs:List V}{c:V}(ho:o.op= .extract x ix)(hx:ev E 0 a x=some (.AP cs))(hc:cs[ix]? =some c):OS E N o a [] c [] []:=
 .pure fun g D es w act hR _ hF=>by
  obtain⟨vs,h9,h10,h12⟩:=(yk hx hR hF).Kw;have hlt:=(fZ.1 hc).1;have h14:vs[ix]? =some (vs[ix]' kn):=fG _;refine⟨vs[ix]' kn,?_,h12 _ _ c h14 hc⟩;have h15:vs.toArray[ix]? =some (vs[ix]' kn):=ko
  simp only[execOp,ho,Instr.extract,h9,h15,Sem.run_bind,Result.andThen_ok,Sem.run_pure]
theorem OS.not{t:TypeId}{x:Operand}{b:Bool}(ho:o.op= .unOp .not t x)(hx:ev E 0 a x=some (.bool b)):OS E N o a [] (.bool (!b)) [] []:=
 .pure fun g D es w act hR _ hF=>⟨_,by simp[execOp,ho,(yk hx hR hF).DE,Op.unary],.data (.bool _)⟩
def TM(op:BinOp)(k:IntKind)(n m:Int):Option V:=
 match op with
 | .add=>some (.int k (k.wrap (n+m)))
 | .sub=>some (.int k (k.wrap (n-m)))
 | .mul=>some (.int k (k.wrap (n*m)))
 | .eql=>some (.bool (n==m))
 | .neq=>some (.bool (n !=m))
 | .lss=>some (.bool (decide (n<m)))
 | .leq=>some (.bool (decide (n<=m)))
 | .gtr=>some (.bool (decide (n>m)))
 | .geq=>some (.bool (decide (n>=m)))
 |_=>none
theorem OS.bin{op:BinOp}{t u:TypeId}{x y:Operand}{k:IntKind}{n m:Int}{c:V}(ho:o.op= .binOp op t x y u)(hx:ev E t a x=some (.int k n))(hy:ev E t a y=some (.int k m))
 (hc:TM op k n m=some c):OS E N o a [] c [] []:=
 .pure fun g D es w act hR _ hF=>by
  have h1:=(yk hx hR hF).BS;have h2:=(yk hy hR hF).BS;have hg:(eqGuard op t x y (act.eval x) (act.eval y)).run E.P w= .ok () w:=by
   rw[h1,h2];unfold eqGuard;simp
  cases op<;>simp only[TM,fI,reduceCtorEq] at hc<;>subst hc<;>
   (refine⟨_,by simp only[execOp,ho,hg,Sem.run_bind,Result.andThen_ok];simp only[h1,h2,binOp,ne_eq,not_true_eq_false,if_false,Op.intArith,Op.intCmp,Sem.run_pure,Result.andThen_ok];rfl,?_⟩;first|exact .data (.int _ _)|exact .data (.bool _))
theorem OS.rem{t u:TypeId}{x y:Operand}{k:IntKind}{n m:Int}(ho:o.op= .binOp .rem t x y u)(hx:ev E t a x=some (.int k n))(hy:ev E t a y=some (.int k m))(hm:m≠0):
 OS E N o a [] (.int k (n.tmod m)) [] []:=
 .pure fun g D es w act hR _ hF=>by
  have h1:=(yk hx hR hF).BS;have h2:=(yk hy hR hF).BS;exact⟨_,by simp[execOp,ho,eqGuard,h1,h2,binOp,Op.intDiv,hm],.data (.int _ _)⟩
theorem OS.add{t u:TypeId}{x y:Operand}{n m:Int}(ho:o.op= .binOp .add t x y u)(hx:ev E t a x=some (.i n))(hy:ev E t a y=some (.i m))(h1: -9223372036854775808<=n+m)(h2:n+m<=9223372036854775807):
 OS E N o a [] (.i (n+m)) [] []:=by
 have:=OS.bin (N:=N) (c:= .int .i64 (IntKind.i64.wrap (n+m))) ho hx hy rfl
 rwa [IntWalk.i64_in _ kn] at this
theorem OS.sub{t u:TypeId}{x y:Operand}{n m:Int}(ho:o.op= .binOp .sub t x y u)(hx:ev E t a x=some (.i n))(hy:ev E t a y=some (.i m))(h1: -9223372036854775808<=n-m)(h2:n-m<=9223372036854775807):
 OS E N o a [] (.i (n-m)) [] []:=by
 have:=OS.bin (N:=N) (c:= .int .i64 (IntKind.i64.wrap (n-m))) ho hx hy rfl
 rwa [IntWalk.i64_in _ kn] at this
theorem OS.Vd{t u:TypeId}{x:Operand}{sp:Sp}{l:SL V}(ho:o.op= .call {callee:= .builtin .len,args:= #[x],argTypes:= #[t]}){i:TI}(ht:E.ti t=some i){c:Option EC}{sz by_:Nat}(hd:i.desc= .slc c sz by_)
 (hx:ev E t a x=some (.slice sp l)):OS E N o a [] (.i l.len) [] []:=
 .pure fun g D es w act hR _ hF=>by
  obtain⟨b,cap,h1⟩:=(yk hx hR hF).Bq.Bq;obtain⟨d,h2,h3⟩:=MV ht;rw[hd] at h3;cases d with
  |slice e=>
   refine⟨_,?_,.data (.int .i64 l.len)⟩;simp[execOp,ho,resolve,invoke,builtin,Builtin.len_,h1,wj h2,goInt]
  |_=>cases h3
def Zf:V->Bool| .addr _=>true| .ptr _ _=>true|_=>false
theorem OS.nilCheck{x:Operand}{c:V}(ho:o.op= .nilCheck x)(hx:ev E 0 a x=some c)(hc:Zf c=true):OS E N o a [] c [] []:=
 .pure fun g D es w act hR _ hF=>by
  have h1:=yk hx hR hF;refine⟨act.eval x,?_,h1⟩;generalize hv:act.eval x=v at h1;cases h1 with
  |addr=>simp[execOp,ho,hv]
  |ptr=>simp[execOp,ho,hv]
  |data h=>cases h<;>cases hc
  |_=>cases hc
def Fo(E:Env)(T:TypeId)(a:AF):List Operand->Option (List V)
 |[]=>some []
 |x::xs=>(ev E T a x).bind fun v=>(Fo E T a xs).map fun vs=>v::vs
theorem QJ{T:TypeId}:∀{xs:List Operand} {vs:List V},Fo E T a xs=some vs->∀{g:Gh} {D:Nat->Prop} {es:Es} {w:World} {act:Act},R E.G g D es w->Bi g D w N act a->
 (xs.map act.eval).length=vs.length/\∀(i:Nat) v c,(xs.map act.eval)[i]? =some v->vs[i]? =some c->Aq g D w v c:=by
 intro xs;induction xs with
 |nil=>intro vs h g D es w act hR hF;simp[Fo] at h;grind
 |cons x l ih=>
  intro vs h g D es w act hR hF;simp only[Fo,fL,fE] at h;obtain⟨v,h1,vs',h2,rfl⟩:=h;obtain⟨h3,h4⟩:=ih h2 hR hF;refine⟨kr,fun i u c hu hc=> ?_⟩;cases i with
  |zero=>simp at hu hc;subst hu;subst hc;exact yk h1 hR hF
  |succ i=>grind
theorem OS.makeFunc{f:Fn}{fi caps:List Operand}{vs us:List V}(ho:o.op= .makeFunc f fi.toArray caps.toArray)(h1:Fo E 0 a fi=some vs)(h2:Fo E 0 a caps=some us):OS E N o a [] (.fn f vs us) [] []:=
 .pure fun g D es w act hR _ hF=>by
  obtain⟨h3,h4⟩:=QJ h1 hR hF;obtain⟨h5,h6⟩:=QJ h2 hR hF;refine⟨.func f (fi.map act.eval).toArray (caps.map act.eval).toArray,?_,.fn f _ _ vs us h3 h5 h4 h6⟩;simp[execOp,ho,Instr.makeFunc]
end
def PE:V->Bool
 | .int _ _=>true| .bool _=>true| .str _=>true| .slice _ _=>true| .ifc _ _=>true|_=>false
theorem Ybt{g:Gh}{D:Nat->Prop}{w:World}{v:Value}{c:V}(h:Aq g D w v c)(hd:PE c=true):A2 g.m w v c.weak:=by
 cases c with
 |int k n=>cases h with|data h=>exact h
 |bool b=>cases h with|data h=>exact h
 |str s=>cases h with|data h=>exact h
 |slice sp l=>exact h.Bq
 |ifc t cs=>cases h with|data h=>exact h
 |_=>cases hd
def ES{α β:Type}(f:α->Option β):List α->Option (List β)
 |[]=>some []
 |x::l=>(f x).bind fun y=>(ES f l).map fun ys=>y::ys
theorem RR{α β:Type}{f:α->Option β}:∀{l:List α} {ys:List β},ES f l=some ys->ys.length=l.length/\∀(i:Nat) x,l[i]? =some x->∃y,ys[i]? =some y/\f x=some y:=by
 intro l;induction l with
 |nil=>intro ys h;simp[ES] at h;grind
 |cons x l ih=>
  intro ys h;simp only[ES,fL,fE] at h
  grind
def Kf(c:Option EC)(sz:Nat)(vcs:List (List V)):Option (SL V):=
 match c with
 |some c=>(ES c.fold vcs).map (.t c)
 |none=>bif vcs.all fun vc=>vc.all PE then some (.u sz (vcs.map fun vc=>vc.map V.weak)) else none
theorem EC.H7(c:EC)(cs:List V)(x:c.sem)(h:c.fold cs=some x):∀v∈cs,PE v=true:=by
 unfold EC.fold at h;split at h<;>first|(cases h;intro v hv;simp only[fW,gm,or_false] at hv;rcases hv with rfl|rfl|rfl|rfl|rfl|rfl|rfl|rfl|rfl<;>rfl)|grind|grind|grind|grind|grind|grind|cases h
theorem cT{c:Option EC}{sz:Nat}{vcs:List (List V)}{l:SL V}(h:Kf c sz vcs=some l)(hc:Og c sz=true):
 l.len=vcs.length/\l.cells=sz/\(∀(i:Nat) vc,vcs[i]? =some vc->l.get i=some (vc.map V.weak)/\∀v∈vc,PE v=true):=by
 cases c with
 |some c=>
  simp only[Kf,fE] at h;obtain⟨xs,h1,rfl⟩:=h;obtain⟨h2,h3⟩:=RR h1;refine⟨h2,gA hc,fun i vc hvc=> ?_⟩;obtain⟨x,h4,h5⟩:=h3 i vc hvc;refine⟨?_,EC.H7 c vc x h5⟩;simp only[SL.get,h4,gM];rw[EC.HK c vc x h5]
 |none=>
  simp only[Kf] at h;cases hb:vcs.all fun vc=>vc.all PE with
  |false=>grind
  |true=>
   rw[hb] at h;simp only[cond_true,fI] at h;subst h;refine⟨nF,rfl,fun i vc hvc=>⟨by simp[SL.get,hvc],?_⟩⟩;have:=fF.1 hb vc (iQ hvc)
   grind
theorem YV{sz k:Nat}(h:0<sz)(n:Nat)(hk:k<n*sz):k/sz<n/\k%sz<sz/\k/sz*sz+k%sz=k:=by
 refine⟨(jo h).2 hk,jW _ h,?_⟩;have:=j6 k sz
 grind
theorem Ygw{α:Type}{sz:Nat}:∀{vcs:List (List α)},(∀vc∈vcs,vc.length=sz)->∀(i j:Nat) vc x,vcs[i]? =some vc->vc[j]? =some x->vcs.flatten[i*sz+j]? =some x:=by
 intro vcs;induction vcs with
 |nil=>simp
 |cons v l ih=>
  intro hl i j vc x h1 h2;have hv:=hl v ko;cases i<;>grind
theorem Xd{α:Type}{sz:Nat}:∀{vcs:List (List α)},(∀vc∈vcs,vc.length=sz)->vcs.flatten.length=vcs.length*sz:=by
 intro vcs;induction vcs<;>grind
section
variable {E:Env} {N:Nat} {o:Oper} {a:AF}
theorem La{t:TypeId}{i:TI}{c:Option EC}{sz bytes:Nat}(h:E.ti t=some i)(hd:i.desc= .slc c sz bytes):
 ∃e inf z,E.P.underlying t=some (.slice e)/\E.P.info? e=some inf/\inf.size=sz/\inf.bytes=bytes/\inf.zero=some z/\z.cells.size=sz/\0<sz/\Og c sz=true:=by
 obtain⟨d,h1,h2⟩:=MV h;rw[hd] at h2;cases d with
 |slice e=>
  simp only[fD] at h2;obtain⟨⟨h3,h4⟩,h5⟩:=h2;unfold Vj at h3;split at h3
  .rename_i inf hi;simp only[fD] at h3;obtain⟨⟨h6,h7⟩,h8⟩:=h3;split at h8;all_goals simp_all
  grind
 |_=>cases h2
theorem Yy{sz:Nat}:∀(parts:List Value) (k:Nat) (cells:Array Value),(∀v∈parts,v.cells.size=sz)->(k+parts.length)*sz<=cells.size->
 Instr.fill (fun i=>some (i*sz,sz)) cells (parts.zipIdx k|>.map fun(v,i)=>(i,v))=
  some (cells.toList.take (k*sz)++(parts.map fun v=>v.cells.toList).flatten++cells.toList.drop ((k+parts.length)*sz)).toArray:=by
 intro parts;induction parts with
 |nil=>intro k cells _ _;simp[Instr.fill]
 |cons v l ih=>
  intro k cells hs hle;have hv:=hs v ko;simp only[fQ] at hle;have hk:(k+1)*sz<=cells.size:=gD (gX _ kn) hle;have hk1:(k+1)*sz=k*sz+sz:=kr
  have hfold:∀(us:List Value) (j:Nat) (cs:Array Value),k*sz+j+us.length<=cs.size->
   (us.zipIdx j).foldl (fun cs (x:Value×Nat)=>cs.setIfInBounds (k*sz+x.2) x.1) cs=(cs.toList.take (k*sz+j)++us++cs.toList.drop (k*sz+j+us.length)).toArray:=by
   intro us;induction us with
   |nil=>simp
   |cons u us ih2=>
    intro j cs hcs;simp only[fQ] at hcs;simp only[jQ,j7];rw[ih2 (j+1) _ kr];congr 1;rw[i7];have:=list_seg_step cs.toList (k*sz+j) u us kn;omega
  have h1:v.cells.zipIdx.foldl (fun cs (x:Value×Nat)=>cs.setIfInBounds (k*sz+x.2) x.1) cells=(cells.toList.take (k*sz)++v.cells.toList++cells.toList.drop (k*sz+sz)).toArray:=by
   rw[<-Array.foldl_toList,Array.toList_zipIdx]
   grind
  simp only[jQ,fJ,Instr.fill];rw[if_neg kr];have h2:(cells.toList.take (k*sz)++v.cells.toList++cells.toList.drop (k*sz+sz)).length=cells.size:=by
   grind
  have:=ih (k+1) (cells.toList.take (k*sz)++v.cells.toList++cells.toList.drop (k*sz+sz)).toArray (fun x hx=>hs x kr) kr;show Instr.fill _ (v.cells.zipIdx.foldl (fun cs (x:Value×Nat)=>cs.setIfInBounds (k*sz+x.2) x.1) cells) _=_;rw[h1,this];congr 2;rw[show k+1+l.length=k+(l.length+1) from kn,fQ];have h3:(cells.toList.take (k*sz)++v.cells.toList).length=(k+1)*sz:=kr
  have h4:List.take ((k+1)*sz) (cells.toList.take (k*sz)++v.cells.toList++cells.toList.drop (k*sz+sz))=cells.toList.take (k*sz)++v.cells.toList:=by
   grind
  have h5:List.drop ((k+(l.length+1))*sz) (cells.toList.take (k*sz)++v.cells.toList++cells.toList.drop (k*sz+sz))=cells.toList.drop ((k+(l.length+1))*sz):=by
   have h6:(k+(l.length+1))*sz=(k+1)*sz+l.length*sz:=kr
   rw[h6,<-h3,jR,List.drop_drop,h3,hk1];simp_all
  grind
theorem ZO{sz:Nat}:∀{cs:List V} {vcs:List (List V)},ES cellsOf cs=some vcs->∀{g:Gh} {D:Nat->Prop} {w:World} {vs:List Value},vs.length=cs.length->
 (∀(i:Nat) v c,vs[i]? =some v->cs[i]? =some c->Aq g D w v c)->(∀vc∈vcs,vc.length=sz)->
 (∀v∈vs,v.cells.size=sz)/\(∀(i j:Nat) vc c,vcs[i]? =some vc->vc[j]? =some c->∃x,(vs.map fun v=>v.cells.toList).flatten[i*sz+j]? =some x/\Aq g D w x c):=by
 intro cs vcs hm g D w vs hl hr hsz;obtain⟨h1,h2⟩:=RR hm;have hv:∀v∈vs,v.cells.size=sz:=by
  intro v hv;obtain⟨i,hi,rfl⟩:=gj hv;have h3:cs[i]? =some (cs[i]' kn):=fG _;obtain⟨vc,h4,h5⟩:=h2 i _ h3;obtain⟨us,h6,h7,_⟩:=Nz h5 (hr i _ _ (fG hi) h3)
  grind
 refine⟨hv,fun i j vc c h3 h4=> ?_⟩;have hi:=(fZ.1 h3).1;have h5:cs[i]? =some (cs[i]' kn):=fG _;have h6:vs[i]? =some (vs[i]' kn):=fG _;obtain⟨vc',h7,h8⟩:=h2 i _ h5;rw[h3] at h7;cases h7;obtain⟨us,h9,h10,_,h11⟩:=Nz h8 (hr i _ _ h6 h5);obtain⟨x,hx⟩:=Az h10.symm h4;refine⟨x,Ygw (sz:=sz) ?_ i j us x ?_ hx,h11 j x c hx h4⟩;all_goals grind
theorem Zsw{G:D5}{g:Gh}{D:Nat->Prop}{es:Es}{w:World}(hR:R G g D es w){c:Option EC}{sz:Nat}{vcs:List (List V)}{l:SL V}(hf:Kf c sz vcs=some l)
 (hc:Og c sz=true) (hsz:∀vc∈vcs,vc.length=sz) (us:List Value) (hus:vcs.length*sz<=us.length)
 (hrel:∀(i j:Nat) vc c,vcs[i]? =some vc->vc[j]? =some c->∃x,us[i*sz+j]? =some x/\Aq g D w x c) (t:TypeId) (cap:Nat) (hcap:vcs.length<=cap):
 A2 (g.share w.heap.size (vcs.length*sz)).m (w.alloc (.cells us.toArray t)) (.slice (some ⟨w.heap.size,0,none⟩) l.len cap) (.slice .any l):=by
 obtain⟨h1,h2,h3⟩:=cT hf hc;obtain⟨hR',hx⟩:=hR.share us.toArray t (vcs.length*sz) kn;have hget:∀i,i<l.len->∃vc,vcs[i]? =some vc:=fun i hi=>⟨vcs[i]' kn,fG _⟩;refine .slice l w.heap.size 0 cap (fun i j=>us.getD (i*sz+j) undef) (by rw[h1,h2];simp[Gh.share]) kn ?_ ?_ ?_
 .grind
 .intro i j hi hj;rw[h2] at hj ⊢;rw[gN,KO (heap_alloc_new w _)];have:=OI (show i<vcs.length by omega) hj
  grind
 .intro i j cs d hi hcs hd;obtain⟨vc,hvc⟩:=hget i hi;obtain⟨h4,h5⟩:=h3 i vc hvc;rw[h4] at hcs;cases hcs;rw[gJ,fE] at hd;obtain⟨c0,h6,rfl⟩:=hd;obtain⟨x,h7,h8⟩:=hrel i j vc c0 hvc h6;rw[gy,h7];exact(Ybt h8 (h5 c0 (iQ h6))).mono hx.mark hx.cells
theorem OS.buildSlice{t:TypeId}{n:Nat}{xs:List Operand}{i:TI}{c:Option EC}{sz bytes:Nat}{et:TypeId}{cs:List V}{vcs:List (List V)}{l:SL V}
 (ho:o.op= .buildSlice t n (xs.zipIdx.map fun x=>(x.2,x.1)).toArray) (hn:xs.length=n) (ht:E.ti t=some i) (hd:i.desc= .slc c sz bytes) (hev:Fo E et a xs=some cs) (hcs:ES cellsOf cs=some vcs)
 (hsz:(vcs.all fun vc=>Nat.beq vc.length sz)=true) (hf:Kf c sz vcs=some l) (hb:Nat.ble (n*sz) 16777216=true):OS E N o a [] (.slice .full l) [] []:=
 .of_run fun g D es w act hR _ _ hF=>by
  obtain⟨e,inf,z,h1,h2,h3,h4,h5,h6,h7,h8⟩:=La ht hd;obtain⟨h9,h10⟩:=QJ hev hR hF;have hsz':∀vc∈vcs,vc.length=sz:=fun vc hvc=>gA (fF.1 hsz vc hvc);obtain⟨h11,h12⟩:=ZO hcs h9 h10 hsz';have hvl:=(RR hcs).1;have hlen:(xs.map act.eval).length=n:=kr
  have hvn:vcs.length=n:=kn
  have hflat:=Xd (sz:=sz) (vcs:=(xs.map act.eval).map fun v=>v.cells.toList) (fun vc hvc=>by
   grind)
  simp only[gH,hn] at hflat;have hs:=Zsw hR hf h8 hsz' ((xs.map act.eval).map fun v=>v.cells.toList).flatten kr (fun i j vc c hvc hc=>h12 i j vc c hvc hc) e n kn;obtain⟨hR',hx⟩:=hR.share (((xs.map act.eval).map fun v=>v.cells.toList).flatten).toArray e (vcs.length*sz) kr;have hll:=(cT hf h8).1;refine⟨_,.slice (some ⟨w.heap.size,0,none⟩) n n,_,?_,hR'.more (fun n h=> .inl h),?_,hx⟩
  .have hb':¬(n*sz>16777216):=kP
   have hparts:((xs.zipIdx.map fun x=>(x.2,x.1)).toArray.map fun x=>(x.1,act.eval x.2)).toList=((xs.map act.eval).zipIdx 0).map fun(v,i)=>(i,v):=by
    simp[List.zipIdx_map]
   have key:∀cells:Array Value,cells.size=n*sz->Instr.fill (fun i=>some (i*sz,sz)) cells ((xs.zipIdx.map fun x=>(x.2,x.1)).toArray.map fun x=>(x.1,act.eval x.2)).toList=
    some (((xs.map act.eval).map fun v=>v.cells.toList).flatten).toArray:=by
    intro cells hcells;rw[hparts,Yy (xs.map act.eval) 0 cells h11 kr]
    grind
   simp only[execOp,ho,Instr.buildSlice,wj h1,Sem.run_bind,Result.andThen_ok,vq h2,h3,hb',if_false];by_cases hz:n*sz=0
   .exact sw
   .exact rW
  .have hln:l.len=n:=hll.trans hvn;rw[hln] at hs;have hfull:=Aq.full (g:=g.share w.heap.size (vcs.length*sz)) (D:=fun k=>D k\/k∈([]:List Nat)) ⟨w.heap.size,0,none⟩ n l hs;omega
end
section
variable {E:Env} {N:Nat} {o:Oper} {a:AF}
theorem A2.Df{m:Nat->Nat}{w:World}{v:Value}{l:SL V}(h:A2 m w v (.slice .any l)):
 ∃news:List Value,news.length=l.len*l.cells/\(∀u∈news,u.oneCell'=true)/\(∀W:World,W.heap=w.heap->∀P:Program,(Builtin.firstCells l.cells l.len v).run P W= .ok news.toArray W)/\
  (∀i j cs c,l.get i=some cs->cs[j]? =some c->i<l.len->j<l.cells->∃u,news[i*l.cells+j]? =some u/\A2 m w u c)/\(∀i,i<l.len->∃cs,l.get i=some cs/\cs.length=l.cells):=by
 cases h with
 |nilS _ h=>exact⟨[],by simp[h],ko,fun W _ P=>kz,fun i j cs c _ _ hi=>kn,fun i hi=>kn⟩
 |emp _ h a cap=>exact⟨[],by simp[h],ko,fun W _ P=>by simp[h,Builtin.firstCells,loadCells,loadCellsFrom],fun i j cs c _ _ hi=>kn,fun i hi=>kn⟩
 |slice _ b off cap f hm hcap hl hc hr=>
  have hmod:∀k,k<l.len*l.cells->0<l.cells:=fun k hk=>by
   grind
  refine⟨(List.range (l.len*l.cells)).map fun k=>f (k/l.cells) (k%l.cells),ko,?_,?_,?_,hl⟩
  .intro u hu;obtain⟨k,hk,rfl⟩:=fO.1 hu;obtain⟨h1,h2,h3⟩:=YV (hmod k (iT.1 hk)) l.len (iT.1 hk);obtain⟨cs,h4,h5⟩:=hl _ h1;exact(hr _ _ cs _ h1 h4 (fG kn)).one
  .intro W hW P;have:=run_firstCells_some (P:=P) W l.cells l.len ⟨b,off,none⟩ l.len cap ((List.range (l.len*l.cells)).map fun k=>f (k/l.cells) (k%l.cells)) ko (fun k v hv=>by
    rw[gJ,fE] at hv;obtain⟨k',hk',rfl⟩:=hv;obtain⟨h6,h7⟩:=fZ.1 hk';simp only[List.length_range] at h6;simp only[List.getElem_range] at h7;subst h7;obtain⟨h1,h2,h3⟩:=YV (hmod k h6) l.len h6;have:=hc _ _ h1 h2;rw[h3] at this;rw[IK];have hcell:W.cell? ⟨b,off+k,none⟩=w.cell? ⟨b,off+k,none⟩:=by simp[World.cell?,hW]
    grind)
   omega
  .intro i j cs c h1 h2 hi hj;refine⟨f i j,?_,hr i j cs c hi h1 h2⟩;have hlt:=OI hi hj;rw[gJ,fG kr];simp only[List.getElem_range,gM];congr 2
   .rw[jY,Nat.mul_add_div kn,Nat.div_eq_of_lt hj,jc]
   .rw[jY,Nat.mul_add_mod,Nat.mod_eq_of_lt hj]
def SL.app:SL V->SL V->Option (SL V)
 | .t c xs,.t c' ys=>if h:c'=c then some (.t c (xs++(h▸ys))) else none
 | .u s xs,.u s' ys=>bif Nat.beq s s' then some (.u s (xs++ys)) else none
 |_,_=>none
theorem SL.FQ{l l' l2:SL V}(h:l.app l'=some l2):l2.len=l.len+l'.len/\l2.cells=l.cells/\l'.cells=l.cells/\(∀i,i<l.len->l2.get i=l.get i)/\(∀i,l2.get (l.len+i)=l'.get i):=by
 cases l with
 |t c xs=>
  cases l' with
  |t c' ys=>
   simp only[SL.app] at h;split at h
   .rename_i hc;subst hc;cases h;refine⟨nF,rfl,rfl,fun i hi=> ?_,fun i=> ?_⟩
    .simp only[SL.len] at hi;simp[SL.get,gW hi]
    .simp[SL.get,SL.len,gP]
   grind
  |u s ys=>cases h
 |u s xs=>
  cases l' with
  |t c' ys=>cases h
  |u s' ys=>
   simp only[SL.app] at h;cases hb:Nat.beq s s' with
   |false=>grind
   |true=>
    rw[hb] at h;simp only[cond_true,fI] at h;subst h;have:=gA hb;refine⟨nF,rfl,this.symm,fun i hi=> ?_,fun i=> ?_⟩
    .simp only[SL.len] at hi;simp[SL.get,gW hi]
    .simp[SL.get,SL.len,gP]
theorem bE{m:Nat->Nat}{w:World}{l l' l2:SL V}(h2:l.app l'=some l2){olds news rest:List Value}(ho:olds.length=l.len*l.cells)
 (hor:∀i j cs c,l.get i=some cs->cs[j]? =some c->i<l.len->j<l.cells->∃u,olds[i*l.cells+j]? =some u/\A2 m w u c)
 (hnr:∀i j cs c,l'.get i=some cs->cs[j]? =some c->i<l'.len->j<l'.cells->∃u,news[i*l'.cells+j]? =some u/\A2 m w u c):
 ∀i j cs c,l2.get i=some cs->cs[j]? =some c->i<l2.len->j<l2.cells->∃u,(olds++news++rest)[i*l2.cells+j]? =some u/\A2 m w u c:=by
 obtain⟨h3,h4,h5,h6,h7⟩:=SL.FQ h2;intro i j cs c h8 h9 hi hj;rw[h4] at hj ⊢;by_cases hil:i<l.len
 .grind
 .have hi2:l.len+(i-l.len)=i:=kn
  rw[<-hi2,h7] at h8;obtain⟨u,h10,h11⟩:=hnr (i-l.len) j cs c h8 h9 kn kn;refine⟨u,?_,h11⟩;rw[h5] at h10;have h12:=(fZ.1 h10).1;have h13:i*l.cells+j=olds.length+((i-l.len)*l.cells+j):=by
   grind
  grind
theorem A2.Hz{m m':Nat->Nat}{w w':World}{l:SL V}{b off cap:Nat}{cells:List Value}{t:TypeId}{fr:Nat×Nat}(hh:w'.heap[b]? =some (.cells cells.toArray t fr))(hcap:l.len<=cap)
 (hm:off+l.len*l.cells<=m' b) (hl:∀i,i<l.len->∃cs,l.get i=some cs/\cs.length=l.cells)
 (hr:∀i j cs c,l.get i=some cs->cs[j]? =some c->i<l.len->j<l.cells->∃u,cells[off+(i*l.cells+j)]? =some u/\A2 m w u c)
 (hmm:∀b,m b<=m' b) (hw:∀b o,o<m b->w'.cell? ⟨b,o,none⟩=w.cell? ⟨b,o,none⟩):
 A2 m' w' (.slice (some ⟨b,off,none⟩) l.len cap) (.slice .any l):=by
 refine .slice l b off cap (fun i j=>cells.getD (off+(i*l.cells+j)) undef) kn hcap hl (fun i j hi hj=> ?_) (fun i j cs c hi h1 h2=> ?_)
 .obtain ⟨cs,h3,h4⟩:=hl i hi;obtain⟨u,h5,_⟩:=hr i j cs _ h3 (fG kn) hi hj;rw[KO hh]
  grind
 .obtain ⟨cs',h3,h4⟩:=hl i hi;rw[h1] at h3;cases h3;have hj:=(fZ.1 h2).1;obtain⟨u,h5,h6⟩:=hr i j cs c h1 h2 hi kn;rw[gy,h5];exact h6.mono hmm hw
theorem A2.Jr{m m':Nat->Nat}{w w':World}{l:SL V}{b cap:Nat}{cells:List Value}{t:TypeId}{fr:Nat×Nat}(hh:w'.heap[b]? =some (.cells cells.toArray t fr))(hcap:l.len<=cap)
 (hm:l.len*l.cells<=m' b) (hl:∀i,i<l.len->∃cs,l.get i=some cs/\cs.length=l.cells)
 (hr:∀i j cs c,l.get i=some cs->cs[j]? =some c->i<l.len->j<l.cells->∃u,cells[i*l.cells+j]? =some u/\A2 m w u c)
 (hmm:∀b,m b<=m' b) (hw:∀b o,o<m b->w'.cell? ⟨b,o,none⟩=w.cell? ⟨b,o,none⟩):
 A2 m' w' (.slice (some ⟨b,0,none⟩) l.len cap) (.slice .any l):=
 A2.Hz (off:=0) hh hcap kn hl (fun i j cs c h1 h2 h3 h4=>kr) hmm hw
theorem Zq3{P:Program}{w:World}{t ty e:TypeId}{i:TypeInfo}(ht:P.underlying t=some (.slice e))(hi:P.info? e=some i){base:Option Addr}{sLen sCap:Nat}(hle:sLen<=sCap){xb:Option Addr}{xc:Nat}
 (hx:(Builtin.firstCells i.size 0 (.slice xb 0 xc)).run P w= .ok #[] w):
 (Builtin.append_ #[t,t] ty #[.slice base sLen sCap,.slice xb 0 xc]).run P w= .ok (.slice base sLen sCap) w:=by
 cases base with
 |none=>simp[Builtin.append_,run_underlying ht,sizeOf,typeInfo,hi,Builtin.lenOf,hle,hx]
 |some b=>simp[Builtin.append_,run_underlying ht,sizeOf,typeInfo,hi,Builtin.lenOf,hle,hx,storeCells]
theorem N4{P:Program}{w:World}{t ty e:TypeId}{i:TypeInfo}{z:Value}(ht:P.underlying t=some (.slice e))(hi:P.info? e=some i)(hz:i.zero=some z){base:Option Addr}{sLen sCap:Nat}{xb:Option Addr}{n xc:Nat}
 {olds news:List Value} (ho:∀W:World,W.heap=w.heap->(Builtin.firstCells i.size sLen (.slice base sLen sCap)).run P W= .ok olds.toArray W)
 (hx:∀W:World,W.heap=w.heap->(Builtin.firstCells i.size n (.slice xb n xc)).run P W= .ok news.toArray W) (hg:sCap<sLen+n) (hb:(sLen+n)*i.bytes<=140737488355328) (h63:sLen+n<=9223372036854775807):
 (Builtin.append_ #[t,t] ty #[.slice base sLen sCap,.slice xb n xc]).run P w=
  .ok (.slice (some ⟨w.heap.size,0,none⟩) (sLen+n) (grownCap w (sLen+n) sCap e))
   (w.drew.alloc (.cells (olds++news++(Builtin.zeroCells z.cells (grownCap w (sLen+n) sCap e-(sLen+n))).toList).toArray e)):=by
 have hn:¬(sLen+n<=sCap):=kn
 have h63':¬(9223372036854775807<((sLen:Int)+(n:Int))):=kn
 have h48':¬(281474976710656<Builtin.nextslicecap (sLen+n) sCap*i.bytes):=by have:=growslice_fits hg hb;omega
 have hf:=hx w.drew rfl;have hfo:=ho w.drew rfl;simp[Builtin.append_,run_underlying ht,sizeOf,typeInfo,zeroValue,hi,hz,Builtin.lenOf,hn,h63',h48',Question.forced,hf,hfo,newRow,grownCap];congr 2;simp
theorem ZP{P:Program}{w:World}{t ty e:TypeId}{i:TypeInfo}(ht:P.underlying t=some (.slice e))(hi:P.info? e=some i){b off sLen sCap:Nat}{cur:Array Value}{e0:TypeId}(hh:w.heap[b]? =some (.cells cur e0 (0,0)))
 {xb:Option Addr} {n xc:Nat} {news:List Value} (hl:news.length=n*i.size) (h1:∀u∈news,u.oneCell'=true)
 (hx:(Builtin.firstCells i.size n (.slice xb n xc)).run P w= .ok news.toArray w) (hroom:sLen+n<=sCap) (hfit:off+sLen*i.size+news.length<=cur.size):
 (Builtin.append_ #[t,t] ty #[.slice (some ⟨b,off,none⟩) sLen sCap,.slice xb n xc]).run P w=
  .ok (.slice (some ⟨b,off,none⟩) (sLen+n) sCap) (w.setRow b (cur.toList.take (off+sLen*i.size)++news++cur.toList.drop (off+sLen*i.size+news.length)).toArray):=by
 have hst:=run_storeCells_at P b (off+sLen*i.size) e0 news 0 cur w hh kn h1;simp only[jc] at hst;simp[Builtin.append_,run_underlying ht,sizeOf,typeInfo,hi,Builtin.lenOf,hroom,hx,IK,hst]
theorem Zrl{P:Program}{w:World}{t ty e:TypeId}{i:TypeInfo}(ht:P.underlying t=some (.slice e))(hi:P.info? e=some i){b sLen sCap:Nat}{cur:Array Value}{e0:TypeId}(hh:w.heap[b]? =some (.cells cur e0 (0,0)))
 {xb:Option Addr} {n xc:Nat} {news:List Value} (hl:news.length=n*i.size) (h1:∀u∈news,u.oneCell'=true)
 (hx:(Builtin.firstCells i.size n (.slice xb n xc)).run P w= .ok news.toArray w) (hroom:sLen+n<=sCap) (hfit:sLen*i.size+news.length<=cur.size):
 (Builtin.append_ #[t,t] ty #[.slice (some ⟨b,0,none⟩) sLen sCap,.slice xb n xc]).run P w=
  .ok (.slice (some ⟨b,0,none⟩) (sLen+n) sCap) (w.setRow b (cur.toList.take (sLen*i.size)++news++cur.toList.drop (sLen*i.size+news.length)).toArray):=by
 have:=ZP (w:=w) (ty:=ty) ht hi hh (off:=0) (sLen:=sLen) (sCap:=sCap) hl h1 hx hroom kn
 grind
def Kr:Sp->Es
 | .own r=>[(r,.row)]
 |_=>[]
def K6(n:Nat):Sp->Es
 | .own r=>[(n,.row),(r,.gone)]
 |_=>[(n,.row)]
def Ro:Sp->Bool| .nil=>true| .own _=>true|_=>false
theorem OS.Hg{t:TypeId}{s x:Operand}{i:TI}{c:Option EC}{sz bytes n:Nat}{sp sp':Sp}{l l' l2:SL V}(ho:o.op= .call {callee:= .builtin .append,args:= #[s,x],argTypes:= #[t,t]})
 (ht:E.ti t=some i) (hd:i.desc= .slc c sz bytes) (hs:ev E t a s=some (.slice sp l)) (hx:ev E t a x=some (.slice sp' l')) (hsp:Ro sp=true\/(sp= .full/\0<l'.len))
 (hl:l.app l'=some l2) (hsz:Nat.beq l.cells sz=true) (hb:(l.len+l'.len)*bytes<=140737488355328) (hb2:l.len+l'.len<=9223372036854775807):OS E N o a (Kr sp) (.slice (.own n) l2) [n] (K6 n sp):=
 .of_run fun g D es w act hR hp hn hF=>by
  obtain⟨e,inf,z,h1,h2,h3,h4,h5,h6,h7,h8⟩:=La ht hd;have hcs:l.cells=sz:=gA hsz;obtain⟨h9,h10,h11,h12,h13⟩:=SL.FQ hl;have hn':¬D n:=hn n ko;have hvs:=yk hs hR hF;have hdx:=(yk hx hR hF).Bq;obtain⟨xb,xc,hxv⟩:=hdx.Bq;obtain⟨news,hnl,hn1,hnf,hnr,hnl2⟩:=hdx.Df;have hsz':l'.cells=inf.size:=kn
  rw[hxv] at hnf;have hgl:∀i,i<l2.len->(∀i,i<l.len->∃cs,l.get i=some cs/\cs.length=l.cells)->∃cs,l2.get i=some cs/\cs.length=l2.cells:=fun i hi hol=>by
   by_cases h:i<l.len
   .grind
   .have:=h13 (i-l.len);rw[show l.len+(i-l.len)=i from kn] at this;rw[this,h10,<-h11];exact hnl2 _ kn
  have hDD:∀i,(D i\/i=n)->(D i\/i∈[n]):=fun i h=>h.imp id (fun h=>by simp[h]);have hnewrow:∀(es':Es) (olds:List Value) (cap0:Nat),R E.G g D es' w->Ext D g (Av g es) w g (Av g es') w->olds.length=l.len*l.cells->
   (∀i j cs c,l.get i=some cs->cs[j]? =some c->i<l.len->j<l.cells->∃u,olds[i*l.cells+j]? =some u/\A2 g.m w u c)->(∀i,i<l.len->∃cs,l.get i=some cs/\cs.length=l.cells)->cap0<l.len+l'.len->
   ∃g',R E.G g' (fun i=>D i\/i∈[n]) ((n,.row)::es') (w.drew.alloc (.cells (olds++news++(Builtin.zeroCells z.cells (grownCap w (l.len+l'.len) cap0 e-(l.len+l'.len))).toList).toArray e))/\
    Aq g' (fun i=>D i\/i∈[n]) (w.drew.alloc (.cells (olds++news++(Builtin.zeroCells z.cells (grownCap w (l.len+l'.len) cap0 e-(l.len+l'.len))).toList).toArray e)) (.slice (some ⟨w.heap.size,0,none⟩) (l.len+l'.len) (grownCap w (l.len+l'.len) cap0 e)) (.slice (.own n) l2)/\
    Ext D g (Av g es) w g' (Av g' ((n,.row)::es')) (w.drew.alloc (.cells (olds++news++(Builtin.zeroCells z.cells (grownCap w (l.len+l'.len) cap0 e-(l.len+l'.len))).toList).toArray e)):=by
   intro es' olds cap0 hR' hx' hol hor hol2 hc0;have hge:=grownCap_ge w (l.len+l'.len) cap0 e;have hsize:(olds++news++(Builtin.zeroCells z.cells (grownCap w (l.len+l'.len) cap0 e-(l.len+l'.len))).toList).toArray.size=grownCap w (l.len+l'.len) cap0 e*sz:=by
    simp only[List.size_toArray,ga,jz,size_zeroCells,hol,hnl,h6,hcs,h11];rw[<-iw,<-iw]
    grind
   obtain⟨h14,h15⟩:=hR'.drew.Mf (w:=w.drew) hn' (olds++news++(Builtin.zeroCells z.cells (grownCap w (l.len+l'.len) cap0 e-(l.len+l'.len))).toList).toArray e (l.len+l'.len) (grownCap w (l.len+l'.len) cap0 e) sz hsize hge;refine⟨_,h14.more hDD,?_,(hx'.trans Ext.drew).trans h15⟩;have hd2:A2 ((g.share w.drew.heap.size ((l.len+l'.len)*sz)).BQ n (some ⟨w.drew.heap.size,l.len+l'.len,grownCap w (l.len+l'.len) cap0 e,sz,0⟩)).m _ (.slice (some ⟨w.heap.size,0,none⟩) l2.len (grownCap w (l.len+l'.len) cap0 e)) (.slice .any l2):=
    A2.Jr (m:=g.m) (w:=w) (heap_alloc_new w.drew _) kn (by simp[Gh.BQ,Gh.share,h9,h10,hcs]) (fun i hi=>hgl i hi hol2)
     (fun i j cs c h16 h17 h18 h19=>bE hl hol hor hnr i j cs c h16 h17 h18 h19) h15.mark h15.cells
   refine Aq.own n (Or.inr (gp.2 rfl)) _ l2 ?_ kr;simp[Q5,Gh.BQ,h9,h10,hcs]
  have hrun:∀v w',(Builtin.append_ #[t,t] o.type #[act.eval s,act.eval x]).run E.P w= .ok v w'->(execOp act.eval o).run E.P w= .ok (.value v) w':=fun v w' h=>by
   simp[execOp,ho,resolve,invoke,builtin,h]
  have hnil:∀es',R E.G g D es' w->Ext D g (Av g es) w g (Av g es') w->(∃base:Option Addr,act.eval s= .slice base 0 0)->l.len=0->
   ∃g' v' w',(execOp act.eval o).run E.P w= .ok (.value v') w'/\R E.G g' (fun i=>D i\/i∈[n]) ((n,.row)::es') w'/\Aq g' (fun i=>D i\/i∈[n]) w' v' (.slice (.own n) l2)/\Ext D g (Av g es) w g' (Av g' ((n,.row)::es')) w':=by
   rintro es' hR' hx' ⟨base,hsv⟩ hl0;by_cases hm:l'.len=0
   .obtain ⟨h14,h15⟩:=hR'.Mt hn';have hnews:news=[]:=fX kr;have hf:=hnf w rfl E.P;rw[hnews,hm,hsz'] at hf;refine⟨_,.slice base 0 0,w,hrun _ _ ?_,h14.more hDD,?_,hx'.trans h15⟩
    .rw[hsv,hxv,hm];exact Zq3 h1 h2 (fB _) hf
    .refine Aq.own n (Or.inr (gp.2 rfl)) _ l2 ?_ ?_
     .have:l2.len=0:=kn
      cases base<;>simp[Q5,Gh.BQ,this]
     .cases base with
      |none=>exact .nilS l2 kn
      |some a=>exact .emp l2 kn a 0
   .obtain ⟨g',h14,h15,h16⟩:=hnewrow es' [] 0 hR' hx' kr (fun i j cs c _ _ hi=>kn) (fun i hi=>kn) kn;refine⟨g',_,_,hrun _ _ ?_,h14,h15,h16⟩;rw[hsv,hxv];have:=N4 (P:=E.P) (w:=w) (ty:=o.type) h1 h2 h5 (base:=base) (sLen:=0) (sCap:=0) (xb:=xb) (n:=l'.len) (xc:=xc) (olds:=[]) (news:=news) (fun W _=>by
     cases base with
     |none=>rfl
     |some ad=>exact run_firstCells_some (P:=E.P) W inf.size 0 ad 0 0 [] ko (fun j v hv=>kr)) (fun W hW=>kr) kn kr kn
    grind
  cases sp with
  |any=>rcases hsp with hsp|⟨hsp,_⟩<;>cases hsp
  |full=>
   have hpos:0<l'.len:=by rcases hsp with hsp|⟨_,h⟩;· cases hsp
                          omega
   generalize hv:act.eval s=v at hvs;cases hvs with
   |data h=>cases h
   |fullNil _ hl0=>exact hnil es hR (.refl ..) ⟨_,hv⟩ hl0
   |full a m _ hdr=>
    have hml:m=l.len:=by
     cases hdr<;>simp_all
    subst hml;obtain⟨olds,hol,ho1,hof,hor,hol2⟩:=hdr.Df;obtain⟨g',h18,h19,h20⟩:=hnewrow es olds l.len hR (.refl ..) hol hor hol2 kn;refine⟨g',_,_,hrun _ _ ?_,h18,h19,h20⟩;rw[hv,hxv];exact N4 (P:=E.P) (w:=w) (ty:=o.type) h1 h2 h5 (base:=some a) (sLen:=l.len) (sCap:=l.len) (xb:=xb) (n:=l'.len) (xc:=xc) (olds:=olds) (news:=news)
     (fun W hW=>kr) (fun W hW=>kr) kn kr kn
  |nil=>
   generalize hv:act.eval s=v at hvs;cases hvs with
   |data h=>cases h
   |nilS _ hl0=>exact hnil es hR (.refl ..) ⟨_,hv⟩ hl0
  |own r=>
   have hr:=hp (r,.row) (by simp[Kr]);generalize hv:act.eval s=v at hvs;cases hvs with
   |data h=>cases h
   |own _ hDr _ _ hrow hdr=>
    obtain⟨hRg,hxg⟩:=hR.gone hr;cases hρ:g.row r with
    |none=>
     rw[hρ] at hrow;obtain⟨hsv,hl0⟩:=hrow;refine hnil ((r,.gone)::es) hRg hxg ?_ hl0
     grind
    |some ρ=>
     rw[hρ] at hrow;obtain⟨rfl,hl1,hl2⟩:=hrow;obtain⟨cur,te,h14,h15,h16,h17⟩:=hR.Cg r _ hr ρ hρ;obtain⟨olds,hol,ho1,hof,hor,hol2⟩:=hdr.Df;by_cases hroom:ρ.len+l'.len<=ρ.cap
     .have hszr:ρ.sz=sz:=kn
      have hcur:ρ.off+(ρ.len+l'.len)*sz<=cur.size:=by rw[h15,hszr];exact Nat.add_le_add_left (gX _ hroom) _
      have hnl3:news.length=l'.len*sz:=kr
      have hfit:ρ.off+ρ.len*sz+news.length<=cur.size:=kr
      have hoc:olds=(cur.toList.drop ρ.off).take (ρ.len*sz):=by
       have h20:=hof w rfl E.P;have h21:=run_firstCells_some (P:=E.P) w l.cells l.len ⟨ρ.b,ρ.off,none⟩ ρ.len ρ.cap ((cur.toList.drop ρ.off).take (ρ.len*sz)) kr (fun j v hv=>by
        rw[iO] at hv;split at hv
        .rw[IK,KO h14];grind
        grind)
       grind
      have hlen':(cur.toList.take (ρ.off+ρ.len*sz)++news++cur.toList.drop (ρ.off+ρ.len*sz+news.length)).toArray.size=cur.size:=by
       grind
      obtain⟨h18,h19⟩:=hR.grow hn' hr hρ h14 (cur.toList.take (ρ.off+ρ.len*sz)++news++cur.toList.drop (ρ.off+ρ.len*sz+news.length)).toArray hlen'
       (fun o ho=>by
        grind) (ρ.len+l'.len) kn hroom
      refine⟨_,.slice (some ⟨ρ.b,ρ.off,none⟩) (ρ.len+l'.len) ρ.cap,w.setRow ρ.b (cur.toList.take (ρ.off+ρ.len*sz)++news++cur.toList.drop (ρ.off+ρ.len*sz+news.length)).toArray,hrun _ _ ?_,h18.more hDD,?_,h19⟩
      .rw[hv,hxv];have:=ZP (P:=E.P) (w:=w) (ty:=o.type) h1 h2 h14 (off:=ρ.off) (sLen:=ρ.len) (sCap:=ρ.cap) (xb:=xb) (n:=l'.len) (xc:=xc) (news:=news) kr hn1 kr hroom kr
       grind
      .have hcells:=bE (m:=g.m) (w:=w) hl (rest:=cur.toList.drop (ρ.off+ρ.len*sz+news.length)) hol hor hnr;have htk:cur.toList.take (ρ.off+ρ.len*sz)=cur.toList.take ρ.off++olds:=kr
       have hd2:=A2.Hz (m:=g.m) (m':=(({g with m:=fun i=>if i=ρ.b then ρ.off+(ρ.len+l'.len)*ρ.sz else g.m i}:Gh).BQ n (some ⟨ρ.b,ρ.len+l'.len,ρ.cap,ρ.sz,ρ.off⟩)).m) (w:=w)
        (w':=w.setRow ρ.b (cur.toList.take (ρ.off+ρ.len*sz)++news++cur.toList.drop (ρ.off+ρ.len*sz+news.length)).toArray) (l:=l2) (b:=ρ.b) (off:=ρ.off) (cap:=ρ.cap)
        (setRow_heap w _ _ _ te _ h14) kn (by simp[Gh.BQ,h9,h10,hcs,hszr,hl1]) (fun i hi=>hgl i hi hol2) (fun i j cs c q1 q2 q3 q4=>by
         obtain⟨u,h20,h21⟩:=hcells i j cs c q1 q2 q3 q4;refine⟨u,?_,h21⟩;have hlo:(cur.toList.take ρ.off).length=ρ.off:=kr
         rw[htk,fK,fK,gP kn,hlo,iU,<-fK];omega) h19.mark h19.cells
       refine Aq.own n (Or.inr (gp.2 rfl)) _ l2 ?_ kr;simp[Q5,Gh.BQ,h9,h10,hl1,hcs,hszr]
     .obtain ⟨g',h18,h19,h20⟩:=hnewrow ((r,.gone)::es) olds ρ.cap hRg hxg hol hor hol2 kn;refine⟨g',_,_,hrun _ _ ?_,h18,h19,h20⟩;rw[hv,hxv];have:=N4 (P:=E.P) (w:=w) (ty:=o.type) h1 h2 h5 (base:=some ⟨ρ.b,ρ.off,none⟩) (sLen:=ρ.len) (sCap:=ρ.cap) (xb:=xb) (n:=l'.len) (xc:=xc) (olds:=olds) (news:=news)
       (fun W hW=>kr) (fun W hW=>kr) kn kr kn
      grind
theorem OS.append{t:TypeId}{s x:Operand}{i:TI}{c:Option EC}{sz bytes n:Nat}{sp sp':Sp}{l l' l2:SL V}(ho:o.op= .call {callee:= .builtin .append,args:= #[s,x],argTypes:= #[t,t]})
 (ht:E.ti t=some i) (hd:i.desc= .slc c sz bytes) (hs:ev E t a s=some (.slice sp l)) (hx:ev E t a x=some (.slice sp' l')) (hsp:Ro sp=true)
 (hl:l.app l'=some l2) (hsz:Nat.beq l.cells sz=true) (hb:(l.len+l'.len)*bytes<=140737488355328) (hb2:l.len+l'.len<=9223372036854775807):OS E N o a (Kr sp) (.slice (.own n) l2) [n] (K6 n sp):=
 OS.Hg ho ht hd hs hx (.inl hsp) hl hsz hb hb2
end
section
variable {E:Env} {N:Nat} {o:Oper} {a:AF}
def Ky(E:Env)(a:AF):List (Nat×Operand)->Option (List (Nat×List V))
 |[]=>some []
 |p::l=>((ev E 0 a p.2).bind cellsOf).bind fun vc=>(Ky E a l).map fun r=>(p.1,vc)::r
def NC(gs:List (Nat×Nat×Bool))(cs:List V):List (Nat×List V)->Option (List V)
 |[]=>some cs
 |p::rest=>match gs[p.1]? with
  |none=>none
  |some q=>bif Nat.beq p.2.length q.2.1&&Nat.ble (q.1+p.2.length) cs.length then NC gs (cs.take q.1++p.2++cs.drop (q.1+p.2.length)) rest else none
theorem Ztu(off:Nat):∀(us:List Value) (j:Nat) (cs:Array Value),off+j+us.length<=cs.size->
 (us.zipIdx j).foldl (fun cs (x:Value×Nat)=>cs.setIfInBounds (off+x.2) x.1) cs=(cs.toList.take (off+j)++us++cs.toList.drop (off+j+us.length)).toArray:=by
 intro us;induction us with
 |nil=>simp
 |cons u us ih2=>
  intro j cs hcs;simp only[fQ] at hcs;simp only[jQ,j7];rw[ih2 (j+1) _ kr];congr 1;rw[i7];have:=list_seg_step cs.toList (off+j) u us kn;omega
theorem Ygi{gs:List (Nat×Nat×Bool)}{g:Gh}{D:Nat->Prop}{es:Es}{w:World}{act:Act}(hR:R E.G g D es w)(hF:Bi g D w N act a):∀{ps:List (Nat×Operand)} {vps:List (Nat×List V)},Ky E a ps=some vps->
 ∀{cs cs':List V},NC gs cs vps=some cs'->∀{vs:List Value},vs.length=cs.length->(∀v∈vs,v.oneCell'=true)->(∀(i:Nat) v c,vs[i]? =some v->cs[i]? =some c->Aq g D w v c)->
 ∃us:List Value,Instr.fill (fun i=>(gs[i]?).map fun q=>(q.1,q.2.1)) vs.toArray (ps.map fun p=>(p.1,act.eval p.2))=some us.toArray/\us.length=cs'.length/\(∀v∈us,v.oneCell'=true)/\
  ∀(i:Nat) v c,us[i]? =some v->cs'[i]? =some c->Aq g D w v c:=by
 intro ps;induction ps with
 |nil=>
  intro vps h cs cs' hf vs h1 h2 h3;simp[Ky] at h;subst h;simp[NC] at hf;subst hf;exact⟨vs,rfl,h1,h2,h3⟩
 |cons p l ih=>
  intro vps h cs cs' hf vs h1 h2 h3;simp only[Ky,fL,fE] at h;obtain⟨vc,⟨c0,h4,h5⟩,r,h6,rfl⟩:=h;simp only[NC] at hf;cases hq:gs[p.1]? with
  |none=>grind
  |some q=>
   rw[hq] at hf;cases hb:Nat.beq vc.length q.2.1&&Nat.ble (q.1+vc.length) cs.length with
   |false=>grind
   |true=>
    simp only[hb,cond_true] at hf;rw[fD] at hb;have hb1:=gA hb.1;have hb2:=fP hb.2;obtain⟨us,h7,h8,h9,h10⟩:=Nz h5 (yk h4 hR hF);obtain⟨us',h11,h12⟩:=ih h6 hf (vs:=vs.take q.1++us++vs.drop (q.1+us.length)) kr
     (fun u hu=>by
      grind)
     (fun j u d hu hd=>by
      rw[XV _ _ _ _ kn] at hu;rw[XV _ _ _ _ hb2,<-h8] at hd
      grind)
    refine⟨us',?_,h12⟩;simp only[fJ,Instr.fill,hq,gM];rw[if_neg kr];have h13:(act.eval p.2).cells.zipIdx.foldl (fun cs (x:Value×Nat)=>cs.setIfInBounds (q.1+x.2) x.1) vs.toArray=(vs.take q.1++us++vs.drop (q.1+us.length)).toArray:=by
     rw[h7,<-Array.foldl_toList,Array.toList_zipIdx];have:=Ztu q.1 us 0 vs.toArray kr;omega
    grind
theorem Yd3:∀{fs:List Field} {gs:List (Nat×Nat×Bool)},Jm E.P fs gs=true->fs.mapM (fun f=>(E.P.info? f.type).map fun i=>(f.offset,i.size))=some (gs.map fun q=>(q.1,q.2.1)):=by
 intro fs;induction fs with
 |nil=>intro gs h;cases gs with|nil=>rfl|cons=>simp[Jm] at h
 |cons fd l ih=>
  intro gs h;cases gs with
  |nil=>simp[Jm] at h
  |cons q l'=>
   simp only[Jm,fD] at h;obtain⟨⟨⟨⟨h1,h2⟩,h3⟩,h4⟩,h5⟩:=h;unfold MN at h2;split at h2
   .rename_i inf hi;simp only[List.mapM_cons,hi,ih h5,gM,Option.bind_eq_bind,ju,Option.pure_def,fJ];simp_all
   grind
theorem OS.build{t:TypeId}{ps:List (Nat×Operand)}{i:TI}{gs:List (Nat×Nat×Bool)}{vps:List (Nat×List V)}{cs:List V}(ho:o.op= .build t ps.toArray)(ht:E.ti t=some i)(hd:i.desc= .strct gs)
 (hp:Ky E a ps=some vps) (hf:NC gs i.zero vps=some cs):OS E N o a [] (.agg cs) [] []:=
 .pure fun g D es w act hR _ hF=>by
  obtain⟨fs,h1,h2⟩:=SI ht hd;obtain⟨inf,h3,h4,z,h5,h6⟩:=MO ht;obtain⟨h7,h8,h9⟩:=Ql h6;obtain⟨us,h10,h11,h12,h13⟩:=Ygi hR hF hp hf h7 h8 (fun i v c hv hc=>h9 g D w i v c hv hc);refine⟨.agg us.toArray,?_,.agg us cs h11 h12 h13⟩;have hb:E.P.built t ((ps.toArray.map fun x=>(x.1,act.eval x.2))).toList=some us.toArray:=by
   unfold Program.built;simp only[h3,h1,h5,Yd3 h2];simp_all
  have hrun:=run_build (P:=E.P) w t (ps.toArray.map fun x=>(x.1,act.eval x.2)) us.toArray hb;simp only[execOp,ho,hrun,Sem.run_bind,Result.andThen_ok,Sem.run_pure]
theorem OS.LY{t:TypeId}{x y:Operand}{i:TI}{c:Option EC}{sz bytes:Nat}{sp:Sp}{l:SL V}{n:Int}{k:Nat}{cs:List V}{kd:IntKind}(ho:o.op= .indexAddr t x y)(ht:E.ti t=some i)(hd:i.desc= .slc c sz bytes)
 (hx:ev E t a x=some (.slice sp l)) (hy:ev E 0 a y=some (.int kd n)) (hn:n=k) (hk:l.get k=some cs) (hlt:k<l.len) (hsz:Nat.beq l.cells sz=true):OS E N o a [] (.addr cs) [] []:=
 .pure fun g D es w act hR _ hF=>by
  obtain⟨e,inf,z,h1,h2,h3,h4,h5,h6,h7,h8⟩:=La ht hd;have hv:=(yk hx hR hF).Bq;have hi:=(yk hy hR hF).BS;have hcs:=gA hsz;generalize hxv:act.eval x=v at hv;cases hv with
  |nilS _ h=>omega
  |emp _ h _ _=>omega
  |slice _ b off cap f hm hcap hl hc hr=>
   obtain⟨cs',h9,h10⟩:=hl k hlt;rw[hk] at h9;cases h9;refine⟨.pointer (some ⟨b,off+k*l.cells,none⟩),?_,?_⟩
   .have h11:0<=n/\n<(l.len:Int):=kn
    have h12:n.toNat=k:=kn
    simp[execOp,ho,Instr.indexAt,hxv,hi,asIntOf,wj h1,h11,h12,vq h2,h3,IK,hcs]
   .refine .addr b _ cs (fun j=>f k j) ?_ (fun j hj=> ?_) (fun j c hj=>hr k j cs c hlt hk hj)
    .rw[h10];have:k*l.cells+l.cells<=l.len*l.cells:=by
      have:=gX l.cells (show k+1<=l.len by omega)
      grind
     omega
    grind
theorem YJ{t:TypeId}{i:TI}{n esz:Nat}{ea:Bool}(h:E.ti t=some i)(hd:i.desc= .arr n esz ea):∃e inf,E.P.underlying t=some (.array n e)/\E.P.info? e=some inf/\inf.size=esz/\0<esz/\(∀w,(isAgg e).run E.P w= .ok ea w):=by
 obtain⟨d,h1,h2⟩:=MV h;rw[hd] at h2;cases d with
 |array n' e=>
  simp only[fD] at h2;obtain⟨⟨⟨h3,h4⟩,h5⟩,h6⟩:=h2;have:=gA h3;subst this;unfold MN at h4;split at h4
  .rename_i inf hi;refine⟨e,inf,h1,hi,gA h4,fP h5,fun w=> ?_⟩;unfold PW at h6;unfold isAgg;cases hu:E.P.underlying e with
   |none=>grind
   |some d=>
    rw[hu] at h6;simp only[Sem.run_bind,wj hu,Result.andThen_ok];cases d<;>simp at h6<;>simp[h6]
  grind
 |_=>cases h2
theorem OS.Mw{t:TypeId}{x y:Operand}{i:TI}{m esz:Nat}{ea:Bool}{cs:List V}{n:Int}{k:Nat}{kd:IntKind}(ho:o.op= .indexAddr t x y)(ht:E.ti t=some i)(hd:i.desc= .arr m esz ea)
 (hx:ev E 0 a x=some (.addr cs)) (hy:ev E 0 a y=some (.int kd n)) (hn:n=k) (hlt:k<m) (hb:k*esz<=cs.length):OS E N o a [] (.addr (cs.drop (k*esz))) [] []:=
 .pure fun g D es w act hR _ hF=>by
  obtain⟨e,inf,h1,h2,h3,h4,_⟩:=YJ ht hd;have h8:=yk hx hR hF;have hi:=(yk hy hR hF).BS;generalize hxv:act.eval x=v at h8;cases h8 with
  |data h=>cases h
  |addr b off _ f hm hc hr=>
   refine⟨.pointer (some ⟨b,off+k*esz,none⟩),?_,?_⟩
   .have h11:0<=n/\n<(m:Int):=kn
    have h12:n.toNat=k:=kn
    simp[execOp,ho,Instr.indexAt,hxv,hi,asIntOf,wj h1,Instr.sureAddr,h11,h12,vq h2,h3,IK]
   .refine .addr b _ _ (fun j=>f (k*esz+j)) kr (fun j hj=> ?_) (fun j c hj=> ?_);all_goals grind
theorem OS.Mm{t:TypeId}{x y:Operand}{i:TI}{m esz:Nat}{ea:Bool}{p off:Nat}{n:Int}{k:Nat}{kd:IntKind}(ho:o.op= .indexAddr t x y)(ht:E.ti t=some i)(hd:i.desc= .arr m esz ea)
 (hx:ev E 0 a x=some (.ptr p off)) (hy:ev E 0 a y=some (.int kd n)) (hn:n=k) (hlt:k<m):OS E N o a [] (.ptr p (off+k*esz)) [] []:=
 .pure fun g D es w act hR _ hF=>by
  obtain⟨e,inf,h1,h2,h3,h4,_⟩:=YJ ht hd;have h8:=yk hx hR hF;have hi:=(yk hy hR hF).BS;generalize hxv:act.eval x=v at h8;cases h8 with
  |data h=>cases h
  |ptr _ _ hD=>
   refine⟨.pointer (some ⟨g.blk p,off+k*esz,none⟩),?_,.ptr p _ hD⟩;have h11:0<=n/\n<(m:Int):=kn
   have h12:n.toNat=k:=kn
   simp[execOp,ho,Instr.indexAt,hxv,hi,asIntOf,wj h1,Instr.sureAddr,h11,h12,vq h2,h3,IK]
theorem OS.slice3{t:TypeId}{x y z:Operand}{i:TI}{c:Option EC}{sz bytes:Nat}{sp:Sp}{l:SL V}{k k':IntKind}(ho:o.op= .slice t x none (some y) (some z))(ht:E.ti t=some i)(hd:i.desc= .slc c sz bytes)
 (hx:ev E t a x=some (.slice sp l)) (hy:ev E 0 a y=some (.int k l.len)) (hz:ev E 0 a z=some (.int k' l.len)):OS E N o a [] (.slice .full l) [] []:=
 .pure fun g D es w act hR _ hF=>by
  obtain⟨e,inf,zz,h1,h2,h3,h4,h5,h6,h7,h8⟩:=La ht hd;have hv:=(yk hx hR hF).Bq;have hi:=(yk hy hR hF).BS;have hj:=(yk hz hR hF).BS;have hv0:=hv;generalize hxv:act.eval x=v at hv;cases hv with
  |nilS _ h=>
   refine⟨.slice none 0 0,?_,.fullNil l h⟩;simp[execOp,ho,Instr.sliceAt,Instr.slice,wj h1,hxv,hi,hj,Instr.sliceBounds,Instr.sliceBound,asIntOf,h,vq h2]
  |emp _ h a cap=>
   refine⟨.slice (some a) 0 0,?_,.full a 0 l (.emp l h a 0)⟩;simp[execOp,ho,Instr.sliceAt,Instr.slice,wj h1,hxv,hi,hj,Instr.sliceBounds,Instr.sliceBound,asIntOf,h,vq h2]
  |slice _ b off cap f hm hcap hl hc hr=>
   refine⟨.slice (some ⟨b,off,none⟩) l.len l.len,?_,.full _ _ l (.slice l b off l.len f hm (fB _) hl hc hr)⟩;have h9:(0:Int)<=l.len:=kn
   have h10:(l.len:Int)<=cap:=kn
   by_cases h0:l.len=0
   .simp[execOp,ho,Instr.sliceAt,Instr.slice,wj h1,hxv,hi,hj,Instr.sliceBounds,Instr.sliceBound,asIntOf,h9,h10,vq h2,h0]
   .simp[execOp,ho,Instr.sliceAt,Instr.slice,wj h1,hxv,hi,hj,Instr.sliceBounds,Instr.sliceBound,asIntOf,h9,h10,vq h2,h0,IK];omega
def SL.sub(l:SL V)(lo n:Nat):SL V:=match l with| .t c xs=> .t c ((xs.drop lo).take n)| .u s xs=> .u s ((xs.drop lo).take n)
theorem SL.Jt(l:SL V)(lo n:Nat)(h:lo+n<=l.len):(l.sub lo n).len=n/\(l.sub lo n).cells=l.cells/\∀i,i<n->(l.sub lo n).get i=l.get (lo+i):=by
 cases l with
 |t c xs=>
  exact rK
 |u s xs=>
  exact rK
theorem A2.sub{m:Nat->Nat}{w:World}{b off cap:Nat}{l:SL V}{f:Nat->Nat->Value}(hm:off+l.len*l.cells<=m b)(hcap:l.len<=cap)
 (hl:∀i,i<l.len->∃cs,l.get i=some cs/\cs.length=l.cells) (hc:∀i j,i<l.len->j<l.cells->w.cell? ⟨b,off+(i*l.cells+j),none⟩=some (f i j))
 (hr:∀i j cs c,i<l.len->l.get i=some cs->cs[j]? =some c->A2 m w (f i j) c) (lo n:Nat) (hn:lo+n<=l.len):
 A2 m w (.slice (some ⟨b,off+lo*l.cells,none⟩) n (cap-lo)) (.slice .any (l.sub lo n)):=by
 obtain⟨h1,h2,h3⟩:=SL.Jt l lo n hn;have:=A2.slice (m:=m) (w:=w) (l.sub lo n) b (off+lo*l.cells) (cap-lo) (fun i j=>f (lo+i) j) ?_ ?_ ?_ ?_ ?_
 .grind
 .rw[h1,h2];have:(lo+n)*l.cells<=l.len*l.cells:=gX _ hn
  grind
 .omega
 .intro i hi;rw[h1] at hi;rw[h3 i hi,h2];exact hl _ kn
 all_goals grind
end
section
variable {E:Env} {N:Nat} {o:Oper} {a:AF}
def AC(E:Env)(f:FuncId)(args:List V)(σ:Ao)(r:V)(σ':Ao):Prop:=
 (∀vs w,(callFunc f vs).run E.P w= .ok (.enter f vs) w)/\σ.nx<=σ'.nx/\
 ∀g w (vs:List Value),R E.G g (·<σ.nx) σ.es w->vs.length=args.length->(∀(i:Nat) v c,vs[i]? =some v->args[i]? =some c->Aq g (·<σ.nx) w v c)->
  Calls E.P f vs.toArray w fun e w'=>∃v g',e= .returned v/\R E.G g' (·<σ'.nx) σ'.es w'/\Aq g' (·<σ'.nx) w' v r/\Ext (·<σ.nx) g (Av g σ.es) w g' (Av g' σ'.es) w'
def PC(E:Env)(f:FuncId)(args:List V)(r:V):Prop:=AC E f args ⟨0,[]⟩ r ⟨0,[]⟩
def EU(E:Env)(a:AF):List Operand->List TypeId->Option (List V)
 |[],_=>some []
 |x::xs,[]=>(ev E 0 a x).bind fun v=>(EU E a xs []).map fun vs=>v::vs
 |x::xs,t::ts=>(ev E t a x).bind fun v=>(EU E a xs ts).map fun vs=>v::vs
theorem Tq:∀{xs:List Operand} {ts:List TypeId} {vs:List V},EU E a xs ts=some vs->∀{g:Gh} {D:Nat->Prop} {es:Es} {w:World} {act:Act},R E.G g D es w->Bi g D w N act a->
 (xs.map act.eval).length=vs.length/\∀(i:Nat) v c,(xs.map act.eval)[i]? =some v->vs[i]? =some c->Aq g D w v c:=by
 intro xs;induction xs with
 |nil=>intro ts vs h g D es w act hR hF;simp[EU] at h;grind
 |cons x l ih=>
  intro ts vs h g D es w act hR hF;have key:∀t ts',(ev E t a x).bind (fun v=>(EU E a l ts').map fun vs=>v::vs)=some vs->((x::l).map act.eval).length=vs.length/\∀(i:Nat) v c,((x::l).map act.eval)[i]? =some v->vs[i]? =some c->Aq g D w v c:=by
   intro t ts' h;simp only[fL,fE] at h;obtain⟨v,h1,vs',h2,rfl⟩:=h;obtain⟨h3,h4⟩:=ih h2 hR hF;refine⟨kr,fun i u c hu hc=> ?_⟩;cases i with
   |zero=>simp at hu hc;subst hu;subst hc;exact yk h1 hR hF
   |succ i=>grind
  cases ts with
  |nil=>exact key 0 [] h
  |cons t ts=>exact key t ts h
theorem cm{f:FuncId}{xs:List Operand}{ts:Array TypeId}(ho:o.op= .call {callee:= .value (.func f),args:=xs.toArray,argTypes:=ts}){act:Act}{w:World}{K:Act->World->Prop}{Q:Exit->Act->World->Prop}
 (hc:∀vs w,(callFunc f vs).run E.P w= .ok (.enter f vs) w)
 (h:Calls E.P f (xs.map act.eval).toArray w fun e w'=>∃v,e= .returned v/\K (act.put o.dst v) w'):o.wp E.P act w K Q:=by
 have hrun:(execOp act.eval o).run E.P w= .ok (.enter f (xs.map act.eval).toArray) w:=by
  simp[execOp,ho,resolve,Deferred.ofValue,Act.eval,invoke,hc]
 unfold Oper.wp;rw[hrun];refine h.mono ?_
 grind
theorem Yhj{x:Operand}{f:FuncId}{fi caps:List Value}{xs:List Operand}{ts:Array TypeId}(ho:o.op= .call {callee:= .value x,args:=xs.toArray,argTypes:=ts}){act:Act}{w:World}{K:Act->World->Prop}{Q:Exit->Act->World->Prop}
 (hx:act.eval x= .func (.func f) fi.toArray caps.toArray) (hc:∀vs w,(callFunc f vs).run E.P w= .ok (.enter f vs) w)
 (h:Calls E.P f (fi++xs.map act.eval++caps).toArray w fun e w'=>∃v,e= .returned v/\K (act.put o.dst v) w'):o.wp E.P act w K Q:=by
 have hrun:(execOp act.eval o).run E.P w= .ok (.enter f (fi++xs.map act.eval++caps).toArray) w:=by
  simp[execOp,ho,resolve,hx,Deferred.ofValue,invoke,hc]
 unfold Oper.wp;rw[hrun];refine h.mono ?_
 grind
def Gh.marks(g g':Gh):Gh:={g with m:=g'.m}
theorem PC.use{f:FuncId}{args:List V}{r:V}(h:PC E f args r){g:Gh}{D:Nat->Prop}{es:Es}{w:World}(hR:R E.G g D es w){vs:List Value}{cs:List V}(hl:vs.length=cs.length)
 (hr:∀(i:Nat) v c,vs[i]? =some v->cs[i]? =some c->Aq g D w v c) (hle:∃cs1,vn [] args=some cs1/\BA cs cs1) {P:Ending->World->Prop}
 (hP:∀v g' w',R E.G g' D es w'->Aq g' D w' v r->Ext D g (Av g es) w g' (Av g' es) w'->P (.returned v) w'):Calls E.P f vs.toArray w P:=by
 obtain⟨cs1,h1,h2⟩:=hle;obtain⟨_,_,h3⟩:=h;have hRs:R E.G g (·<0) [] w:=⟨fun n e h=>kM,fun n n' e e' b h=>kM,fun n e h=>kM,hR.fresh,hR.FN⟩;have hnr:∀n m,CJ [] n≠some m:=fun n m h=>by simp[CJ,Du] at h
 refine(h3 g w vs hRs (by rw[hl,h2.len,<-xp h1]) (fun i v c hv hc=> ?_)).mono ?_
 .obtain ⟨c1,hc1⟩:=Az (xp h1) hc;obtain⟨c0,hc0,hle⟩:=h2.nth i c1 hc1;exact Aq.G1 (ρ:=[]) (g2:=g) (hle _ _ _ _ (hr i v c0 hv hc0)) rfl (fun n m h=>absurd h (hnr n m)) (fun n m h=>absurd h (hnr n m)) (fun n h=>by simp[Du] at h) c (um h1 i c c1 hc hc1)
 .rintro e w' ⟨v,g',rfl,hR',hv,hx⟩;have hnf:∀b,¬Av g [] b:=fun b h=>by obtain⟨n,e,h,_⟩:=h;cases h
  have hsame:∀b,b<w.heap.size->w'.heap[b]? =w.heap[b]? /\g'.m b=g.m b:=fun b hb=>hx.frame b hb (hnf b);have hfoot:Av (g.marks g') es=Av g es:=by
   rfl
  refine hP v (g.marks g') w' ?_ ?_ ?_
  .refine hR.step hx.mark hx.cells (fun _ h=>h) (fun _ _=>rfl) (fun _ _=>rfl) (fun n e he=> .inl ⟨he,fun b hb=>hsame b (hR.B4 he hb)⟩) ?_ hR'.fresh;intro n n' e e' b h4 h5 h6 h7;exact hR.Bd n n' e e' b h4 h5 (by cases e<;>exact h6) (by cases e'<;>exact h7)
  .exact hv.mono (fun _=>fB _) (fun _ _ _=>rfl) (fun n h=>absurd h (j8 n)) (fun n h=>absurd h (j8 n)) (fun n h=>absurd h (j8 n))
  .refine ⟨hx.os,hx.tape,hx.output,hx.size,hx.cells,hx.mark,fun _ _=>rfl,fun _ _=>rfl,fun b hb _=>hsame b hb,fun b hb=> ?_⟩;simp_all
theorem OS.Ou{f:FuncId}{xs:List Operand}{ts:Array TypeId}{cs args:List V}{r:V}(ho:o.op= .call {callee:= .value (.func f),args:=xs.toArray,argTypes:=ts})(hx:EU E a xs ts.toList=some cs)(h:PC E f args r)
 (hle:∃cs1,vn [] args=some cs1/\BA cs cs1):OS E N o a [] r [] []:=by
 intro g D es w act hR hp hn hF K Q hK;obtain⟨h1,h2⟩:=Tq hx hR hF;refine cm ho h.1 (h.use hR h1 h2 hle fun v g' w' h3 h4 h5=>⟨v,rfl,hK g' v w' (h3.more fun n h=> .inl h) (h4.more fun n h=> .inl h) h5⟩)
def EX(E:Env)(N k:Nat)(ops rest:List Oper)(a:AF)(σ:Ao)(Q:Exit->AF->Ao->Prop):Prop:=
 k<=σ.nx->∀g w act,R E.G g (·<σ.nx) σ.es w->Bi g (·<σ.nx) w N act a->ET E.Y g (Av g σ.es) w->∀g0 F0 w0,Ext (·<k) g0 F0 w0 g (Av g σ.es) w->
  wpList E.P ops.toArray (Post E N k g0 F0 w0 Q) rest act w
variable {k:Nat} {σ:Ao} {Q:Exit->AF->Ao->Prop} {ops rest:List Oper}
theorem AW.region{id:Nat}(h:EX E N k ops ops a σ Q):AW E N k (.region id ops.toArray false) a σ Q:=
 ⟨fun hk g w act hR hF hY=>wp_region_lit (h hk g w act hR hF hY g (Av g σ.es) w (.refl ..))⟩
theorem EX.nil(h:Q .normal a σ):EX E N k ops [] a σ Q:=
 fun hk g w act hR hF hY g0 F0 w0 hx=>wpList_nil ⟨g,a,σ,h,hk,hR,hF,hx⟩
def ya(N:Nat):Option Tmp->Bool
 |none=>true
 |some d=>Nat.blt d N
theorem RJ{d:Option Tmp}(h:ya N d=true):∀t,d=some t->t<N:=by
 intro t ht;subst ht;exact fP h
def Ao.AH(σ:Ao)(news:Nat)(post:Es):Ao:=⟨σ.nx+news,post++σ.es⟩
theorem EX.op{pre:Es}{v:V}{news:Nat}{post:Es}(h:Ku E N o a pre v (List.range' σ.nx news) post)(hg:o.guard=none)(hp:∀p∈pre,zo σ.es p.1=some p.2)(hd:ya N o.dst=true)
 (h2:EX E N k ops rest (a.put o.dst v) (σ.AH news post) Q):EX E N k ops (o::rest) a σ Q:=by
 intro hk g w act hR hF hY g0 F0 w0 hx;refine wpList_plain hg fun K hK=>h g _ σ.es w act hR hY hp (fun n hn hlt=> ?_) hF K _ fun g' v' w' hR' hv' hx'=>hK _ _ ?_
 .grind
 .exact qc
theorem EX.split{d:Tmp}{b:Bool}(hb:a.get d=some (.bool b))(ht:b=true->EX E N k ops rest ((d,.bool true)::a) σ Q)(hf:b=false->EX E N k ops rest ((d,.bool false)::a) σ Q):EX E N k ops rest a σ Q:=by
 intro hk g w act hR hF hY g0 F0 w0 hx;have key:∀b',b=b'->Bi g (·<σ.nx) w N act ((d,.bool b')::a):=by
  rintro _ rfl;refine⟨hF.size,hF.defers,fun t c hc=> ?_⟩;rw[AF.Bf] at hc;by_cases ht:d=t
  .subst ht;simp only[if_true,fI] at hc;subst hc;exact hF.vals d _ hb
  .simp only[ht,if_false] at hc;exact hF.vals t c hc
 cases hbb:b with
 |true=>exact ht hbb hk g w act hR (key _ hbb) hY g0 F0 w0 hx
 |false=>exact hf hbb hk g w act hR (key _ hbb) hY g0 F0 w0 hx
def SX(E:Env)(a:AF)(es:Es):ResultVar->Option V
 | .tmp t=>a.get t
 | .cell t T=>match a.get t,E.ti T with
   |some (.ptr n off),some i=>match zo es n with
    |some (.var cs)=>KL i (cs.drop off)
    |_=>none
   |_,_=>none
def GU(E:Env)(a:AF)(es:Es):List ResultVar->Option (List V)
 |[]=>some []
 |x::l=>(SX E a es x).bind fun v=>(GU E a es l).map fun vs=>v::vs
def zn:List V->V
 |[v]=>v
 |vs=> .AP vs
def Pu(act:Act):ResultVar->Sem Value
 | .tmp t=>pure (act.tmps.getD t undef)
 | .cell p t=>do loadVar t (<-asAddr (act.tmps.getD p undef))
theorem Yf8{x:ResultVar}{c:V}{es:Es}(h:SX E a es x=some c){g:Gh}{D:Nat->Prop}{w:World}{act:Act}(hR:R E.G g D es w)(hF:Bi g D w N act a):
 ∃v,(Pu act x).run E.P w= .ok v w/\Aq g D w v c:=by
 cases x with
 |tmp t=>
  obtain⟨v,h1,h2⟩:=hF.vals t c h;exact⟨v,by simp[Pu,gv,h1],h2⟩
 |cell t T=>
  simp only[SX] at h;split at h
  .rename_i n off i h1 h2;split at h
   .rename_i cs h3;obtain⟨v,h4,h5⟩:=hF.vals t _ h1;obtain⟨_,vs,t',h6,h7,h8,h9,_⟩:=hR.Cg n _ h3;cases h5 with
    |data h=>cases h
    |ptr _ _ hD=>
     obtain⟨v',h10,h11⟩:=Uh (E:=E) (g:=g) (D:=D) (w:=w) (b:=g.blk n) (off:=off) h2 h (fun j=>vs.getD (off+j) undef)
      (fun j hj=>by
       simp only[List.length_drop] at hj;rw[KO h6]
       grind)
      (fun j c hj=>by
       grind)
     exact⟨v',by simp[Pu,gv,h4,asAddr,h10],h11⟩
   grind
  grind
theorem Yb5:∀{xs:List ResultVar} {cs:List V} {es:Es},GU E a es xs=some cs->∀{g:Gh} {D:Nat->Prop} {w:World} {act:Act},R E.G g D es w->Bi g D w N act a->
 ∃vs:List Value,(xs.mapM (Pu act)).run E.P w= .ok vs w/\vs.length=cs.length/\
  ∀(i:Nat) v c,vs[i]? =some v->cs[i]? =some c->Aq g D w v c:=by
 intro xs;induction xs with
 |nil=>intro cs es h g D w act hR hF;simp[GU] at h;simp_all
 |cons x l ih=>
  intro cs es h g D w act hR hF;simp only[GU,fL,fE] at h;obtain⟨c,h1,cs',h2,rfl⟩:=h;obtain⟨v,h3,h4⟩:=Yf8 h1 hR hF;obtain⟨vs,h5,h6,h7⟩:=ih h2 hR hF;refine⟨v::vs,?_,kr,fun i u d hu hd=> ?_⟩
  .simp_all
  grind
def JM(E:Env)(k:Nat)(rs:List ResultVar)(r:V)(σ':Ao)(a:AF)(σ:Ao):Prop:=
 ∃cs,GU E a σ.es rs=some cs/\∃ρ:List (Option Nat),ρ.length=σ'.nx/\HR 0 k ρ=true/\yj ρ=true/\below σ.nx ρ=true/\Eh ρ σ.es σ'.es/\∃c1,uc ρ r=some c1/\Ap (zn cs) c1
def FT(E:Env)(k:Nat)(rs:List ResultVar)(r:V)(σ':Ao):Exit->AF->Ao->Prop
 | .ret,a,σ=>JM E k rs r σ' a σ
 | .normal,a,σ=>JM E k rs r σ' a σ
 |_,_,_=>False
def M5:Nat->List V->AF
 |_,[]=>[]
 |i,c::cs=>(i,c)::M5 (i+1) cs
theorem bM:∀{cs:List V} {i t:Nat} {c:V},AF.get (M5 i cs) t=some c->i<=t/\cs[t-i]? =some c:=by
 intro cs;induction cs with
 |nil=>intro i t c h;cases h
 |cons x l ih=>
  intro i t c h;simp only[M5,AF.Bf] at h;by_cases ht:i=t;all_goals grind
theorem JM.done{rs:List ResultVar}{r:V}{σ':Ao}(h:JM E k rs r σ' a σ){fn:Func}(hrs:fn.results=rs.toArray){g:Gh}{w:World}{act:Act}(hR:R E.G g (·<σ.nx) σ.es w)(hF:Bi g (·<σ.nx) w N act a):
 ∃v g',(results fn act.tmps).run E.P w= .ok v w/\R E.G g' (·<σ'.nx) σ'.es w/\Aq g' (·<σ'.nx) w v r/\Ext (·<k) g (Av g σ.es) w g' (Av g' σ'.es) w:=by
 obtain⟨cs,h1,ρ,h2,h3,h4,h5,h6,c1,h7,h8⟩:=h;obtain⟨vs,h9,h10,h11⟩:=Yb5 h1 hR hF;have hv:∃v,(results fn act.tmps).run E.P w= .ok v w/\Aq g (·<σ.nx) w v (zn cs):=by
  have hm:(results fn act.tmps).run E.P w= .ok (if h:vs.toArray.size=1 then vs.toArray[0] else .tuple vs.toArray) w:=by
   have:results fn act.tmps=(do let vs <-fn.results.mapM (Pu act);pure (if h:vs.size=1 then vs[0] else .tuple vs):Sem Value):=rfl;simp_all
  refine⟨_,hm,?_⟩
  match vs,cs,h10,h11 with
  |[],[],_,h=>exact .AP [] [] rfl h
  |[v],[c],_,h=>exact h 0 v c rfl rfl
  |v::v'::l,c::c'::l',hl,h=>simpa[zn] using Aq.AP (v::v'::l) (c::c'::l') hl h
 obtain⟨v,h12,h13⟩:=hv;have hw:=Bg.mk (E:=E) (N:=1) (k:=k) (a:=[(0,zn cs)]) (σ:=σ) ρ [(0,r)] σ'.es σ'.nx h2.symm h3 h4 h5 ⟨⟨c1,h7,zn cs,rfl,h8⟩,trivial⟩ h6;by_cases hk:k<=σ.nx
 .obtain ⟨_,hw⟩:=hw hk;obtain⟨g',h14,h15,h16⟩:=hw g w {tmps:= #[v],defers:=[]} hR ⟨rfl,rfl,fun t c hc=>by
   rw[AF.Bf] at hc;by_cases ht:0=t
   .grind
   .simp only[ht,if_false] at hc;cases hc⟩
  obtain⟨v',h17,h18⟩:=h15.vals 0 r rfl
  grind
 .exfalso;have h20:=Ic (Uv k 0 ρ h3 (k-1) kn);have h21:=Zyt h5 (Uv k 0 ρ h3 (k-1) kn);omega
theorem AC.mk{f:FuncId}{fn:Func}{c:Code}{args:List V}{r:V}{σ':Ao}{rs:List ResultVar}(hf:E.P.funcs[f]? =some fn)(hb:fn.body=some c)(hname:(fn.name== "runtime.NumGoroutine")=false)(hN:fn.ntmps=N)
 (hrs:fn.results=rs.toArray) (hargs:Nat.ble args.length N=true) (hnx:σ.nx<=σ'.nx) (h:AW E N σ.nx c (M5 0 args) σ (FT E σ.nx rs r σ')) (hY:E.Y=[]:=by rfl):AC E f args σ r σ':=by
 refine⟨fun vs w=> ?_,hnx,fun g w vs hR hl hr=> ?_⟩
 .exact sK
 .have hle:=fP hargs;refine calls_of_wp hf hb (wp_mono (h.run (fB _) g w _ hR ?_ (.none hY)) ?_)
  .exact rG
  .rintro e act' w' ⟨g',a',σ1,hq,hk1,hR1,hF1,hx1⟩;cases e with
   |normal=>
    exact rL
   |ret=>
    exact rL
   |_=>exact hq.elim
end
def yg(ops:List Oper)(a:AF):Option (Nat×Bool)->Option Bool
 |none=>some true
 |some (j,b)=>match (ops[j]?).bind (·.dst) with
  |some d=>match a.get d with
   |some (.bool c)=>some (bif b then c else !c)
   |some (.AP [])=>some false
   |_=>none
  |none=>none
section
variable {E:Env} {N k:Nat} {a:AF} {σ:Ao} {Q:Exit->AF->Ao->Prop} {ops rest:List Oper}
theorem R3{o:Oper}{c:Bool}(h:yg ops a o.guard=some c){g:Gh}{D:Nat->Prop}{w:World}{act:Act}(hF:Bi g D w N act a):Region.wanted o (yielded ops.toArray act.tmps)=c:=by
 cases hg:o.guard with
 |none=>
  rw[hg] at h;simp only[yg,fI] at h;simp[Region.wanted,hg,h]
 |some p=>
  obtain⟨j,b⟩:=p;rw[hg] at h;simp only[yg] at h;split at h
  .rename_i d hj;split at h
   .rename_i c' hb;simp only[fI] at h;obtain⟨v,h1,h3⟩:=hF.vals d _ hb;have:=h3.DE;subst this;simp[Region.wanted,hg,yielded,hj,h1];cases b<;>cases c'<;>simp at h<;>simp[h]
   .rename_i hb;simp only[fI] at h;obtain⟨v,h1,h3⟩:=hF.vals d _ hb;have hv:v= .tuple #[]:=by
     cases h3 with
     |data h=>cases h
     |AP vs _ hl _=>grind
    subst hv;simp[Region.wanted,hg,yielded,hj,h1,h]
   grind
  grind
def Iz(es:Es):Es->Prop
 |[]=>True
 |p::l=>zo es p.1=some p.2/\Iz es l
theorem Zv{es:Es}:∀{pre:Es},Iz es pre->∀p∈pre,zo es p.1=some p.2:=by
 intro pre;induction pre with
 |nil=>simp
 |cons q l ih=>
  intro h p hp;rcases fW.1 hp with rfl|hp
  .exact h.1
  .exact ih h.2 p hp
theorem EX.run{o:Oper}{pre:Es}{v:V}{news:Nat}{post:Es}(hw:yg ops a o.guard=some true)(h:Ku E N o a pre v (List.range' σ.nx news) post)(hp:Iz σ.es pre)(hd:ya N o.dst=true)
 (h2:EX E N k ops rest (a.put o.dst v) (σ.AH news post) Q):EX E N k ops (o::rest) a σ Q:=by
 intro hk g w act hR hF hY g0 F0 w0 hx;refine wpList_step fun K hK=> ?_;rw[if_pos (R3 hw hF)];refine h g _ σ.es w act hR hY (Zv hp) (fun n hn hlt=> ?_) hF K _ fun g' v' w' hR' hv' hx'=>hK _ _ ?_
 .grind
 .exact qc
theorem EX.sk{o:Oper}(hw:yg ops a o.guard=some false)(hd:ya N o.dst=true)(h2:EX E N k ops rest (a.put o.dst (.AP [])) σ Q):EX E N k ops (o::rest) a σ Q:=by
 intro hk g w act hR hF hY g0 F0 w0 hx;refine wpList_step fun K hK=> ?_;rw[if_neg (by rw[R3 hw hF];simp)];exact hK _ _ (h2 hk g w _ hR (hF.put (RJ hd) (.AP [] [] rfl (fun i v c h=>ko))) hY g0 F0 w0 hx)
end
section
variable {E:Env} {N k:Nat} {a:AF} {σ:Ao} {Q:Exit->AF->Ao->Prop}
def WY(E:Env)(N k:Nat){ι:Type}(J:ι->AF×Ao)(Q:Exit->AF->Ao->Prop):Exit->AF->Ao->Prop
 | .normal,a,σ=>∃i,Bg E N k a σ (J i).1 (J i).2
 |e,a,σ=>Q e a σ
namespace K
theorem sq{x y:Code}(h:AW E N k x a σ (J6 E N k y Q)):AW E N k (.seq x y) a σ Q:= .seq h
theorem tN{y:Code}(h:AW E N k y a σ Q):J6 E N k y Q .normal a σ:=h
theorem tR{y:Code}(h:Q .ret a σ):J6 E N k y Q .ret a σ:=h
theorem tE{y:Code}{id:Nat}(h:Q (.exit id) a σ):J6 E N k y Q (.exit id) a σ:=h
theorem bN{id:Nat}(h:Q .normal a σ):uq id Q .normal a σ:=h
theorem bR{id:Nat}(h:Q .ret a σ):uq id Q .ret a σ:=h
theorem bO{id id':Nat}(hne:Nat.beq id' id=false)(h:Q (.exit id') a σ):uq id Q (.exit id') a σ:=by simp only[uq,hne,cond_false];exact h
theorem lR{ι:Type}{J:ι->AF×Ao}{μ:ι->Nat}{i:ι}(h:Q .ret a σ):N9 E N k J μ i Q .ret a σ:=h
theorem lE{ι:Type}{J:ι->AF×Ao}{μ:ι->Nat}{i:ι}{id:Nat}(h:Q (.exit id) a σ):N9 E N k J μ i Q (.exit id) a σ:=h
theorem cR{ι:Type}{J:ι->AF×Ao}(h:Q .ret a σ):WY E N k J Q .ret a σ:=h
theorem cE{ι:Type}{J:ι->AF×Ao}{id:Nat}(h:Q (.exit id) a σ):WY E N k J Q (.exit id) a σ:=h
theorem rt{rs:List ResultVar}{r:V}{σ':Ao}{cs:List V}{c1:V}(ρ:List (Option Nat))(h1:GU E a σ.es rs=some cs)(h2:ρ.length=σ'.nx)(h3:HR 0 k ρ=true)(h4:yj ρ=true)(h5:below σ.nx ρ=true)
 (h6:Eh ρ σ.es σ'.es) (h7:uc ρ r=some c1) (h8:Ap (zn cs) c1):FT E k rs r σ' .ret a σ:=⟨cs,h1,ρ,h2,h3,h4,h5,h6,c1,h7,h8⟩
theorem r0{rs:List ResultVar}{r:V}{cs:List V}{c1:V}(h1:GU E a σ.es rs=some cs)(h7:uc [] r=some c1)(h8:Ap (zn cs) c1):FT E 0 rs r ⟨0,[]⟩ .ret a σ:=
 ⟨cs,h1,[],rfl,rfl,rfl,rfl,trivial,c1,h7,h8⟩
end K
end
section
variable {β:Type}
def Ei:List (Nat×β)->Nat->Option β
 |[],_=>none
 |p::l,n=>bif Nat.beq p.1 n then some p.2 else Ei l n
theorem PT(m:Nat)(e:β)(es:List (Nat×β))(n:Nat):Ei ((m,e)::es) n=if m=n then some e else Ei es n:=by
 show(bif Nat.beq m n then some e else Ei es n)=_;simp
theorem N7(p es:List (Nat×β))(n:Nat):Ei (p++es) n=(Ei p n).or (Ei es n):=by
 induction p with
 |nil=>rfl
 |cons x l ih=>
  obtain⟨m,e⟩:=x;rw[iJ,PT,PT]
  grind
theorem Dg{p:List (Nat×β)}{n:Nat}:(Ei p n).isSome=true↔n∈p.map Prod.fst:=by
 induction p with
 |nil=>simp[Ei]
 |cons x l ih=>
  obtain⟨m,e⟩:=x;rw[PT]
  grind
theorem V6{p:List (Nat×β)}{n:Nat}(h:n∉p.map Prod.fst):Ei p n=none:=by
 cases hf:Ei p n with
 |none=>rfl
 |some x=>exact absurd (Dg.1 kr) h
def u5(fl:Nat->Bool):Nat->List (List (Nat×β))->List (Nat×β)->List (Nat×β)
 |_,[],es=>es
 |i,u::us,es=>u5 fl (i+1) us (bif fl i then u++es else es)
theorem NM{fl fl':Nat->Bool}{n:Nat}:∀{us:List (List (Nat×β))} {i:Nat} {es es':List (Nat×β)},Ei es n=Ei es' n->(∀j u,us[j]? =some u->n∈u.map Prod.fst->fl (i+j)=fl' (i+j))->
 Ei (u5 fl i us es) n=Ei (u5 fl' i us es') n:=by
 intro us;induction us with
 |nil=>intro i es es' h _;exact h
 |cons u us ih=>
  intro i es es' h hk;simp only[u5];refine ih ?_ fun j u' hj hn=> ?_
  .by_cases hn:n∈u.map Prod.fst
   .have:=hk 0 u rfl hn;rw[jc] at this;rw[this];cases fl' i with
    |true=>simp only[cond_true,N7,h]
    |false=>exact h
   .have hu:=V6 hn;have e1:∀(b:Bool) (es:List (Nat×β)),Ei (bif b then u++es else es) n=Ei es n:=fun b es=>by
     cases b<;>simp[N7,hu]
    rw[e1,e1,h]
  .have:=hk (j+1) u' kr hn
   grind
theorem Yq{fl:Nat->Bool}{n:Nat}:∀{us:List (List (Nat×β))} {i k:Nat} {u:List (Nat×β)} {es:List (Nat×β)},us[k]? =some u->fl (i+k)=true->n∈u.map Prod.fst->
 (∀j u',k<j->us[j]? =some u'->n∈u'.map Prod.fst->fl (i+j)=false)->Ei (u5 fl i us es) n=Ei u n:=by
 intro us;induction us with
 |nil=>simp
 |cons x us ih=>
  intro i k u es hk hf hn hl;simp only[u5];cases k with
  |zero=>
   simp at hk;subst hk;rw[jc] at hf;have h1:Ei (u5 fl (i+1) us (bif fl i then x++es else es)) n=Ei (u5 (fun _=>false) (i+1) us (x++es)) n:=by
    refine NM kr fun j u' hj hn'=> ?_;have:=hl (j+1) u' kn kr hn'
    grind
   have h2:∀(us:List (List (Nat×β))) i es,u5 (fun _=>false) i us es=es:=by
    intro us;induction us with
    |nil=>intro i es;rfl
    |cons y us ih=>intro i es;simp only[u5,cond_false];grind
   rw[h1,h2,N7];obtain⟨v,hv⟩:=iK.1 (Dg.2 hn)
   grind
  |succ k=>
   refine ih (by simpa using hk) kr hn fun j u' hj hju hn'=> ?_;have:=hl (j+1) u' kn kr hn'
   grind
end
theorem NA(a:AF)(n:Nat):a.get n=(Ei a n:Option V):=by
 induction a with
 |nil=>rfl
 |cons p l ih=>obtain⟨m,e⟩:=p;rw[AF.Bf,PT,ih]
theorem Nc(es:Es)(n:Nat):zo es n=(Ei es n:Option A7):=by
 induction es with
 |nil=>rfl
 |cons p l ih=>obtain⟨m,e⟩:=p;rw[zv,PT,ih]
def Gd(o:Oper):List Nat:=o.after.toList.filterMap fun e=>bif Region.binds .any e then some e.on else none
def W3(bs:List Nat)(o:Oper):Nat:=(Gd o).foldl (fun s e=>s|||2^e|||bs.getD e 0) 0
def Lm:List Oper->List Nat->List Nat
 |[],bs=>bs
 |o::l,bs=>Lm l (bs++[W3 bs o])
inductive Path (ops:List Oper):Nat->Nat->Prop
 |base {i j:Nat} {o:Oper} (ho:ops[j]? =some o) (h:i∈Gd o):Path ops i j
 |step {i m j:Nat} {o:Oper} (ho:ops[j]? =some o) (h:m∈Gd o) (h2:Path ops i m):Path ops i j
theorem Zsd{ops:List Oper}{bs:List Nat}{o:Oper}{j:Nat}(ho:ops[j]? =some o)(hbs:∀m i,(bs.getD m 0).testBit i=true->Path ops i m):∀i,(W3 bs o).testBit i=true->Path ops i j:=by
 have key:∀(l:List Nat) (s:Nat),(∀e∈l,e∈Gd o)->(∀i,s.testBit i=true->Path ops i j)->∀i,(l.foldl (fun s e=>s|||2^e|||bs.getD e 0) s).testBit i=true->Path ops i j:=by
  intro l;induction l with
  |nil=>simp
  |cons e l ih=>
   intro s hl hs i h;refine ih _ (fun e' he'=>hl e' kr) (fun i' h'=> ?_) i h;rw[Nat.testBit_or,Nat.testBit_or,ic,ic] at h';rcases h' with(h'|h')|h'
   .grind
   .rw[Nat.testBit_two_pow] at h';simp only[decide_eq_true_eq] at h';subst h';exact .base ho (hl e ko)
   .exact .step ho (hl e ko) (hbs e i' h')
 intro i h;exact key (Gd o) 0 (fun e h=>h) (fun i h=>kr) i h
theorem Zyh{ops:List Oper}:∀(l:List Oper) (bs:List Nat),(∀j,l[j]? =ops[bs.length+j]?)->(∀m i,(bs.getD m 0).testBit i=true->Path ops i m)->∀m i,((Lm l bs).getD m 0).testBit i=true->Path ops i m:=by
 intro l;induction l with
 |nil=>intro bs _ h;exact h
 |cons o l ih=>
  intro bs hl h;refine ih (bs++[W3 bs o]) (fun j=>by have:=hl (j+1);grind) ?_;intro m i hm;by_cases h1:m<bs.length
  .grind
  .by_cases h2:m=bs.length
   .subst h2;rw[gy,gP (fB _)] at hm;simp only[jd,jS,iq] at hm;have h0:ops[bs.length]? =some o:=by have:=hl 0;grind
    exact Zsd h0 h i hm
   grind
structure Rec where
 pre:Es
 v:V
 news:Nat
 post:Es
def eO(xs:List Operand):List Nat:=xs.filterMap fun| .tmp t=>some t|_=>none
def Fe(ops:List Oper)(o:Oper):List Nat:=
 eO o.op.operands.toList++(match o.guard with|some (j,_)=>((ops[j]?).bind (·.dst)).toList|none=>[])
def HQ(a:AF):List Nat->AF
 |[]=>[]
 |t::l=>match a.get t with
  |some v=>(t,v)::HQ a l
  |none=>HQ a l
theorem YG{a:AF}:∀{l:List Nat} {t:Nat} {c:V},(HQ a l).get t=some c->t∈l/\a.get t=some c:=by
 intro l;induction l with
 |nil=>intro t c h;cases h
 |cons x l ih=>
  intro t c h;simp only[HQ] at h;cases hx:a.get x with
  |none=>grind
  |some v=>
   rw[hx] at h;simp only[AF.Bf] at h
   grind
def Kv(l l':List Nat):Bool:=l.any fun x=>l'.any fun y=>Nat.beq x y
theorem OB{l l':List Nat}{x:Nat}(h:x∈l)(h':x∈l'):Kv l l'=true:=
 jv.2 ⟨x,h,jv.2 ⟨x,h',ko⟩⟩
def HL(lo lo':List Nat)(d d':List Nat)(r r':Rec):Bool:=
 Kv d lo'||Kv d' lo||Kv d d'||Kv (r.post.map Prod.fst) (r'.pre.map Prod.fst)||Kv (r'.post.map Prod.fst) (r.pre.map Prod.fst)||Kv (r.post.map Prod.fst) (r'.post.map Prod.fst)
def SF(ops:List Oper)(lo d:List Nat)(r:Rec)(i:Nat):List Oper->List Rec->List Nat->Bool
 |o::os,r'::rs,m::ms=>(!HL lo (Fe ops o) d o.dst.toList r r'||m.testBit i)&&SF ops lo d r i os rs ms
 |_,_,_=>true
def Sv(ops:List Oper):Nat->List Oper->List Rec->List Nat->Bool
 |i,o::os,r::rs,_::ms=>SF ops (Fe ops o) o.dst.toList r i os rs ms&&Sv ops (i+1) os rs ms
 |_,_,_,_=>true
def Lp(ops:List Oper)(rs:List Rec):Bool:=Sv ops 0 ops rs (Lm ops [])
theorem Zr9{ops:List Oper}{lo d:List Nat}{r:Rec}{i:Nat}:∀{os:List Oper} {rs:List Rec} {ms:List Nat},SF ops lo d r i os rs ms=true->∀(j:Nat) o' r' m,os[j]? =some o'->rs[j]? =some r'->ms[j]? =some m->
 HL lo (Fe ops o') d o'.dst.toList r r'=true->m.testBit i=true:=by
 intro os;induction os with
 |nil=>simp
 |cons o os ih=>
  intro rs ms h j o' r' m h1 h2 h3 hc;cases rs with
  |nil=>grind
  |cons r0 rs=>
   cases ms with
   |nil=>grind
   |cons m0 ms=>
    simp only[SF,fD] at h
    grind
theorem Zs0{ops:List Oper}:∀{os:List Oper} {rs:List Rec} {ms:List Nat} {b:Nat},Sv ops b os rs ms=true->∀(i j:Nat) o r o' r' m,i<j->os[i]? =some o->rs[i]? =some r->os[j]? =some o'->rs[j]? =some r'->ms[j]? =some m->
 HL (Fe ops o) (Fe ops o') o.dst.toList o'.dst.toList r r'=true->m.testBit (b+i)=true:=by
 intro os;induction os with
 |nil=>simp
 |cons o0 os ih=>
  intro rs ms b h i j o r o' r' m hij h1 h2 h3 h4 h5 hc;cases rs with
  |nil=>grind
  |cons r0 rs=>
   cases ms with
   |nil=>grind
   |cons m0 ms=>
    simp only[Sv,fD] at h;cases j with
    |zero=>omega
    |succ j=>
     simp only[iV] at h3 h4 h5;cases i with
     |zero=>
      simp at h1 h2;subst h1;subst h2;rw[jc];exact Zr9 h.1 j o' r' m h3 h4 h5 hc
     |succ i=>
      grind
theorem Ydl:∀(l:List Oper) (bs:List Nat),(Lm l bs).length=bs.length+l.length:=by
 intro l;induction l with
 |nil=>intro bs;rfl
 |cons o l ih=>intro bs;simp only[Lm];grind
theorem Zg{ops:List Oper}{rs:List Rec}(h:Lp ops rs=true){i j:Nat}{o o':Oper}{r r':Rec}(hij:i<j)(h1:ops[i]? =some o)(h2:rs[i]? =some r)(h3:ops[j]? =some o')(h4:rs[j]? =some r')
 (hc:HL (Fe ops o) (Fe ops o') o.dst.toList o'.dst.toList r r'=true):Path ops i j:=by
 have hl:=Ydl ops [];have hj:j<(Lm ops []).length:=kr
 have h5:(Lm ops [])[j]? =some ((Lm ops [])[j]):=fG hj;have h6:=Zs0 h i j o r o' r' _ hij h1 h2 h3 h4 h5 hc;rw[gN] at h6;exact Zyh ops [] (fun j=>ko) (fun m i h=>kr) j i kr
inductive C0 (E:Env) (N:Nat) (X:Oper->Prop) (ops:List Oper):List Oper->AF->Ao->List Rec->AF->Ao->Prop
 |nil (a:AF) (σ:Ao):C0 E N X ops [] a σ [] a σ
 |run {o:Oper} {rest:List Oper} {a:AF} {σ:Ao} (r:Rec) {rs:List Rec} {a':AF} {σ':Ao} (hw:yg ops a o.guard=some true) (h:X o\/Ku E N o (HQ a (Fe ops o)) r.pre r.v (List.range' σ.nx r.news) r.post)
  (hp:Iz σ.es r.pre) (hd:ya N o.dst=true) (h2:C0 E N X ops rest (a.put o.dst r.v) (σ.AH r.news r.post) rs a' σ'):C0 E N X ops (o::rest) a σ (r::rs) a' σ'
 |sk {o:Oper} {rest:List Oper} {a:AF} {σ:Ao} {rs:List Rec} {a':AF} {σ':Ao} (hw:yg ops a o.guard=some false) (hd:ya N o.dst=true) (h2:C0 E N X ops rest (a.put o.dst (.AP [])) σ rs a' σ'):
  C0 E N X ops (o::rest) a σ (⟨[],.AP [],0,[]⟩::rs) a' σ'
def AWD(E:Env)(N k:Nat)(ops rest:List Oper)(a:AF)(σ:Ao)(acc:List Rec)(Q:Exit->AF->Ao->Prop):Prop:=
 ∃rs a' σ',C0 E N (fun _=>False) ops rest a σ rs a' σ'/\Lp ops (acc.reverse++rs)=true/\Q .normal a' σ'
def JZ(d:Option Nat)(v:V):AF:=match d with|some d=>[(d,v)]|none=>[]
theorem Px(a:AF)(d:Option Nat)(v:V):a.put d v=JZ d v++a:=by cases d<;>rfl
def Ef(os:List Oper)(rs:List Rec):List AF:=List.zipWith (fun o r=>JZ o.dst r.v) os rs
def DL(rs:List Rec):List Es:=rs.map Rec.post
def DG(nx:Nat)(rs:List Rec)(i:Nat):Nat:=nx+((rs.take i).map Rec.news).sum
theorem cM{β:Type}{fl:Nat->Bool}:∀{us:List (List (Nat×β))} {i:Nat} {es:List (Nat×β)},u5 fl (i+1) us es=u5 (fun j=>fl (j+1)) i us es:=by
 intro us;induction us with
 |nil=>intro i es;rfl
 |cons u us ih=>intro i es;simp only[u5];rw[ih]
theorem Uo{β:Type}{fl:Nat->Bool}:∀{us:List (List (Nat×β))} {i:Nat} {es:List (Nat×β)},(∀j,i<=j->fl j=false)->u5 fl i us es=es:=by
 intro us;induction us with
 |nil=>intro i es _;rfl
 |cons u us ih=>intro i es h;simp only[u5,h i (fB _),cond_false];grind
section
variable {E:Env} {N k:Nat} {ops:List Oper} {X:Oper->Prop}
theorem C0.len{rest:List Oper}{a:AF}{σ:Ao}{rs:List Rec}{a':AF}{σ':Ao}(h:C0 E N X ops rest a σ rs a' σ'):rs.length=rest.length:=by
 induction h<;>simp_all
theorem C0.fin{rest:List Oper}{a:AF}{σ:Ao}{rs:List Rec}{a':AF}{σ':Ao}(h:C0 E N X ops rest a σ rs a' σ'):
 a'=u5 (fun _=>true) 0 (Ef rest rs) a/\σ'.es=u5 (fun _=>true) 0 (DL rs) σ.es/\σ'.nx=DG σ.nx rs rs.length:=by
 have hs:∀{β:Type} {us:List (List (Nat×β))} {es:List (Nat×β)},u5 (fun _=>true) 1 us es=u5 (fun _=>true) 0 us es:=fun {β us es}=>cM;induction h with
 |nil=>exact⟨rfl,rfl,kz⟩
 |run r _ _ _ _ _ ih=>
  obtain⟨h1,h2,h3⟩:=ih;refine⟨?_,?_,?_⟩
  .rw[h1,Px];simp only[Ef,iX,u5,cond_true];grind
  .rw[h2];simp only[DL,fJ,u5,cond_true,Ao.AH];grind
  .rw[h3];simp[DG,Ao.AH];omega
 |sk _ _ _ ih=>
  obtain⟨h1,h2,h3⟩:=ih;refine⟨?_,?_,?_⟩
  .rw[h1,Px];simp only[Ef,iX,u5,cond_true];grind
  .rw[h2];simp only[DL,fJ,u5,cond_true,gz];grind
  .rw[h3];simp[DG]
def Yr9(E:Env)(N:Nat)(X:Oper->Prop)(ops:List Oper)(a:AF)(nx:Nat)(es:Es)(o:Oper)(r:Rec):Prop:=
 ya N o.dst=true/\((yg ops a o.guard=some true/\(X o\/Ku E N o (HQ a (Fe ops o)) r.pre r.v (List.range' nx r.news) r.post)/\Iz es r.pre)\/(yg ops a o.guard=some false/\r=⟨[],.AP [],0,[]⟩))
theorem C0.nth{rest:List Oper}{a:AF}{σ:Ao}{rs:List Rec}{a':AF}{σ':Ao}(h:C0 E N X ops rest a σ rs a' σ'):∀(i:Nat) o r,rest[i]? =some o->rs[i]? =some r->
 Yr9 E N X ops (u5 (fun j=>decide (j<i)) 0 (Ef rest rs) a) (DG σ.nx rs i) (u5 (fun j=>decide (j<i)) 0 (DL rs) σ.es) o r:=by
 have h0:∀{β:Type} {us:List (List (Nat×β))} {es:List (Nat×β)},u5 (fun j=>decide (j<0)) 0 us es=es:=fun {β us es}=>Uo fun j _=>ko
 have hs:∀{β:Type} {i:Nat} {us:List (List (Nat×β))} {es:List (Nat×β)},u5 (fun j=>decide (j<i+1)) 1 us es=u5 (fun j=>decide (j<i)) 0 us es:=fun {β i us es}=>by
  rw[cM];simp
 induction h with
 |nil=>simp
 |run r0 hw h hp hd _ ih=>
  intro i o r h1 h2;cases i with
  |zero=>
   simp at h1 h2;subst h1;subst h2;rw[h0,h0];exact⟨hd,.inl ⟨hw,by simpa[DG] using h,hp⟩⟩
  |succ i=>
   simp only[iV] at h1 h2;have:=ih i o r h1 h2;simp only[Ef,DL,iX,fJ,u5,Nat.zero_lt_succ,decide_true,cond_true];rw[hs,hs];rw[Px] at this;simp only[Ao.AH] at this;have hnx:∀nx rs,DG nx (r0::rs) (i+1)=DG (nx+r0.news) rs i:=fun nx rs=>by simp[DG];omega
   rw[hnx];exact this
 |sk hw hd _ ih=>
  intro i o r h1 h2;cases i with
  |zero=>
   simp at h1 h2;subst h1;subst h2;rw[h0,h0];exact⟨hd,.inr ⟨hw,rfl⟩⟩
  |succ i=>
   simp only[iV] at h1 h2;have:=ih i o r h1 h2;simp only[Ef,DL,iX,fJ,u5,Nat.zero_lt_succ,decide_true,cond_true,gz];rw[hs,hs];rw[Px] at this;have hnx:∀nx rs,DG nx ((⟨[],.AP [],0,[]⟩:Rec)::rs) (i+1)=DG nx rs i:=fun nx rs=>by simp[DG]
   rw[hnx];exact this
theorem RQ{nx:Nat}{rs:List Rec}{i:Nat}{r:Rec}(h:rs[i]? =some r):DG nx rs (i+1)=DG nx rs i+r.news:=by
 obtain⟨hi,rfl⟩:=fZ.1 h;simp only[DG];rw[gQ hi,iE,List.sum_append,fJ,fU,fT,gu];omega
theorem M0{nx:Nat}{rs:List Rec}{i j:Nat}(h:i<=j):DG nx rs i<=DG nx rs j:=by
 induction j with
 |zero=>grind
 |succ j ih=>
  by_cases hij:i=j+1
  .grind
  .have h1:=ih kn;cases hr:rs[j]? with
   |some r=>rw[RQ hr];omega
   |none=>
    have hl:rs.length<=j:=by
     grind
    have:DG nx rs (j+1)=DG nx rs j:=by simp only[DG];rw[jl kn,jl hl]
    omega
def Dn(nx:Nat)(rs:List Rec)(fl:Nat->Bool)(n:Nat):Prop:=n<nx\/∃i r,rs[i]? =some r/\fl i=true/\n∈List.range' (DG nx rs i) r.news
theorem Yqa{nx:Nat}{rs:List Rec}{fl:Nat->Bool}{i:Nat}{r:Rec}(h:rs[i]? =some r)(hf:fl i=false):∀n∈List.range' (DG nx rs i) r.news,¬Dn nx rs fl n:=by
 intro n hn hD;obtain⟨a,ha,rfl⟩:=j9.1 hn;have h0:DG nx rs 0=nx:=kz
 have h1:=M0 (nx:=nx) (rs:=rs) (iH i);rcases hD with hD|⟨j,r',hj,hfj,hm⟩
 .omega
 .obtain ⟨b,hb,hbe⟩:=j9.1 hm;have hij:i≠j:=fun e=>kr
  rcases Nat.lt_or_gt_of_ne hij with hlt|hlt
  .have:=M0 (nx:=nx) (rs:=rs) (show i+1<=j by omega);rw[RQ h] at this;omega
  .have:=M0 (nx:=nx) (rs:=rs) (show j+1<=i by omega);rw[RQ hj] at this;omega
theorem R.congr{G:D5}{g:Gh}{D:Nat->Prop}{es es':Es}{w:World}(h:R G g D es w)(he:∀n,zo es' n=zo es n):R G g D es' w:=
 ⟨fun n e hn=>h.lt n e kr,fun n n' e e' b h1 h2=>h.Bd n n' e e' b kr kr,fun n e hn=>h.Cg n e kr,h.fresh,h.FN⟩
theorem Av.congr{g:Gh}{es es':Es}(he:∀n,zo es' n=zo es n):Av g es'=Av g es:=by
 funext b;simp only[Av,he]
theorem Bi.congr{g:Gh}{D:Nat->Prop}{w:World}{act:Act}{a a':AF}(h:Bi g D w N act a)(he:∀t,a'.get t=a.get t):Bi g D w N act a':=
 ⟨h.size,h.defers,fun t c hc=>h.vals t c kr⟩
theorem VF{a a':AF}{o:Oper}(h:∀t∈Fe ops o,a'.get t=a.get t):yg ops a' o.guard=yg ops a o.guard:=by
 cases hg:o.guard with
 |none=>rfl
 |some p=>
  obtain⟨j,b⟩:=p;simp only[yg];cases hj:(ops[j]?).bind (·.dst) with
  |none=>rfl
  |some d=>
   have:d∈Fe ops o:=by simp[Fe,hg,hj]
   grind
theorem Ykp{p:Nat×A7}{pre:Es}(h:p∈pre):p.1∈pre.map Prod.fst:=List.mem_map_of_mem h
theorem Zsz{a0:AF}{σ0:Ao}{rs:List Rec}{a':AF}{σ':Ao}(hpl:C0 E N X ops ops a0 σ0 rs a' σ')(hord:Lp ops rs=true){Q:Exit->AF->Ao->Prop}{S:Array Bool->Prop}(hS:∀listed i (hin:i<ops.length),S listed->¬X ops[i]->S (listed.setIfInBounds i true))(hQ:∀listed,S listed->(∀j,j<ops.length->listed.getD j false=true)->Q .normal a' σ')(hk:k<=σ0.nx)
 {g0:Gh} {F0:Nat->Prop} {w0:World} (hY:ET E.Y g0 F0 w0) (hedge:∀j o,ops[j]? =some o->∀e∈Gd o,e<j) (hnX2:∀i (hin:i<ops.length),X ops[i]->∀{a:AF},yg ops a ops[i].guard≠some false) {PP:Exit->Act->World->Prop} (hPP:∀act w,Post E N k g0 F0 w0 Q .normal act w->PP .normal act w)
 (hcb:∀(fuel:Nat) (listed:Array Bool) (act:Act) (w:World) (i:Nat) (hin:i<ops.length) (g:Gh),S listed->listed.size=ops.length->listed.toList.count false<=fuel+1->
  (∀j o,ops[j]? =some o->listed.getD j false=true->∀e∈Gd o,listed.getD e false=true)->
  R E.G g (Dn σ0.nx rs fun j=>listed.getD j false) (u5 (fun j=>listed.getD j false) 0 (DL rs) σ0.es) w->Bi g (Dn σ0.nx rs fun j=>listed.getD j false) w N act (u5 (fun j=>listed.getD j false) 0 (Ef ops rs) a0)->
  Ext (·<k) g0 F0 w0 g (Av g (u5 (fun j=>listed.getD j false) 0 (DL rs) σ0.es)) w->X ops[i]->listed.getD i false=false->(∀e∈Gd ops[i],listed.getD e false=true)->
  (∀t∈Fe ops ops[i],AF.get (u5 (fun j=>listed.getD j false) 0 (Ef ops rs) a0) t=AF.get (u5 (fun j=>decide (j<i)) 0 (Ef ops rs) a0) t)->
  ops[i].wp E.P act w (wpAny E.P .any ops.toArray PP fuel (listed.setIfInBounds i true)) PP):
 ∀(fuel:Nat) (listed:Array Bool) (act:Act) (w:World),S listed->listed.size=ops.length->(listed.toList.count false<=fuel)->
  (∀j o,ops[j]? =some o->listed.getD j false=true->∀e∈Gd o,listed.getD e false=true)->
  (∃g,R E.G g (Dn σ0.nx rs fun j=>listed.getD j false) (u5 (fun j=>listed.getD j false) 0 (DL rs) σ0.es) w/\Bi g (Dn σ0.nx rs fun j=>listed.getD j false) w N act (u5 (fun j=>listed.getD j false) 0 (Ef ops rs) a0)/\
   Ext (·<k) g0 F0 w0 g (Av g (u5 (fun j=>listed.getD j false) 0 (DL rs) σ0.es)) w)->
  wpAny E.P .any ops.toArray PP fuel listed act w:=by
 have hlen:=hpl.len;obtain⟨hfa,hfe,hfn⟩:=hpl.fin;have hpath:∀(fl:Nat->Bool) (hc:∀j o,ops[j]? =some o->fl j=true->∀e∈Gd o,fl e=true) {i j:Nat},Path ops i j->(∀o,ops[j]? =some o->∀e∈Gd o,fl e=true)->fl i=true:=by
  intro fl hc i j hp;induction hp with
  |base ho h=>intro hj;exact hj _ ho _ h
  |step ho h _ ih=>intro hj;exact ih fun o' ho'=>hc _ o' ho' (hj _ ho _ h)
 have hend:∀(listed:Array Bool) (act:Act) (w:World),S listed->listed.size=ops.length->Region.ready .any ops.toArray listed=[]->
  (∃g,R E.G g (Dn σ0.nx rs fun j=>listed.getD j false) (u5 (fun j=>listed.getD j false) 0 (DL rs) σ0.es) w/\Bi g (Dn σ0.nx rs fun j=>listed.getD j false) w N act (u5 (fun j=>listed.getD j false) 0 (Ef ops rs) a0)/\
   Ext (·<k) g0 F0 w0 g (Av g (u5 (fun j=>listed.getD j false) 0 (DL rs) σ0.es)) w)->Post E N k g0 F0 w0 Q .normal act w:=by
  intro listed act w hs hsz hnil ⟨g,hR,hF,hx⟩;have hall:∀j,j<ops.length->listed.getD j false=true:=by
   intro j;induction j using Nat.strongRecOn with
   |_ j ih=>
    intro hj;cases hlj:listed.getD j false with
    |true=>rfl
    |false=>
     exfalso;have hmem:j∈Region.ready .any ops.toArray listed:=by
      unfold Region.ready;rw[iM];refine⟨kY,?_⟩;have hjs:j<listed.size:=kn
      have h1:listed.getD j true=false:=by
       simp only[gv,iB hjs,iq] at hlj ⊢;exact hlj
      have h2:ops.toArray[j]? =some (ops[j]):=by simp[hj]
      simp only[h1,Bool.not_false,gY,h2,gM,iq];rw[<-Array.all_toList,fF];intro e he;cases hb:Region.binds .any e with
      |false=>rfl
      |true=>
       have heh:e.on∈Gd ops[j]:=ji.2 ⟨e,he,by simp[hb]⟩;have hlt:=hedge j ops[j] (fG hj) e.on heh;simp only[jN,Bool.false_or];exact ih e.on hlt kn
     rw[hnil] at hmem;cases hmem
  have hfl:∀{β:Type} (us:List (List (Nat×β))) (es:List (Nat×β)),us.length=ops.length->∀n,Ei (u5 (fun j=>listed.getD j false) 0 us es) n=Ei (u5 (fun _=>true) 0 us es) n:=by
   intro β us es hus n;refine NM rfl fun j u hj _=> ?_;rw[gN];exact hall j (by rw[<-hus];exact(fZ.1 hj).1)
  have hpl2:(DL rs).length=ops.length:=by simp[DL,hlen]
  have hfl2:(Ef ops rs).length=ops.length:=by simp[Ef,hlen]
  have he:∀n,zo σ'.es n=zo (u5 (fun j=>listed.getD j false) 0 (DL rs) σ0.es) n:=fun n=>by
   rw[Nc,Nc,hfe];exact(hfl _ _ hpl2 n).symm
  have ha:∀n,a'.get n=AF.get (u5 (fun j=>listed.getD j false) 0 (Ef ops rs) a0) n:=fun n=>by
   rw[NA,NA,hfa];exact(hfl _ _ hfl2 n).symm
  have hD:∀n,Dn σ0.nx rs (fun j=>listed.getD j false) n->n<σ'.nx:=by
   intro n hn;rw[hfn];have h0:DG σ0.nx rs 0=σ0.nx:=by simp[DG]
   rcases hn with hn|⟨i,r,hr,_,hm⟩
   .have:=M0 (nx:=σ0.nx) (rs:=rs) (iH rs.length);omega
   .obtain ⟨b,hb,hbe⟩:=j9.1 hm;have hi:=(fZ.1 hr).1;have:=M0 (nx:=σ0.nx) (rs:=rs) (show i+1<=rs.length by omega);rw[RQ hr] at this;omega
  refine⟨g,a',σ',hQ listed hs hall,?_,(hR.congr he).more hD,?_,?_⟩
  .rw[hfn];have:=M0 (nx:=σ0.nx) (rs:=rs) (iH rs.length);have h0:DG σ0.nx rs 0=σ0.nx:=by simp[DG]
   omega
  .have:=hF.congr ha;exact⟨this.size,this.defers,fun t c hc=>let ⟨v,h1,h2⟩:=this.vals t c hc;⟨v,h1,h2.more hD⟩⟩
  .rw[Av.congr he];exact hx
 intro fuel;induction fuel with
 |zero=>
  intro listed act w hs hsz hcnt hcl hinv;have hready:Region.ready .any ops.toArray listed=[]:=by
   unfold Region.ready;rw[j3];intro j hj;have hj':j<ops.length:=kY
   have hjs:j<listed.size:=kn
   have:listed.getD j true=true:=by
    simp only[gv,iB hjs,iq];have h0:listed.toList.count false=0:=kn
    rw[List.count_eq_zero] at h0;cases hb:listed[j] with
    |true=>rfl
    |false=>exact absurd (by rw[<-hb];exact Array.getElem_mem_toList hjs) h0
   simp[this]
  exact⟨hready,hPP _ _ (hend listed act w hs hsz hready hinv)⟩
 |succ fuel ih=>
  intro listed act w hs hsz hcnt hcl hinv;refine⟨fun hnil=>hPP _ _ (hend listed act w hs hsz hnil hinv),fun i hi=> ?_⟩;obtain⟨g,hR,hF,hx⟩:=hinv;unfold Region.ready at hi;rw[iM] at hi;obtain⟨hi1,hi2⟩:=hi;have hin:i<ops.length:=by simpa using hi1
  have hios:ops[i]? =some ops[i]:=fG hin;have hirs:rs[i]? =some (rs[i]' kn):=fG _;have h2:ops.toArray[i]? =some (ops[i]):=by simp[hin]
  simp only[h2,gM,iq,fD] at hi2;have hil:i<listed.size:=kn
  have hfi:listed.getD i false=false:=by
   have:=hi2.1;simp only[gv,iB hil,iq] at this ⊢;simpa using this
  have hihard:∀o,ops[i]? =some o->∀e∈Gd o,listed.getD e false=true:=by
   intro o ho e he;rw[hios] at ho;cases ho;obtain⟨e',he',hee⟩:=ji.1 he;have h3:=hi2.2;rw[<-Array.all_toList,fF] at h3;have:=h3 e' he';cases hb:Region.binds .any e' with
   |false=>rw[hb] at hee;cases hee
   |true=>
    rw[hb] at hee this;simp only[cond_true,fI] at hee;subst hee;simpa using this
  have hcl1:∀j o r,ops[j]? =some o->rs[j]? =some r->j≠i->HL (Fe ops ops[i]) (Fe ops o) ops[i].dst.toList o.dst.toList (rs[i]' kn) r=true\/HL (Fe ops o) (Fe ops ops[i]) o.dst.toList ops[i].dst.toList r (rs[i]' kn)=true->
   listed.getD j false=decide (j<i):=by
   intro j o r hjo hjr hji hc;have hsym:∀{lo lo' d d' r r'},HL lo lo' d d' r r'=true->HL lo' lo d' d r' r=true:=by
    intro lo lo' d d' r r' h;have hany:∀x y:List Nat,Kv x y=true->Kv y x=true:=fun x y h=>by
     obtain⟨u,hu,h2⟩:=jv.1 h;obtain⟨v,hv,h3⟩:=jv.1 h2;have:=gA h3;subst this;exact OB hv hu
    simp only[HL,ic] at h ⊢;rcases h with((((h|h)|h)|h)|h)|h
    .exact .inl (.inl (.inl (.inl (.inr h))))
    .exact .inl (.inl (.inl (.inl (.inl h))))
    .exact .inl (.inl (.inl (.inr (hany _ _ h))))
    .exact .inl (.inr h)
    .exact .inl (.inl (.inr h))
    .exact .inr (hany _ _ h)
   rcases Nat.lt_or_gt_of_ne hji with hlt|hlt
   .have hp:=Zg hord hlt hjo hjr hios hirs (by rcases hc with hc|hc;(exact hsym hc);(exact hc));rw[decide_eq_true hlt];exact hpath (fun j=>listed.getD j false) hcl hp hihard
   .have hp:=Zg hord hlt hios hirs hjo hjr (by rcases hc with hc|hc;(exact hc);(exact hsym hc));have:¬j<i:=kn
    rw[decide_eq_false this];cases hlj:listed.getD j false with
    |false=>rfl
    |true=>
     have:=hpath (fun j=>listed.getD j false) hcl hp (fun o' ho'=>hcl j o' ho' hlj);rw[hfi] at this;cases this
  have hfus:∀{j:Nat} {u:AF},(Ef ops rs)[j]? =some u->∃o r,ops[j]? =some o/\rs[j]? =some r/\u=JZ o.dst r.v:=by
   intro j u hu;simp only[Ef,ke] at hu;split at hu
   .rename_i o r ho hr;cases hu;exact⟨o,r,ho,hr,rfl⟩
   .cases hu
  have hpus:∀{j:Nat} {u:Es},(DL rs)[j]? =some u->∃o r,ops[j]? =some o/\rs[j]? =some r/\u=r.post:=by
   intro j u hu;simp only[DL,gJ,fE] at hu;obtain⟨r,hr,rfl⟩:=hu;have hj:=(fZ.1 hr).1;exact⟨ops[j]' kn,r,fG _,hr,rfl⟩
  have hputk:∀{d:Option Nat} {v:V} {t:Nat},t∈(JZ d v).map Prod.fst->t∈d.toList:=by
   intro d v t h;cases d with|none=>simp[JZ] at h|some d=>simpa[JZ] using h
  have hputk2:∀{d:Option Nat} {v:V} {t:Nat},t∈d.toList->t∈(JZ d v).map Prod.fst:=by
   intro d v t h;cases d with|none=>simp at h|some d=>simpa[JZ] using h
  have hlook:∀t∈Fe ops ops[i],AF.get (u5 (fun j=>listed.getD j false) 0 (Ef ops rs) a0) t=AF.get (u5 (fun j=>decide (j<i)) 0 (Ef ops rs) a0) t:=by
   intro t ht;rw[NA,NA];refine NM rfl fun j u hj hn=> ?_;rw[gN];obtain⟨o,r,ho,hr,rfl⟩:=hfus hj;by_cases hji:j=i
   .subst hji;rw[hfi];simp
   .exact hcl1 j o r ho hr hji (.inr (by simp only[HL,ic];exact .inl (.inl (.inl (.inl (.inl (OB (hputk hn) ht)))))))
  have hpre:∀n∈((rs[i]' kn).pre).map Prod.fst,zo (u5 (fun j=>listed.getD j false) 0 (DL rs) σ0.es) n=zo (u5 (fun j=>decide (j<i)) 0 (DL rs) σ0.es) n:=by
   intro n hn;rw[Nc,Nc];refine NM rfl fun j u hj hnu=> ?_;rw[gN];obtain⟨o,r,ho,hr,rfl⟩:=hpus hj;by_cases hji:j=i
   .subst hji;rw[hfi];simp
   .exact hcl1 j o r ho hr hji (.inr (by simp only[HL,ic];exact .inl (.inl (.inr (OB hnu hn)))))
  have hfl':∀j,(listed.setIfInBounds i true).getD j false=(if j=i then true else listed.getD j false):=by
   intro j;by_cases hji:j=i
   .subst hji;simp[gv,gU,hil]
   .have:¬i=j:=fun e=>hji e.symm;simp[gv,gU,hji,this]
  have hsame:∀j,j≠i->(listed.setIfInBounds i true).getD j false=listed.getD j false:=fun j hj=>by rw[hfl',if_neg hj]
  have hself:(listed.setIfInBounds i true).getD i false=true:=by rw[hfl',if_pos rfl]
  have hes:∀n,zo (u5 (fun j=>(listed.setIfInBounds i true).getD j false) 0 (DL rs) σ0.es) n=zo ((rs[i]' kn).post++u5 (fun j=>listed.getD j false) 0 (DL rs) σ0.es) n:=by
   intro n;rw[Nc,Nc,N7];have hpi:(DL rs)[i]? =some (rs[i]' kn).post:=by simp only[DL,gJ,hirs,gM]
   by_cases hn:n∈((rs[i]' kn).post).map Prod.fst
   .rw[Yq (k:=i) hpi (by rw[gN];exact hself) hn]
    .obtain ⟨x,hx⟩:=iK.1 (Dg.2 hn);rw[hx];rfl
    .intro j u hij hj hnu;rw[gN,hsame j kn];obtain⟨o,r,ho,hr,rfl⟩:=hpus hj;have:=hcl1 j o r ho hr kn (.inl (by simp only[HL,ic];exact .inr (OB hn hnu)));rw[this];simp;omega
   .exact rj
  have hfr:∀t,AF.get (u5 (fun j=>(listed.setIfInBounds i true).getD j false) 0 (Ef ops rs) a0) t=AF.get (AF.put (u5 (fun j=>listed.getD j false) 0 (Ef ops rs) a0) ops[i].dst (rs[i]' kn).v) t:=by
   intro t;rw[Px,NA,NA,N7];have hpi:(Ef ops rs)[i]? =some (JZ ops[i].dst (rs[i]' kn).v):=by simp only[Ef,ke,hios,hirs]
   by_cases hn:t∈(JZ ops[i].dst (rs[i]' kn).v).map Prod.fst
   .rw[Yq (k:=i) hpi (by rw[gN];exact hself) hn]
    .obtain ⟨x,hx⟩:=iK.1 (Dg.2 hn);rw[hx];rfl
    .intro j u hij hj hnu;rw[gN,hsame j kn];obtain⟨o,r,ho,hr,rfl⟩:=hfus hj;have:=hcl1 j o r ho hr kn (.inl (by simp only[HL,ic];exact .inl (.inl (.inl (.inr (OB (hputk hn) (hputk hnu)))))));rw[this];simp;omega
   .exact rj
  have hDD:∀n,(Dn σ0.nx rs (fun j=>listed.getD j false) n\/n∈List.range' (DG σ0.nx rs i) (rs[i]' kn).news)->Dn σ0.nx rs (fun j=>(listed.setIfInBounds i true).getD j false) n:=by
   intro n hn;rcases hn with(hn|⟨j,r,hj,hfj,hm⟩)|hn
   .exact .inl hn
   .refine .inr ⟨j,r,hj,?_,hm⟩;by_cases hji:j=i
    .subst hji;exact hself
    .show (listed.setIfInBounds i true).getD j false=true;rw[hsame j hji];exact hfj
   .exact .inr ⟨i,_,hirs,hself,hn⟩
  have hrec:¬X ops[i]->∀g' v' w',R E.G g' (fun n=>Dn σ0.nx rs (fun j=>listed.getD j false) n\/n∈List.range' (DG σ0.nx rs i) (rs[i]' kn).news) ((rs[i]' kn).post++u5 (fun j=>listed.getD j false) 0 (DL rs) σ0.es) w'->
   Aq g' (fun n=>Dn σ0.nx rs (fun j=>listed.getD j false) n\/n∈List.range' (DG σ0.nx rs i) (rs[i]' kn).news) w' v' (rs[i]' kn).v->ya N ops[i].dst=true->
   Ext (Dn σ0.nx rs fun j=>listed.getD j false) g (Av g (u5 (fun j=>listed.getD j false) 0 (DL rs) σ0.es)) w g' (Av g' ((rs[i]' kn).post++u5 (fun j=>listed.getD j false) 0 (DL rs) σ0.es)) w'->
   wpAny E.P .any ops.toArray PP fuel (listed.setIfInBounds i true) (act.put ops[i].dst v') w':=by
   intro hnX g' v' w' hR' hv' hd hx';refine ih _ _ _ (hS _ i hin hs hnX) (by simpa using hsz) ?_ ?_ ⟨g',?_,?_,?_⟩
   .have hc0:listed.toList.count false=(listed.setIfInBounds i true).toList.count false+1:=by
     rw[i7];have hil2:i<listed.toList.length:=by simpa using hil
     have hli:listed.toList[i]=false:=by
      have:=hfi;simp only[gv,iB hil,iq] at this;simpa using this
     have h9:=List.count_set (a:=true) (b:=false) (l:=listed.toList) hil2;have h10:0<listed.toList.count false:=List.count_pos_iff.2 (by rw[<-hli];exact fA _);rw[h9,hli,if_pos (show(false==false)=true from rfl),if_neg (show ¬(true==false)=true by decide)];omega
    omega
   .intro j o ho hj e he;by_cases hji:j=i
    .subst hji;have:=hihard o ho e he;by_cases hei:e=j
     .subst hei;exact hself
     .rw[hsame e hei];exact this
    .rw[hsame j hji] at hj;have:=hcl j o ho hj e he;by_cases hei:e=i
     .subst hei;exact hself
     .rw[hsame e hei];exact this
   .exact (hR'.congr hes).more hDD
   .have h1:Bi g' (Dn σ0.nx rs fun j=>(listed.setIfInBounds i true).getD j false) w' N act (u5 (fun j=>listed.getD j false) 0 (Ef ops rs) a0):=hF.ext hx' fun n hn=>hDD n (.inl hn);exact(h1.put (RJ hd) (hv'.more hDD)).congr hfr
   .rw[Av.congr hes];exact hx.trans (hx'.mono fun n hn=> .inl kn)
  obtain⟨hd,hst⟩:=hpl.nth i _ _ hios hirs;have hwant:=VF (ops:=ops) (o:=ops[i]) hlook;have hiarr:ops.toArray[i]? =some ops[i]:=h2;unfold wpOp;rw[hiarr];simp only;rcases hst with⟨hw,hOS,hpr⟩|⟨hw,hr⟩
  .rw[if_pos (R3 (hwant.trans hw) hF)];by_cases hX:X ops[i]
   .exact .inl (hcb fuel listed act w i hin g hs hsz hcnt hcl hR hF hx hX hfi (hihard _ hios) hlook)
   have hOS:=hOS.resolve_left hX;refine .inl (hOS g _ _ w act hR (hY.ext hx) (fun p hp=> ?_) (Yqa hirs hfi) ?_ _ _ fun g' v' w' h3 h4 h5=>hrec hX g' v' w' h3 h4 hd h5)
   .rw[hpre p.1 (Ykp hp)];exact Zv hpr p hp
   .refine ⟨hF.size,hF.defers,fun t c hc=> ?_⟩;obtain⟨h3,h4⟩:=YG hc;exact hF.vals t c (by rw[hlook t h3];exact h4)
  .rw[if_neg (by rw[R3 (hwant.trans hw) hF];simp)];have hnil:(rs[i]' kn).post=[]/\(rs[i]' kn).news=0/\(rs[i]' kn).v= .AP []:=by rw[hr];exact⟨rfl,rfl,rfl⟩
   by_cases hX:X ops[i]
   .exact (hnX2 i hin hX (hwant.trans hw)).elim
   refine hrec hX g undef w ?_ ?_ hd ?_
   .rw[hnil.1,gz];exact hR.more fun n hn=> .inl hn
   .rw[hnil.2.2];exact .AP [] [] rfl (fun i v c h=>lK)
   .rw[hnil.1,gz];exact .refl ..
theorem Zxh{a0:AF}{σ0:Ao}{rs:List Rec}{a':AF}{σ':Ao}(hpl:C0 E N (fun _=>False) ops ops a0 σ0 rs a' σ')(hord:Lp ops rs=true){Q:Exit->AF->Ao->Prop}(hQ:Q .normal a' σ')(hk:k<=σ0.nx)
 {g0:Gh} {F0:Nat->Prop} {w0:World} (hY:ET E.Y g0 F0 w0) (hedge:∀j o,ops[j]? =some o->∀e∈Gd o,e<j):
 ∀(fuel:Nat) (listed:Array Bool) (act:Act) (w:World),listed.size=ops.length->(listed.toList.count false<=fuel)->
  (∀j o,ops[j]? =some o->listed.getD j false=true->∀e∈Gd o,listed.getD e false=true)->
  (∃g,R E.G g (Dn σ0.nx rs fun j=>listed.getD j false) (u5 (fun j=>listed.getD j false) 0 (DL rs) σ0.es) w/\Bi g (Dn σ0.nx rs fun j=>listed.getD j false) w N act (u5 (fun j=>listed.getD j false) 0 (Ef ops rs) a0)/\
   Ext (·<k) g0 F0 w0 g (Av g (u5 (fun j=>listed.getD j false) 0 (DL rs) σ0.es)) w)->
  wpAny E.P .any ops.toArray (Post E N k g0 F0 w0 Q) fuel listed act w:=
 fun fuel listed act w=>Zsz (S:=fun _=>True) hpl hord (fun _ _ _ _ _=>trivial) (fun _ _ _=>hQ) hk hY hedge (fun _ _ h=>h.elim) (fun _ _ h=>h) (fun _ _ _ _ _ _ _ _ _ _ _ _ _ _ h=>h.elim) fuel listed act w trivial
def Oq:Nat->List Oper->Bool
 |_,[]=>true
 |i,o::l=>(Gd o).all (fun e=>Nat.blt e i)&&Oq (i+1) l
theorem Zru:∀{l:List Oper} {i:Nat},Oq i l=true->∀j o,l[j]? =some o->∀e∈Gd o,e<i+j:=by
 intro l;induction l with
 |nil=>intro i _ j o h;simp at h
 |cons x l ih=>
  intro i h j o hj e he;simp only[Oq,fD] at h;cases j with
  |zero=>simp at hj;subst hj;exact fP (fF.1 h.1 e he)
  |succ j=>simp only[iV] at hj;have:=ih h.2 j o hj e he;omega
theorem AW.draw{a:AF}{σ:Ao}{Q:Exit->AF->Ao->Prop}{id:Nat}(hmix:E.P.follows .mixedOrders=true)(he:Oq 0 ops=true)(h:AWD E N k ops ops a σ [] Q):AW E N k (.region id ops.toArray true) a σ Q:=by
 obtain⟨rs,a',σ',hpl,hord,hq⟩:=h;constructor;intro hk g w act hR hF hY;refine wp_region_any hmix (Zxh hpl hord hq hk hY (fun j o ho e he'=>by have:=Zru he j o ho e he';omega) _ _ _ _ ko ?_ ?_ ⟨g,?_,?_,?_⟩)
 .simp
 .intro j o ho hj;exfalso;have:(Array.replicate ops.toArray.size false).getD j false=false:=by
   simp[gv,jO];split<;>rfl
  rw[this] at hj;cases hj
 all_goals
  have hff:(fun j=>(Array.replicate ops.toArray.size false).getD j false)=fun _=>false:=by
   funext j;simp[gv,jO];split<;>rfl
  have e1:u5 (fun _=>false) 0 (DL rs) σ.es=σ.es:=Uo fun _ _=>rfl;have e2:u5 (fun _=>false) 0 (Ef ops rs) a=a:=Uo fun _ _=>rfl;rw[hff]
 .rw[e1];exact hR.drew.more (fun n hn=>Or.inl hn)
 .rw[e2];exact⟨hF.size,hF.defers,fun t c hc=>let ⟨v,h1,h2⟩:=hF.vals t c hc;⟨v,h1,h2.drew.more (fun n hn=>Or.inl hn)⟩⟩
 .rw[e1];exact Ext.drew
end
theorem Zsj{a a':AF}(h:∀t,a'.get t=a.get t)(l:List Nat):HQ a' l=HQ a l:=by
 induction l with
 |nil=>rfl
 |cons t l ih=>simp only[HQ,h t,ih]
theorem di{a a':AF}(h:∀t,a'.get t=a.get t)(d:Option Nat)(v:V):∀t,AF.get (a'.put d v) t=AF.get (a.put d v) t:=by
 intro t;cases d with
 |none=>exact h t
 |some d=>simp only[AF.put,AF.Bf,h t]
section
variable {E:Env} {N k:Nat} {ops:List Oper}
theorem C0.congr{X:Oper->Prop}{rest:List Oper}{a:AF}{σ:Ao}{rs:List Rec}{a':AF}{σ':Ao}(h:C0 E N X ops rest a σ rs a' σ'):∀{b:AF},(∀t,b.get t=a.get t)->∃b',(∀t,b'.get t=a'.get t)/\C0 E N X ops rest b σ rs b' σ':=by
 induction h with
 |nil a σ=>intro b hb;exact⟨b,hb,.nil b σ⟩
 |run r hw h hp hd _ ih=>
  intro b hb;obtain⟨b',h1,h2⟩:=ih (di hb _ _);exact⟨b',h1,.run r ((VF fun t _=>hb t).trans hw) (h.imp id fun h=>by rw[Zsj hb];exact h) hp hd h2⟩
 |sk hw hd _ ih=>
  intro b hb;obtain⟨b',h1,h2⟩:=ih (di hb _ _);exact⟨b',h1,.sk ((VF fun t _=>hb t).trans hw) hd h2⟩
def EW(E:Env)(N k:Nat)(dr:Bool)(ops rest:List Oper)(a:AF)(σ:Ao)(acc:List Rec)(Q:Exit->AF->Ao->Prop):Prop:=
 match dr with
 |false=>EX E N k ops rest a σ Q
 |true=>∃rs a' σ' a2,C0 E N (fun _=>False) ops rest a σ rs a' σ'/\Lp ops (acc.reverse++rs)=true/\(∀t,a2.get t=a'.get t)/\Q .normal a2 σ'
def KR(dr:Bool)(ops:List Oper)(a:AF)(o:Oper):AF:=match dr with|true=>HQ a (Fe ops o)|false=>a
variable {dr:Bool} {rest:List Oper} {a:AF} {σ:Ao} {acc:List Rec} {Q:Exit->AF->Ao->Prop}
theorem EW.run{o:Oper}{pre:Es}{v:V}(news:Nat){post:Es}(hw:yg ops a o.guard=some true)(h:Ku E N o (KR dr ops a o) pre v (List.range' σ.nx news) post)(hp:Iz σ.es pre)(hd:ya N o.dst=true)
 (h2:EW E N k dr ops rest (a.put o.dst v) (σ.AH news post) (⟨pre,v,news,post⟩::acc) Q):EW E N k dr ops (o::rest) a σ acc Q:=by
 cases dr with
 |false=>exact EX.run (news:=news) hw h hp hd h2
 |true=>
  obtain⟨rs,a',σ',a2,h3,h4,h5,h6⟩:=h2;refine⟨_,a',σ',a2,.run ⟨pre,v,news,post⟩ hw (.inr h) hp hd h3,?_,h5,h6⟩
  grind
theorem EW.sk{o:Oper}(hw:yg ops a o.guard=some false)(hd:ya N o.dst=true)(h2:EW E N k dr ops rest (a.put o.dst (.AP [])) σ (⟨[],.AP [],0,[]⟩::acc) Q):EW E N k dr ops (o::rest) a σ acc Q:=by
 cases dr with
 |false=>exact EX.sk hw hd h2
 |true=>
  obtain⟨rs,a',σ',a2,h3,h4,h5,h6⟩:=h2;refine⟨_,a',σ',a2,.sk hw hd h3,?_,h5,h6⟩
  grind
theorem EW.Bh(h:Q .normal a σ):EW E N k false ops [] a σ acc Q:=EX.nil h
theorem EW.KA(ho:Lp ops acc.reverse=true)(h:Q .normal a σ):EW E N k true ops [] a σ acc Q:=
 ⟨[],a,σ,a,.nil a σ,kr,fun _=>rfl,h⟩
theorem EW.split(d:Tmp){b:Bool}(hb:a.get d=some (.bool b))(ht:b=true->EW E N k dr ops rest ((d,.bool true)::a) σ acc Q)(hf:b=false->EW E N k dr ops rest ((d,.bool false)::a) σ acc Q):EW E N k dr ops rest a σ acc Q:=by
 cases dr with
 |false=>exact EX.split hb ht hf
 |true=>
  have key:∀b',b=b'->(∃rs a' σ' a2,C0 E N (fun _=>False) ops rest ((d,.bool b')::a) σ rs a' σ'/\Lp ops (acc.reverse++rs)=true/\(∀t,AF.get a2 t=AF.get a' t)/\Q .normal a2 σ')->EW E N k true ops rest a σ acc Q:=by
   rintro _ rfl ⟨rs,a',σ',a2,h1,h2,h3,h4⟩;obtain⟨b',h5,h6⟩:=h1.congr (b:=a) fun t=>by
    rw[AF.Bf]
    grind
   exact⟨rs,b',σ',a2,h6,h2,fun t=>(h3 t).trans (h5 t).symm,h4⟩
  cases hbb:b with
  |true=>exact key true hbb (ht hbb)
  |false=>exact key false hbb (hf hbb)
structure AX (E:Env) (N k:Nat) (dr:Bool) (ops rest:List Oper) (a:AF) (σ:Ao) (acc:List Rec) (Q:Exit->AF->Ao->Prop):Prop where
 out:EW E N k dr ops rest a σ acc Q
theorem AX.VG{o:Oper}{pre:Es}{v:V}(news:Nat){post:Es}(hw:yg ops a o.guard=some true)(h:Ku E N o (KR dr ops a o) pre v (List.range' σ.nx news) post)(hp:Iz σ.es pre)(hd:ya N o.dst=true)
 (h2:AX E N k dr ops rest (a.put o.dst v) (σ.AH news post) (⟨pre,v,news,post⟩::acc) Q):AX E N k dr ops (o::rest) a σ acc Q:=⟨EW.run news hw h hp hd h2.out⟩
theorem AX.run{o:Oper}{pre:Es}{v:V}(news:Nat){post:Es}(hw:yg ops a o.guard=some true)(h:OS E N o (KR dr ops a o) pre v (List.range' σ.nx news) post)(hp:Iz σ.es pre)(hd:ya N o.dst=true)
 (h2:AX E N k dr ops rest (a.put o.dst v) (σ.AH news post) (⟨pre,v,news,post⟩::acc) Q):AX E N k dr ops (o::rest) a σ acc Q:=AX.VG news hw h.y hp hd h2
theorem AX.sk{o:Oper}(hw:yg ops a o.guard=some false)(hd:ya N o.dst=true)(h2:AX E N k dr ops rest (a.put o.dst (.AP [])) σ (⟨[],.AP [],0,[]⟩::acc) Q):AX E N k dr ops (o::rest) a σ acc Q:=⟨EW.sk hw hd h2.out⟩
theorem AX.Bh(h:Q .normal a σ):AX E N k false ops [] a σ acc Q:=⟨EW.Bh h⟩
theorem AX.KA(ho:Lp ops acc.reverse=true)(h:Q .normal a σ):AX E N k true ops [] a σ acc Q:=⟨EW.KA ho h⟩
theorem AX.split(d:Tmp){b:Bool}(hb:a.get d=some (.bool b))(ht:b=true->AX E N k dr ops rest ((d,.bool true)::a) σ acc Q)(hf:b=false->AX E N k dr ops rest ((d,.bool false)::a) σ acc Q):AX E N k dr ops rest a σ acc Q:=
 ⟨EW.split d hb (fun h=>(ht h).out) (fun h=>(hf h).out)⟩
theorem AW.A5{id:Nat}{l:List Oper}(h:AX E N k false l l a σ [] Q):AW E N k (.region id l.toArray false) a σ Q:= .region h.out
theorem AW.FU{id:Nat}{l:List Oper}(hmix:E.P.follows .mixedOrders=true)(he:Oq 0 l=true)(h:AX E N k true l l a σ [] Q):AW E N k (.region id l.toArray true) a σ Q:=by
 obtain⟨rs,a',σ',a2,h1,h2,h3,h4⟩:=h.out;have:=AW.draw (E:=E) (N:=N) (k:=k) (Q:=fun e x τ=>e= .normal/\x=a'/\τ=σ') (a:=a) (σ:=σ) (id:=id) hmix he ⟨rs,a',σ',h1,kn,rfl,rfl,rfl⟩;constructor;intro hk g w act hR hF hY;refine wp_mono (this.run hk g w act hR hF hY) ?_;rintro e act' w' ⟨g1,a1,σ1,⟨rfl,rfl,rfl⟩,h6,h7,h8,h9⟩;exact⟨g1,a2,σ1,h4,h6,h7,h8.congr h3,h9⟩
theorem Zyq{xs:List Operand}{t:Nat}(h:Operand.tmp t∈xs):t∈eO xs:=ji.2 ⟨_,h,rfl⟩
theorem Zx8{a:AF}:∀{l:List Nat} {t:Nat},t∈l->(HQ a l).get t=a.get t:=by
 intro l;induction l with
 |nil=>simp
 |cons x l ih=>
  intro t h;simp only[HQ];cases hx:a.get x with
  |none=>
   rcases fW.1 h with rfl|h
   .by_cases hl:t∈l
    .grind
    .cases hr:(HQ a l).get t with
     |none=>rw[hx]
     |some c=>exact absurd (YG hr).1 hl
   grind
  |some v=>
   simp only[AF.Bf]
   grind
theorem Ph{T:TypeId}{o:Oper}{x:Operand}(hx:x∈o.op.operands.toList):ev E T (KR dr ops a o) x=ev E T a x:=by
 cases dr with
 |false=>rfl
 |true=>
  cases x with
  |tmp t=>exact Zx8 (iL _ (Zyq hx))
  |_=>rfl
theorem fr{T:TypeId}{o:Oper}{x:Operand}{v:V}(hx:x∈o.op.operands.toList)(h:ev E T a x=some v):ev E T (KR dr ops a o) x=some v:=(Ph hx).trans h
theorem RI{T:TypeId}{o:Oper}:∀{xs:List Operand} {vs:List V},(∀x∈xs,x∈o.op.operands.toList)->Fo E T a xs=some vs->Fo E T (KR dr ops a o) xs=some vs:=by
 intro xs;induction xs with
 |nil=>intro vs _ h;exact h
 |cons x l ih=>
  intro vs hx h;simp only[Fo] at h ⊢;rw[Ph (hx x ko)];simp only[fL,fE] at h ⊢
  grind
theorem TJ{o:Oper}:∀{xs:List Operand} {ts:List TypeId} {vs:List V},(∀x∈xs,x∈o.op.operands.toList)->EU E a xs ts=some vs->EU E (KR dr ops a o) xs ts=some vs:=by
 intro xs;induction xs with
 |nil=>intro ts vs _ h;exact h
 |cons x l ih=>
  intro ts vs hx h;cases ts with
  |nil=>
   exact sU
  |cons t ts=>
   exact sU
theorem frP{o:Oper}:∀{pp:List (Nat×Operand)} {vs:List (Nat×List V)},(∀p∈pp,p.2∈o.op.operands.toList)->Ky E a pp=some vs->Ky E (KR dr ops a o) pp=some vs:=by
 intro pp;induction pp with
 |nil=>intro vs _ h;exact h
 |cons x l ih=>
  intro vs hx h;simp only[Ky] at h ⊢;rw[Ph (hx x ko)];simp only[fL,fE] at h ⊢
  grind
variable {d:Option Tmp} {ty:TypeId} {ps:String} {af:Array Edge} {gd:Option (Nat×Bool)}
namespace L
theorem mv{x:Operand}{v:V}(hw:yg ops a gd=some true)(h:ev E ty a x=some v)(hd:ya N d=true)(h2:AX E N k dr ops rest (a.put d v) σ (⟨[],v,0,[]⟩::acc) Q):AX E N k dr ops (⟨d,.move x,ty,ps,af,gd⟩::rest) a σ acc Q:=
 AX.run 0 hw (OS.move (.inl rfl) (fr kD h)) trivial hd h2
theorem DB{x:Operand}{v:V}(hw:yg ops a gd=some true)(h:ev E ty a x=some v)(hd:ya N d=true)(h2:AX E N k dr ops rest (a.put d v) σ (⟨[],v,0,[]⟩::acc) Q):AX E N k dr ops (⟨d,.assign x,ty,ps,af,gd⟩::rest) a σ acc Q:=
 AX.run 0 hw (OS.move (.inr rfl) (fr kD h)) trivial hd h2
theorem pk{c x y:Operand}{b:Bool}{v:V}(hw:yg ops a gd=some true)(hc:ev E 0 a c=some (.bool b))(h:ev E ty a (bif b then x else y)=some v)(hd:ya N d=true)(h2:AX E N k dr ops rest (a.put d v) σ (⟨[],v,0,[]⟩::acc) Q):
 AX E N k dr ops (⟨d,.pick c x y,ty,ps,af,gd⟩::rest) a σ acc Q:=
 AX.run 0 hw (OS.pick rfl (fr kD hc) (by cases b<;>exact fr mZ h)) trivial hd h2
theorem bx{t:TypeId}{x:Operand}{c:V}{cs:List V}(hw:yg ops a gd=some true)(h:ev E t a x=some c)(hc:cellsOf c=some cs)(hd:ya N d=true)
 (h2:AX E N k dr ops rest (a.put d (.ptr σ.nx 0)) (σ.AH 1 [(σ.nx,.var cs)]) (⟨[],.ptr σ.nx 0,1,[(σ.nx,.var cs)]⟩::acc) Q):AX E N k dr ops (⟨d,.box t x,ty,ps,af,gd⟩::rest) a σ acc Q:=
 AX.run 1 hw (OS.box rfl (fr kD h) hc) trivial hd h2
theorem al{t:TypeId}{i:TI}(hw:yg ops a gd=some true)(h:E.ti t=some i)(hd:ya N d=true)
 (h2:AX E N k dr ops rest (a.put d (.ptr σ.nx 0)) (σ.AH 1 [(σ.nx,.var i.zero)]) (⟨[],.ptr σ.nx 0,1,[(σ.nx,.var i.zero)]⟩::acc) Q):AX E N k dr ops (⟨d,.alloc t,ty,ps,af,gd⟩::rest) a σ acc Q:=
 AX.run 1 hw (OS.alloc rfl h) trivial hd h2
theorem L7{t:TypeId}{x:Operand}{i:TI}{cs:List V}{c:V}(hw:yg ops a gd=some true)(hx:ev E 0 a x=some (.addr cs))(ht:E.ti t=some i)(hc:KL i cs=some c)(hd:ya N d=true)
 (h2:AX E N k dr ops rest (a.put d c) σ (⟨[],c,0,[]⟩::acc) Q):AX E N k dr ops (⟨d,.load t x,ty,ps,af,gd⟩::rest) a σ acc Q:=
 AX.run 0 hw (OS.Ox rfl ht (fr kD hx) hc) trivial hd h2
theorem Ea{t:TypeId}{x:Operand}{i:TI}{n off:Nat}{cs:List V}{c:V}(hw:yg ops a gd=some true)(hx:ev E 0 a x=some (.ptr n off))(ht:E.ti t=some i)(hn:zo σ.es n=some (.var cs))(hc:KL i (cs.drop off)=some c)(hd:ya N d=true)
 (h2:AX E N k dr ops rest (a.put d c) σ (⟨[(n,.var cs)],c,0,[]⟩::acc) Q):AX E N k dr ops (⟨d,.load t x,ty,ps,af,gd⟩::rest) a σ acc Q:=
 AX.run 0 hw (OS.Om rfl ht (fr kD hx) hc) ⟨hn,trivial⟩ hd h2
theorem st{t:TypeId}{x y:Operand}{i:TI}{n off:Nat}{cs:List V}{c:V}{vc:List V}(hw:yg ops a gd=some true)(hx:ev E 0 a x=some (.ptr n off))(ht:E.ti t=some i)(hy:ev E t a y=some c)(hn:zo σ.es n=some (.var cs))
 (hc:cellsOf c=some vc) (hs:vc.length=i.size) (hb:Nat.ble (off+vc.length) cs.length=true) (hd:ya N d=true)
 (h2:AX E N k dr ops rest (a.put d (.AP [])) (σ.AH 0 [(n,.var (cs.take off++vc++cs.drop (off+vc.length)))]) (⟨[(n,.var cs)],.AP [],0,[(n,.var (cs.take off++vc++cs.drop (off+vc.length)))]⟩::acc) Q):AX E N k dr ops (⟨d,.store t x y,ty,ps,af,gd⟩::rest) a σ acc Q:=
 AX.run 0 hw (OS.store rfl ht (fr kD hx) (fr kD hy) hc hs hb) ⟨hn,trivial⟩ hd h2
theorem cB{t:TypeId}{x:Operand}{z:Nat}{zr:List V}{gs:List (Nat×Nat×Bool)}{f:Nat}{p:Nat×Nat×Bool}{cs:List V}(hw:yg ops a gd=some true)(hx:ev E 0 a x=some (.addr cs))(ht:E.ti t=some ⟨z,zr,.strct gs⟩)
 (hf:gs[f]? =some p) (hb:Nat.ble p.1 cs.length=true) (hd:ya N d=true) (h2:AX E N k dr ops rest (a.put d (.addr (cs.drop p.1))) σ (⟨[],.addr (cs.drop p.1),0,[]⟩::acc) Q):AX E N k dr ops (⟨d,.fieldAddr t x f,ty,ps,af,gd⟩::rest) a σ acc Q:=
 AX.run 0 hw (OS.GL rfl ht rfl hf (fr kD hx) hb) trivial hd h2
theorem J2{t:TypeId}{x:Operand}{z:Nat}{zr:List V}{gs:List (Nat×Nat×Bool)}{f:Nat}{p:Nat×Nat×Bool}{n off:Nat}(hw:yg ops a gd=some true)(hx:ev E 0 a x=some (.ptr n off))(ht:E.ti t=some ⟨z,zr,.strct gs⟩)
 (hf:gs[f]? =some p) (hd:ya N d=true) (h2:AX E N k dr ops rest (a.put d (.ptr n (off+p.1))) σ (⟨[],.ptr n (off+p.1),0,[]⟩::acc) Q):AX E N k dr ops (⟨d,.fieldAddr t x f,ty,ps,af,gd⟩::rest) a σ acc Q:=
 AX.run 0 hw (OS.Gz rfl ht rfl hf (fr kD hx)) trivial hd h2
theorem fd{t:TypeId}{x:Operand}{z:Nat}{zr:List V}{gs:List (Nat×Nat×Bool)}{f:Nat}{p:Nat×Nat×Bool}{cs:List V}{c:V}(hw:yg ops a gd=some true)(hx:ev E 0 a x=some (.agg cs))(ht:E.ti t=some ⟨z,zr,.strct gs⟩)
 (hf:gs[f]? =some p) (hc:Wj p cs=some c) (hd:ya N d=true) (h2:AX E N k dr ops rest (a.put d c) σ (⟨[],c,0,[]⟩::acc) Q):AX E N k dr ops (⟨d,.field t x f,ty,ps,af,gd⟩::rest) a σ acc Q:=
 AX.run 0 hw (OS.field rfl ht rfl hf (fr kD hx) hc) trivial hd h2
theorem ex{x:Operand}{ix:Nat}{cs:List V}{c:V}(hw:yg ops a gd=some true)(hx:ev E 0 a x=some (.AP cs))(hc:cs[ix]? =some c)(hd:ya N d=true)(h2:AX E N k dr ops rest (a.put d c) σ (⟨[],c,0,[]⟩::acc) Q):
 AX E N k dr ops (⟨d,.extract x ix,ty,ps,af,gd⟩::rest) a σ acc Q:=
 AX.run 0 hw (OS.extract rfl (fr kD hx) hc) trivial hd h2
theorem nt{t:TypeId}{x:Operand}{b:Bool}(hw:yg ops a gd=some true)(hx:ev E 0 a x=some (.bool b))(hd:ya N d=true)(h2:AX E N k dr ops rest (a.put d (.bool (!b))) σ (⟨[],.bool (!b),0,[]⟩::acc) Q):AX E N k dr ops (⟨d,.unOp .not t x,ty,ps,af,gd⟩::rest) a σ acc Q:=
 AX.run 0 hw (OS.not rfl (fr kD hx)) trivial hd h2
theorem bn{op:BinOp}{t u:TypeId}{x y:Operand}{kd:IntKind}{n m:Int}{c:V}(hw:yg ops a gd=some true)(hx:ev E t a x=some (.int kd n))(hy:ev E t a y=some (.int kd m))(hc:TM op kd n m=some c)(hd:ya N d=true)
 (h2:AX E N k dr ops rest (a.put d c) σ (⟨[],c,0,[]⟩::acc) Q):AX E N k dr ops (⟨d,.binOp op t x y u,ty,ps,af,gd⟩::rest) a σ acc Q:=
 AX.run 0 hw (OS.bin rfl (fr kD hx) (fr kD hy) hc) trivial hd h2
theorem ad{t u:TypeId}{x y:Operand}{n m:Int}(hw:yg ops a gd=some true)(hx:ev E t a x=some (.int .i64 n))(hy:ev E t a y=some (.int .i64 m))(hd:ya N d=true)(h1: -9223372036854775808<=n+m/\n+m<=9223372036854775807)
 (h2:AX E N k dr ops rest (a.put d (.int .i64 (n+m))) σ (⟨[],.int .i64 (n+m),0,[]⟩::acc) Q):AX E N k dr ops (⟨d,.binOp .add t x y u,ty,ps,af,gd⟩::rest) a σ acc Q:=
 AX.run 0 hw (OS.add rfl (fr kD hx) (fr kD hy) h1.1 h1.2) trivial hd h2
theorem sb{t u:TypeId}{x y:Operand}{n m:Int}(hw:yg ops a gd=some true)(hx:ev E t a x=some (.int .i64 n))(hy:ev E t a y=some (.int .i64 m))(hd:ya N d=true)(h1: -9223372036854775808<=n-m/\n-m<=9223372036854775807)
 (h2:AX E N k dr ops rest (a.put d (.int .i64 (n-m))) σ (⟨[],.int .i64 (n-m),0,[]⟩::acc) Q):AX E N k dr ops (⟨d,.binOp .sub t x y u,ty,ps,af,gd⟩::rest) a σ acc Q:=
 AX.run 0 hw (OS.sub rfl (fr kD hx) (fr kD hy) h1.1 h1.2) trivial hd h2
theorem ln{t:TypeId}{x:Operand}{sp:Sp}{l:SL V}{z:Nat}{zr:List V}{c:Option EC}{sz by_:Nat}(hw:yg ops a gd=some true)(hx:ev E t a x=some (.slice sp l))(ht:E.ti t=some ⟨z,zr,.slc c sz by_⟩)(hd:ya N d=true)
 (h2:AX E N k dr ops rest (a.put d (.int .i64 l.len)) σ (⟨[],.int .i64 l.len,0,[]⟩::acc) Q):AX E N k dr ops (⟨d,.call ⟨.builtin .len,#[x],#[t]⟩,ty,ps,af,gd⟩::rest) a σ acc Q:=
 AX.run 0 hw (OS.Vd (u:=0) rfl ht rfl (fr kD hx)) trivial hd h2
theorem nc{x:Operand}{c:V}(hw:yg ops a gd=some true)(hx:ev E 0 a x=some c)(hc:Zf c=true)(hd:ya N d=true)(h2:AX E N k dr ops rest (a.put d c) σ (⟨[],c,0,[]⟩::acc) Q):
 AX E N k dr ops (⟨d,.nilCheck x,ty,ps,af,gd⟩::rest) a σ acc Q:=
 AX.run 0 hw (OS.nilCheck rfl (fr kD hx) hc) trivial hd h2
theorem mf{f:Fn}{fi caps:List Operand}{vs us:List V}(hw:yg ops a gd=some true)(h1:Fo E 0 a fi=some vs)(h3:Fo E 0 a caps=some us)(hd:ya N d=true)(h2:AX E N k dr ops rest (a.put d (.fn f vs us)) σ (⟨[],.fn f vs us,0,[]⟩::acc) Q):
 AX E N k dr ops (⟨d,.makeFunc f fi.toArray caps.toArray,ty,ps,af,gd⟩::rest) a σ acc Q:=
 AX.run 0 hw (OS.makeFunc rfl (RI (by intro x hx;simp[Op.operands,hx]) h1) (RI (by intro x hx;simp[Op.operands,hx]) h3)) trivial hd h2
theorem bd{t:TypeId}{pp:List (Nat×Operand)}{z:Nat}{zr:List V}{gs:List (Nat×Nat×Bool)}{vps:List (Nat×List V)}{cs:List V}(hw:yg ops a gd=some true)(ht:E.ti t=some ⟨z,zr,.strct gs⟩)(hp:Ky E a pp=some vps)
 (hf:NC gs zr vps=some cs) (hd:ya N d=true) (h2:AX E N k dr ops rest (a.put d (.agg cs)) σ (⟨[],.agg cs,0,[]⟩::acc) Q):AX E N k dr ops (⟨d,.build t pp.toArray,ty,ps,af,gd⟩::rest) a σ acc Q:=
 AX.run 0 hw (OS.build rfl ht rfl (frP (by intro p hp;simp only[Op.operands,fO];grind) hp) hf) trivial hd h2
theorem bs{t:TypeId}{n:Nat}{pp:List (Nat×Operand)}{z:Nat}{zr:List V}{c:Option EC}{sz bytes:Nat}{cs:List V}{vcs:List (List V)}{l:SL V}(et:TypeId)(hw:yg ops a gd=some true)(ht:E.ti t=some ⟨z,zr,.slc c sz bytes⟩)
 (hpp:pp=(pp.map Prod.snd).zipIdx.map fun x=>(x.2,x.1)) (hn:(pp.map Prod.snd).length=n) (hev:Fo E et a (pp.map Prod.snd)=some cs) (hcs:ES cellsOf cs=some vcs)
 (hsz:(vcs.all fun vc=>Nat.beq vc.length sz)=true) (hf:Kf c sz vcs=some l) (hb:Nat.ble (n*sz) 16777216=true) (hd:ya N d=true) (h2:AX E N k dr ops rest (a.put d (.slice .full l)) σ (⟨[],.slice .full l,0,[]⟩::acc) Q):
 AX E N k dr ops (⟨d,.buildSlice t n pp.toArray,ty,ps,af,gd⟩::rest) a σ acc Q:=
 AX.run 0 hw (OS.buildSlice (et:=et) kr hn ht rfl (RI pO hev) hcs hsz hf hb) trivial hd h2
theorem ix{t:TypeId}{x y:Operand}{z:Nat}{zr:List V}{c:Option EC}{sz bytes:Nat}{sp:Sp}{l:SL V}{n:Int}(kk:Nat){cs:List V}{kd:IntKind}(hw:yg ops a gd=some true)(hx:ev E t a x=some (.slice sp l))(ht:E.ti t=some ⟨z,zr,.slc c sz bytes⟩)
 (hy:ev E 0 a y=some (.int kd n)) (hn:n=kk) (hlt:kk<l.len) (hk:l.get kk=some cs) (hsz:Nat.beq l.cells sz=true) (hd:ya N d=true) (h2:AX E N k dr ops rest (a.put d (.addr cs)) σ (⟨[],.addr cs,0,[]⟩::acc) Q):AX E N k dr ops (⟨d,.indexAddr t x y,ty,ps,af,gd⟩::rest) a σ acc Q:=
 AX.run 0 hw (OS.LY rfl ht rfl (fr kD hx) (fr kD hy) hn hk hlt hsz) trivial hd h2
theorem Dq{t:TypeId}{x y:Operand}{z:Nat}{zr:List V}{m esz:Nat}{ea:Bool}{cs:List V}{n:Int}(kk:Nat){kd:IntKind}(hw:yg ops a gd=some true)(hx:ev E 0 a x=some (.addr cs))(ht:E.ti t=some ⟨z,zr,.arr m esz ea⟩)
 (hy:ev E 0 a y=some (.int kd n)) (hn:n=kk) (hlt:kk<m) (hb:kk*esz<=cs.length) (hd:ya N d=true) (h2:AX E N k dr ops rest (a.put d (.addr (cs.drop (kk*esz)))) σ (⟨[],.addr (cs.drop (kk*esz)),0,[]⟩::acc) Q):AX E N k dr ops (⟨d,.indexAddr t x y,ty,ps,af,gd⟩::rest) a σ acc Q:=
 AX.run 0 hw (OS.Mw rfl ht rfl (fr kD hx) (fr kD hy) hn hlt hb) trivial hd h2
theorem RT{t:TypeId}{x y:Operand}{z:Nat}{zr:List V}{m esz:Nat}{ea:Bool}{p off:Nat}{n:Int}(kk:Nat){kd:IntKind}(hw:yg ops a gd=some true)(hx:ev E 0 a x=some (.ptr p off))(ht:E.ti t=some ⟨z,zr,.arr m esz ea⟩)
 (hy:ev E 0 a y=some (.int kd n)) (hn:n=kk) (hlt:kk<m) (hd:ya N d=true) (h2:AX E N k dr ops rest (a.put d (.ptr p (off+kk*esz))) σ (⟨[],.ptr p (off+kk*esz),0,[]⟩::acc) Q):AX E N k dr ops (⟨d,.indexAddr t x y,ty,ps,af,gd⟩::rest) a σ acc Q:=
 AX.run 0 hw (OS.Mm rfl ht rfl (fr kD hx) (fr kD hy) hn hlt) trivial hd h2
theorem s3{t:TypeId}{x y zz:Operand}{z:Nat}{zr:List V}{c:Option EC}{sz bytes:Nat}{sp:Sp}{l:SL V}{k1 k2:IntKind}(hw:yg ops a gd=some true)(hx:ev E t a x=some (.slice sp l))(ht:E.ti t=some ⟨z,zr,.slc c sz bytes⟩)
 (hy:ev E 0 a y=some (.int k1 l.len)) (hz:ev E 0 a zz=some (.int k2 l.len)) (hd:ya N d=true) (h2:AX E N k dr ops rest (a.put d (.slice .full l)) σ (⟨[],.slice .full l,0,[]⟩::acc) Q):AX E N k dr ops (⟨d,.slice t x none (some y) (some zz),ty,ps,af,gd⟩::rest) a σ acc Q:=
 AX.run 0 hw (OS.slice3 rfl ht rfl (fr kD hx) (fr kD hy) (fr kD hz)) trivial hd h2
theorem ap{t:TypeId}{s x:Operand}{z:Nat}{zr:List V}{c:Option EC}{sz bytes:Nat}{sp sp':Sp}{l l' l2:SL V}(hw:yg ops a gd=some true)(hs:ev E t a s=some (.slice sp l))(hx:ev E t a x=some (.slice sp' l'))(ht:E.ti t=some ⟨z,zr,.slc c sz bytes⟩)
 (hsp:Ro sp=true) (hl:l.app l'=some l2) (hsz:Nat.beq l.cells sz=true) (hp:Iz σ.es (Kr sp)) (hd:ya N d=true)
 (hb:(l.len+l'.len)*bytes<=140737488355328/\l.len+l'.len<=9223372036854775807) (h2:AX E N k dr ops rest (a.put d (.slice (.own σ.nx) l2)) (σ.AH 1 (K6 σ.nx sp)) (⟨Kr sp,.slice (.own σ.nx) l2,1,K6 σ.nx sp⟩::acc) Q):
 AX E N k dr ops (⟨d,.call ⟨.builtin .append,#[s,x],#[t,t]⟩,ty,ps,af,gd⟩::rest) a σ acc Q:=
 AX.run 1 hw (OS.append rfl ht rfl (fr kD hs) (fr kD hx) hsp hl hsz hb.1 hb.2) hp hd h2
theorem apF{t:TypeId}{s x:Operand}{z:Nat}{zr:List V}{c:Option EC}{sz bytes:Nat}{sp sp':Sp}{l l' l2:SL V}(hw:yg ops a gd=some true)(hs:ev E t a s=some (.slice sp l))(hx:ev E t a x=some (.slice sp' l'))(ht:E.ti t=some ⟨z,zr,.slc c sz bytes⟩)
 (hsp:sp= .full/\0<l'.len) (hl:l.app l'=some l2) (hsz:Nat.beq l.cells sz=true) (hp:Iz σ.es (Kr sp)) (hd:ya N d=true)
 (hb:(l.len+l'.len)*bytes<=140737488355328/\l.len+l'.len<=9223372036854775807) (h2:AX E N k dr ops rest (a.put d (.slice (.own σ.nx) l2)) (σ.AH 1 (K6 σ.nx sp)) (⟨Kr sp,.slice (.own σ.nx) l2,1,K6 σ.nx sp⟩::acc) Q):
 AX E N k dr ops (⟨d,.call ⟨.builtin .append,#[s,x],#[t,t]⟩,ty,ps,af,gd⟩::rest) a σ acc Q:=
 AX.run 1 hw (OS.Hg rfl ht rfl (fr kD hs) (fr kD hx) (.inr hsp) hl hsz hb.1 hb.2) hp hd h2
theorem c0{f:FuncId}{xs:List Operand}{ts:List TypeId}{cs args cs1:List V}{r:V}(h:PC E f args r)(hw:yg ops a gd=some true)(hx:EU E a xs ts=some cs)(hr:vn [] args=some cs1)(hle:BA cs cs1)(hd:ya N d=true)
 (h2:AX E N k dr ops rest (a.put d r) σ (⟨[],r,0,[]⟩::acc) Q):AX E N k dr ops (⟨d,.call ⟨.value (.func f),xs.toArray,ts.toArray⟩,ty,ps,af,gd⟩::rest) a σ acc Q:=
 AX.run 0 hw (OS.Ou rfl (TJ oT hx) h ⟨cs1,hr,hle⟩) trivial hd h2
end L
end
section
variable {E:Env} {N k:Nat} {a:AF} {σ:Ao} {Q:Exit->AF->Ao->Prop}
def KF(E:Env)(N k:Nat)(B:Nat)(i d:Tmp)(m:Nat)(P:Nat->Prop)(J:Nat->AF×Ao)(Q:Exit->AF->Ao->Prop):Exit->AF->Ao->Prop
 | .normal,a,σ=>a.get i=some (.int .i64 m)/\P (m+1)/\Bg E N k ((i,.int .i64 ((m+1:Nat):Int))::(d,.int .i64 ((m+1:Nat):Int))::a) σ (J (m+1)).1 (J (m+1)).2
 | .exit id,a,σ=>bif Nat.beq id B then Q .normal a σ else Q (.exit id) a σ
 |e,a,σ=>Q e a σ
theorem Bg.trans{a':AF}{σ':Ao}{a'':AF}{σ'':Ao}(h:Bg E N k a σ a' σ')(h':Bg E N k a' σ' a'' σ''):Bg E N k a σ a'' σ'':=by
 intro hk;obtain⟨hk1,h1⟩:=h hk;obtain⟨hk2,h2⟩:=h' hk1;refine⟨hk2,fun g w act hR hF=> ?_⟩;obtain⟨g1,hR1,hF1,hx1⟩:=h1 g w act hR hF;obtain⟨g2,hR2,hF2,hx2⟩:=h2 g1 w act hR1 hF1;exact⟨g2,hR2,hF2,hx1.trans hx2⟩
theorem Bg.slots{a':AF}(h:∀t c,a'.get t=some c->a.get t=some c):Bg E N k a σ a' σ:=
 fun hk=>⟨hk,fun g w act hR hF=>⟨g,hR,⟨hF.size,hF.defers,fun t c hc=>hF.vals t c (h t c hc)⟩,.refl ..⟩⟩
theorem AW.range{B C r1 r2:Nat}{c i n d:Tmp}{T T' T2 T3:TypeId}{ty1 ty2 ty3:TypeId}{p1 p2 p3:String}{af1 af2 af3:Array Edge}{body:Code}(len:Nat)(P:Nat->Prop)(J:Nat->AF×Ao)(hlen:len<4611686018427387904)
 (hi:∀m,(J m).1.get i=some (.int .i64 m)) (hn:∀m,(J m).1.get n=some (.int .i64 len)) (hd:ya N (some c)&&ya N (some d)&&ya N (some i)&& !Nat.beq d i=true) (hP:P 0) (h0:Bg E N k a σ (J 0).1 (J 0).2)
 (hb:∀m,m<len->P m->AW E N k body ((c,.bool true)::(J m).1) (J m).2 (uq C (KF E N k B i d m P J Q)))
 (he:P len->Q .normal ((c,.bool false)::(J len).1) (J len).2):
 AW E N k (.block B (.loop (.seq (.region r1 #[⟨some c,.binOp .lss T (.tmp i) (.tmp n) T',ty1,p1,af1,none⟩] false)
  (.seq (.cond (.tmp c) .skip (.exit B)) (.seq (.block C body)
   (.region r2 #[⟨some d,.binOp .add T2 (.tmp i) (.const (.int .i64 1)) T3,ty2,p2,af2,none⟩,⟨some i,.move (.tmp d),ty3,p3,af3,none⟩] false)))))) a σ Q:=by
 simp only[fD] at hd;obtain⟨⟨⟨hd1,hd2⟩,hd3⟩,hd4⟩:=hd;refine .block (.loop (ι:={m:Nat // m<=len/\P m}) (fun m=>J m.1) (fun m=>len-m.1) ⟨0,iH _,hP⟩ h0 fun⟨m,hm,hPm⟩=> ?_);refine .seq (.A5 (L.bn rfl (hi m) (hn m) rfl hd1 (.Bh ?_)));show AW E N k _ ((c,.bool (decide ((m:Int)<(len:Int))))::(J m).1) (J m).2 _;by_cases hlt:m<len
 .have hdec:decide ((m:Int)<(len:Int))=true:=kr
  rw[hdec];refine .seq (.Cn ni (.skip ?_));show AW E N k _ _ _ _;refine .seq (.block ((hb m hlt hPm).mono ?_));rintro e a1 σ1 hq;have hnorm:KF E N k B i d m P J Q .normal a1 σ1->J6 E N k (.region r2 #[⟨some d,.binOp .add T2 (.tmp i) (.const (.int .i64 1)) T3,ty2,p2,af2,none⟩,⟨some i,.move (.tmp d),ty3,p3,af3,none⟩] false)
   (N9 E N k (fun m:{m:Nat // m<=len/\P m}=>J m.1) (fun m=>len-m.1) ⟨m,hm,hPm⟩ (uq B Q)) .normal a1 σ1:=by
   rintro⟨h1,h2,h3⟩;show AW E N k _ _ _ _;refine .A5 (L.ad rfl h1 (show ev E T2 a1 (.const (.int .i64 1))=some (.int .i64 1) from rfl) hd2 kn (L.mv rfl (v:= .int .i64 ((m:Int)+1)) (by simp[ev,AF.put,AF.get]) hd3 (.Bh ?_)));rw[show((m:Int)+1)=((m+1:Nat):Int) from kn];refine⟨⟨m+1,hlt,h2⟩,kr,?_⟩;exact h3
  cases e with
  |normal=>exact hnorm hq
  |exit id=>
   exact r5
  |goto l=>exact hq
  |ret=>exact hq
  |panic ch=>exact hq
  |outgrown=>exact hq
 .have hm':m=len:=kn
  subst hm';have hdec:decide ((m:Int)<(m:Int))=false:=ko
  rw[hdec];refine .seq (.Cp ni (.exit ?_));show uq B Q (.exit B) _ _;simp only[uq,jC,cond_true]
  grind
end
section
variable {E:Env} {N k:Nat} {a:AF} {σ:Ao} {Q:Exit->AF->Ao->Prop} {ops:List Oper} {dr:Bool} {rest:List Oper} {acc:List Rec}
def Ysi(ops:List Oper):Option (Nat×Bool)->Option Tmp
 |some (j,_)=>(ops[j]?).bind (·.dst)
 |none=>none
theorem AX.gs{o:Oper}{d:Tmp}{b:Bool}(h1:Ysi ops o.guard=some d)(hb:a.get d=some (.bool b))(hn:yg ops a o.guard=none->True)(ht:b=true->AX E N k dr ops (o::rest) ((d,.bool true)::a) σ acc Q)(hf:b=false->AX E N k dr ops (o::rest) ((d,.bool false)::a) σ acc Q):AX E N k dr ops (o::rest) a σ acc Q:=
 AX.split d hb ht hf
theorem AX.wt{o:Oper}(h:yg ops a o.guard=some true)(h2:AX E N k dr ops (o::rest) a σ acc Q):AX E N k dr ops (o::rest) a σ acc Q:=h2
@[simp] theorem Ty.eta(t:Ty):Ty.mk t.kind t.args=t:=by cases t;rfl
@[simp] theorem Ty.Ai(k:Int)(xs:List Ty):(Ty.mk k xs).kind=k:=rfl
@[simp] theorem Ty.Af(k:Int)(xs:List Ty):(Ty.mk k xs).args=xs:=rfl
@[simp] theorem Tm.eta(t:Tm):Tm.mk t.kind t.index t.ty t.args=t:=by cases t;rfl
@[simp] theorem Tm.Ai(k i:Int)(h:Ty)(xs:List Tm):(Tm.mk k i h xs).kind=k:=rfl
@[simp] theorem Tm.AG(k i:Int)(h:Ty)(xs:List Tm):(Tm.mk k i h xs).index=i:=rfl
@[simp] theorem Tm.AO(k i:Int)(h:Ty)(xs:List Tm):(Tm.mk k i h xs).ty=h:=rfl
@[simp] theorem Tm.Af(k i:Int)(h:Ty)(xs:List Tm):(Tm.mk k i h xs).args=xs:=rfl
theorem AW.D6{t:Tmp}{x y:Code}{b:Bool}(hc:a.get t=some (.bool b))(ht:b=true->AW E N k x ((t,.bool true)::a) σ Q)(hf:b=false->AW E N k y ((t,.bool false)::a) σ Q):AW E N k (.cond (.tmp t) x y) a σ Q:=
 have key:∀b',b=b'->Bg E N k a σ ((t,.bool b')::a) σ:=fun b' hb=>Bg.slots fun u c hu=>by
  rw[AF.Bf] at hu;by_cases h:t=u
  .subst h;rw[if_pos rfl] at hu;rw[hc,hb];exact hu
  .rw[if_neg h] at hu;exact hu
 .cond hc (fun h=> .weak (key _ h) (ht h)) (fun h=> .weak (key _ h) (hf h))
theorem AW.OJ{ι:Type}{x y:Code}(J:ι->AF×Ao)(h:AW E N k x a σ (WY E N k J Q))(h2:∀i,AW E N k y (J i).1 (J i).2 Q):AW E N k x a σ (J6 E N k y Q):=
 h.mono fun e a σ hq=>by
  cases e with
  |normal=>obtain⟨i,hi⟩:=hq;exact(AW.weak hi (h2 i):AW E N k y a σ Q)
  |_=>exact hq
namespace K
theorem gR{B:Nat}{i d:Tmp}{m:Nat}{P:Nat->Prop}{J:Nat->AF×Ao}(h:Q .ret a σ):KF E N k B i d m P J Q .ret a σ:=h
theorem gE{B:Nat}{i d:Tmp}{m:Nat}{P:Nat->Prop}{J:Nat->AF×Ao}{id:Nat}(hb:Nat.beq id B=true)(h:Q .normal a σ):KF E N k B i d m P J Q (.exit id) a σ:=by simp only[KF,hb,cond_true];exact h
theorem gO{B:Nat}{i d:Tmp}{m:Nat}{P:Nat->Prop}{J:Nat->AF×Ao}{id:Nat}(hb:Nat.beq id B=false)(h:Q (.exit id) a σ):KF E N k B i d m P J Q (.exit id) a σ:=by simp only[KF,hb,cond_false];exact h
theorem bX{id id':Nat}(hb:Nat.beq id' id=true)(h:Q .normal a σ):uq id Q (.exit id') a σ:=by simp only[uq,hb,cond_true];exact h
end K
variable {d:Option Tmp} {ty:TypeId} {ps:String} {af:Array Edge} {gd:Option (Nat×Bool)}
namespace L
theorem NW{t:TypeId}{x:Operand}{sp:Sp}{e:EC}{l:List e.sem}{z:Nat}{zr:List V}{c:Option EC}{sz by_:Nat}(hw:yg ops a gd=some true)(hx:ev E t a x=some (.slice sp (.t e l)))(ht:E.ti t=some ⟨z,zr,.slc c sz by_⟩)(hd:ya N d=true)
 (h2:AX E N k dr ops rest (a.put d (.int .i64 l.length)) σ (⟨[],.int .i64 l.length,0,[]⟩::acc) Q):AX E N k dr ops (⟨d,.call ⟨.builtin .len,#[x],#[t]⟩,ty,ps,af,gd⟩::rest) a σ acc Q:=
 L.ln hw hx ht hd h2
theorem Fc(kk:Nat){t:TypeId}{x y:Operand}{z:Nat}{zr:List V}{c:EC}{co:Option EC}{sz bytes:Nat}{sp:Sp}{xs:List c.sem}{n:Int}{kd:IntKind}(hw:yg ops a gd=some true)(hx:ev E t a x=some (.slice sp (.t c xs)))(ht:E.ti t=some ⟨z,zr,.slc co sz bytes⟩)
 (hy:ev E 0 a y=some (.int kd n)) (hn:n=kk) (hsz:Nat.beq c.cells sz=true) (hd:ya N d=true) (hlt:kk<xs.length) (h2:AX E N k dr ops rest (a.put d (.addr (c.view xs[kk]))) σ (⟨[],.addr (c.view xs[kk]),0,[]⟩::acc) Q):AX E N k dr ops (⟨d,.indexAddr t x y,ty,ps,af,gd⟩::rest) a σ acc Q:=
 L.ix kk hw hx ht hy hn hlt (by simp[SL.get,hlt]) hsz hd h2
end L
end
end Go.Ab
